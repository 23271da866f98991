/-
Part 13 of the base.
-/
import Derived.Test.YtgdhpghfojccaaaGreatDoorRd12
import Derived.Deep.RegionHeld3
set_option maxRecDepth 100000
set_option maxHeartbeats 2000000
namespace Go.Proofs.YtgdhpghfojccaaaGreatDoor
open Go.RowKit
theorem c0y (x : Nat) (h : 0 < x) : 1 < (limbsOf x).length \/ ((limbsOf x).length = 1 /\ (limbsOf x).getD 0 0 = x) := by
 rcases Nat.lt_or_ge 1 (limbsOf x).length with h1 | h1
 ·exact .inl h1
 right
 have h2 : (limbsOf x).length ≠ 0 := fun e => a3s (by omega) (List.length_eq_zero_iff.1 e)
 have h3 : (limbsOf x).length = 1 := by omega
 refine ⟨h3, ?_⟩
 have h4 := a0r x
 revert h3 h4
 generalize limbsOf x = l
 intro h3 h4
 match l, h3 with
 | [y], _ =>
  rw [a1m, a2m] at h4
  rw [List.getD_cons_zero]; omega
theorem a6k (n : Nat) (w : World) (hn : n < 18446744073709551616) :
  Calls Tryz.prog 123 #[.int .u64 n] w fun e w' => e = .returned (.string (bs (bytesOf n))) /\ Below w.heap.size w w' := by
 go_enter Tryz.func123, Tryz.ntmps123
 go_wp2_with fail
 have hrow : Row (w.alloc (Obj.cells #[Value.int IntKind.u32 ((n : Int) % 4294967296), Value.int IntKind.u32 ((n : Int) / 4294967296)] 144)) w.heap.size [n % 4294967296, n / 4294967296] := by
  unfold Row
  rw [heap_alloc_new]
  simp
 refine (b5m _ [n % 4294967296, n / 4294967296] _ (hrow.limbsN ?_ rfl (by show 2 <= _; decide)) (by simp)).mono ?_
 ·rw [small_cons, small_cons]; exact ⟨Nat.mod_lt _ (by decide), by omega, a6e⟩
 rintro e w2 ⟨rfl, hb2⟩
 go_wp2
 go_ret
 refine ⟨?_, Ext.trans ((Below.refl _ _).alloc (Nat.le_refl _) _) hb2⟩
 rw [a1m, a1m, a2m, Nat.mul_zero, Nat.add_zero, Nat.mod_add_div]
 rfl
theorem b5n (n : Int) (w : World) (hn : -9223372036854775808 <= n) (hn2 : n <= 9223372036854775807) :
   Calls Tryz.prog 124 #[.int .i64 n] w fun e w' => e = .returned (.int .u64 (n.natAbs : Nat)) /\ w = w' := by
 by_cases h : n < 0
 rotate_left
 rotate_left
 all_goals
   go_enter Tryz.func124, Tryz.ntmps124
   go_wp2
   go_ret
 ·have e : (-(n + 1) + 1) = ((n.natAbs : Nat) : Int) := by omega
  rw [e]
  exact ⟨rfl, rfl⟩
 have e : n = ((n.natAbs : Nat) : Int) := by omega
 rw [<- e]
 exact ⟨rfl, rfl⟩
theorem a6h (v : Value) (n : Nat) (w : World) (h : Limbs w v (limbsOf n)) (hsz : (limbsOf n).length <= 274877906944) :
  Calls Tryz.prog 145 #[v] w fun e w' => e = .returned (.string (bs (bytesOf n))) /\ Below w.heap.size w w' := by
 have h := b5m v _ w h hsz
 rwa [a0r] at h
theorem Raw.far {w : World} {g : Nat} {neg : Bool} {num den : List UInt8} (h : Raw w g neg num den) {p : Addr} (hp : g ≠ p.block) (u : Value) : Raw (w.setCell p u) g neg num den :=
 (Below.heap_setCell w p u g hp).trans h
theorem b4b {n : Nat} (h : n ≠ 0) : (((limbsOf n).length : Int) == 0) = false := by
 rw [beq_eq_false_iff_ne]
 intro e
 exact a3s h (List.length_eq_zero_iff.1 (by omega))
theorem b9d (neg : Bool) (vn vd : Value) (n d : Nat) (w : World) (hn : Limbs w vn (limbsOf n)) (hd : Limbs w vd (limbsOf d)) (hd0 : d ≠ 0) (ln : (limbsOf n).length <= 137438953472) (ld : (limbsOf d).length <= 137438953472) :
   Calls Tryz.prog 113 #[.bool neg, vn, vd] w fun e w' => e = .returned (rat (mkRat (signed neg n) d)) /\ Below w.heap.size w w' := by
 have k0 : Raw (w.alloc (Obj.cells #[.bool false, .string (bs []), .string (bs [])] 48)) w.heap.size false [] [] := Blk.new w _ _
 have hbw : Hid (Below w.heap.size w (w.alloc (Obj.cells #[.bool false, .string (bs []), .string (bs [])] 48))) := Ext.alloc (Below.refl _ _) _
 have K0 := zh k0
 clear k0
 have hn1 := hn.below hbw.out
 have hd1 := hd.below hbw.out
 obtain ⟨An, cn, rfl, hcn, hcn'⟩ := hn.slice
 have HN := zh hn1
 have HD := zh hd1
 clear hn hd hn1 hd1
 by_cases h0 : n = 0
 subst h0
 rw [(b2v (neg := neg) (n := 0) hd0).1 rfl, c0t, a0w]
 clear HN HD hcn hcn' ln ld
 rotate_left
 rw [rat_mk h0 hd0]
 have hz := b4b h0
 obtain ⟨g, hg⟩ : ∃ g, g = Nat.gcd n d := ⟨_, rfl⟩
 have hg0 : 0 < g := by rw [hg]; exact Nat.gcd_pos_of_pos_left d (by omega)
 have hdn : g ∣ n := by rw [hg]; exact Nat.gcd_dvd_left n d
 have hdd : g ∣ d := by rw [hg]; exact Nat.gcd_dvd_right n d
 have lg := a4a (Nat.le_of_dvd (by omega) hdn) ln
 have lq := a4a (Nat.div_le_self n g) ln
 have lr := a4a (Nat.div_le_self d g) ld
 have hq0 : 0 < n / g := Nat.div_pos (Nat.le_of_dvd (by omega) hdn) hg0
 have hr0 : 0 < d / g := Nat.div_pos (Nat.le_of_dvd (by omega) hdd) hg0
 have HG := zh hg
 rw [<- hg]
 clear hg hdn hdd h0 hd0
 rotate_left
 all_goals
   go_enter Tryz.func113, Tryz.ntmps113
 ·go_wp2
  exact bodyPost_ret (a0q rfl _ _ _ _ _ _ rfl (Blk.new w _ _)) rfl ⟨rfl, Ext.alloc (Below.refl _ _) _⟩
 go_wp2_with fail
 refine (b4k _ _ n d _ HN.out HD.out (by omega) (by omega)).mono ?_
 rintro e w1 ⟨v1, rfl, h1, hb1⟩
 rw [<- HG.out] at h1
 have HN1 := zh (HN.out.below hb1)
 have HD1 := zh (HD.out.below hb1)
 obtain ⟨Ag, cg, rfl, hcg, hcg'⟩ := h1.slice
 have H1 := zh h1
 have HB1 := zh hb1
 clear h1 hb1 HN HD
 go_upto_region 4 with (fail)
 go_cut [24] (fun c wx => ∃ b : Bool, c = .bool b /\ Hid (b = decide (g ≠ 1)) /\ w1 = wx)
 case first =>
   rcases c0y g hg0 with hl | ⟨hl, hl0⟩
   ·have hl' : decide ((1 : Int) < ((limbsOf g).length : Int)) = true := decide_eq_true (by omega)
    have hgg : Hid (true = decide (g ≠ 1)) := by
     show _ = _
     symm
     rw [decide_eq_true_eq]
     rintro rfl
     have := a2h 1 1 (by decide)
     omega
    clear hl
    go_wp2
    go_meet
    case rel => exact ⟨true, rfl, hgg, rfl⟩
   have hl' : decide ((1 : Int) < ((limbsOf g).length : Int)) = false := decide_eq_false (by omega)
   obtain ⟨bb, ob, y0, rfl, hbb, hy, hyb, hyc⟩ := H1.out.at_ (j := 0) (by omega)
   rw [hl0] at hy
   subst hy
   have hc0 := hyc w1 (Below.refl _ _)
   rw [Nat.add_zero] at hc0
   have hpos : (0 : Int) < ((limbsOf y0).length : Int) := by omega
   clear hyc hl hl0
   by_cases hg1 : y0 = 1
   ·have hgg : Hid (false = decide (y0 ≠ 1)) := by show _ = _; simp [hg1]
    have ht : decide ((1 : Int) < (y0 : Int)) = false := decide_eq_false (by omega)
    clear hg1
    go_wp2
    go_meet
    case rel => exact ⟨false, rfl, hgg, rfl⟩
   have hgg : Hid (true = decide (y0 ≠ 1)) := by show _ = _; simp [hg1]
   have ht : decide ((1 : Int) < (y0 : Int)) = true := decide_eq_true (by omega)
   clear hg1
   go_wp2
   go_meet
   case rel => exact ⟨true, rfl, hgg, rfl⟩
 case rest =>
   obtain ⟨b, rfl, HBG, rfl⟩ := hcut
   have H1g := zh H1.out
   go_upto_if 24 with (fail)
   go_cut [1, 2] (fun v1 v2 wx => Hid (Limbs wx v1 (limbsOf (n / g))) /\ Hid (Limbs wx v2 (limbsOf (d / g))) /\ Hid (Below w1.heap.size w1 wx))
   case first =>
    cases b
    ·have hg1 : g = 1 := by have := HBG.out; simpa using this
     go_wp2
     go_meet
     case rel =>
      refine ⟨?_, ?_, Below.refl _ _⟩
      ·show Limbs _ _ _
       rw [hg1, Nat.div_one]; exact HN1.out
      show Limbs _ _ _
      rw [hg1, Nat.div_one]; exact HD1.out
    go_wp2_with fail
    refine (a9j _ _ n g _ HN1.out H1.out hg0 (by omega)).mono ?_
    rintro e w2 ⟨vq, vr, rfl, hq2, _, hb2⟩
    have HQ2 := zh hq2
    have HB2 := zh hb2
    clear hq2 hb2
    go_wp2_with fail
    refine (a9j _ _ d g _ (HD1.out.below HB2.out) (H1.out.below HB2.out) hg0 (by omega)).mono ?_
    rintro e w3 ⟨vq3, vr3, rfl, hq3, _, hb3⟩
    have HQ3 := zh hq3
    have HB3 := zh hb3
    clear hq3 hb3
    go_wp2
    go_meet
    case rel => exact ⟨HQ2.out.below HB3.out, HQ3.out, Ext.trans HB2.out HB3.out⟩
   case rest =>
    obtain ⟨HQ, HR, HBC⟩ := hcut
    have hb01 := Ext.trans HB1.out HBC.out
    have K1 := zh (K0.out.below hb01 (by rw [size_alloc]; omega))
    have HBW := zh (Ext.trans hbw.out hb01)
    clear hb01 hcg hcg' hcn hcn' hz hq0
    obtain ⟨Ar, cr, rfl, hcr, hcr'⟩ := HR.out.slice
    rcases c0y (d / g) hr0 with hl | ⟨hl, hl0⟩
    ·have hl' : decide ((1 : Int) < ((limbsOf (d / g)).length : Int)) = true := decide_eq_true (by omega)
     have hne : Hid (denB (d / g) = bytesOf (d / g)) := by
      show _ = _
      rw [denB, if_neg]
      intro h1
      rw [h1] at hl
      have := a2h 1 1 (by decide)
      omega
     clear hl
     go_wp2_with fail
     refine (a6h _ (n / g) _ HQ.out (by omega)).mono ?_
     rintro e w4 ⟨rfl, hb4⟩
     go_wp2_with fail
     have HR4 := zh (HR.out.below (Ext.alloc hb4 (Obj.cells #[.bool neg, .string (bs (bytesOf (n / g))), .string (bs [])] 48)))
     refine (a6h _ (d / g) _ HR4.out (by omega)).mono ?_
     rintro e w5 ⟨rfl, hb5⟩
     have kr := (Blk.new w4 #[.bool neg, .string (bs (bytesOf (n / g))), .string (bs [])] 48).below hb5 (by rw [size_alloc]; omega)
     have hb45 := Ext.trans hb4 (Ext.trans (Ext.alloc (Below.refl _ _) _) hb5)
     have k1 := K1.out.below hb45 (Raw.lt K1.out)
     have hlt : w.heap.size < w4.heap.size := Nat.lt_of_lt_of_le (Raw.lt K1.out) hb4.size
     have r0 := kr.cell 0 _ rfl
     have r1 := kr.cell 1 _ rfl
     have r2 := kr.cell 2 _ rfl
     have y2 := kr.frozen 2
     have z0 := k1.frozen 0
     have z1 := k1.frozen 1
     have z2 := k1.frozen 2
     have d0 := k1.c0
     have d1 := k1.c1
     have d2 := k1.c2
     have KR := zh kr
     have KK := zh k1
     have HB := zh (Ext.trans HBW.out hb45)
     clear kr k1 hb45 hb4 hb5
     go_wp2
     rw [hne.out]
     exact bodyPost_ret (a0q rfl _ _ _ _ _ _ rfl ((KK.out.far (by simp; omega) _).put _ _ _)) rfl ⟨rfl, a1f (HB.out.setCell (by simp; omega) _) (Nat.le_refl _) _ _ _⟩
    have hl' : decide ((1 : Int) < ((limbsOf (d / g)).length : Int)) = false := decide_eq_false (by omega)
    have hpos : (0 : Int) < ((limbsOf (d / g)).length : Int) := by omega
    obtain ⟨bb, ob, y0, rfl, hbb, hy, hyb, hyc⟩ := HR.out.at_ (j := 0) (by omega)
    rw [hl0] at hy
    have HYC := zh hyc
    have HY := zh hy
    clear hyc hl hl0 hy
    by_cases hg1 : y0 = 1
    ·have hne : Hid (denB (d / g) = []) := by
      show _ = _
      rw [denB, if_pos (by rw [<- HY.out]; exact hg1)]
     have ht : decide ((1 : Int) < (y0 : Int)) = false := decide_eq_false (by omega)
     clear hg1
     go_wp2_with fail
     refine (a6h _ (n / g) _ HQ.out (by omega)).mono ?_
     rintro e w4 ⟨rfl, hb4⟩
     have hc4 := HYC.out _ (Ext.alloc hb4 (Obj.cells #[.bool neg, .string (bs (bytesOf (n / g))), .string ⟨#[]⟩] 48))
     rw [Nat.add_zero] at hc4
     have k1 := (K1.out.below hb4 (Raw.lt K1.out)).alloc (Obj.cells #[.bool neg, .string (bs (bytesOf (n / g))), .string ⟨#[]⟩] 48)
     have z0 := k1.frozen 0
     have z1 := k1.frozen 1
     have z2 := k1.frozen 2
     have d0 := k1.c0
     have d1 := k1.c1
     have d2 := k1.c2
     have KK := zh k1
     have HB := zh (Ext.alloc (Ext.trans HBW.out hb4) (Obj.cells #[.bool neg, .string (bs (bytesOf (n / g))), .string (bs [])] 48))
     clear k1 hb4
     go_wp2
     rw [hne.out]
     exact bodyPost_ret (a0q rfl _ _ _ _ _ _ rfl (KK.out.put _ _ _)) rfl ⟨rfl, a1f HB.out (Nat.le_refl _) _ _ _⟩
    have hne : Hid (denB (d / g) = bytesOf (d / g)) := by
     show _ = _
     rw [denB, if_neg (by rw [<- HY.out]; exact hg1)]
    have hy0 : 0 < y0 := by rw [HY.out]; exact hr0
    have ht : decide ((1 : Int) < (y0 : Int)) = true := decide_eq_true (by omega)
    clear hg1 hy0
    go_wp2_with fail
    refine (a6h _ (n / g) _ HQ.out (by omega)).mono ?_
    rintro e w4 ⟨rfl, hb4⟩
    have hc4 := HYC.out _ (Ext.alloc hb4 (Obj.cells #[.bool neg, .string (bs (bytesOf (n / g))), .string ⟨#[]⟩] 48))
    rw [Nat.add_zero] at hc4
    go_wp2_with fail
    have HR4 := zh (HR.out.below (Ext.alloc hb4 (Obj.cells #[.bool neg, .string (bs (bytesOf (n / g))), .string (bs [])] 48)))
    refine (a6h _ (d / g) _ HR4.out (by omega)).mono ?_
    rintro e w5 ⟨rfl, hb5⟩
    have kr := (Blk.new w4 #[.bool neg, .string (bs (bytesOf (n / g))), .string (bs [])] 48).below hb5 (by rw [size_alloc]; omega)
    have hb45 := Ext.trans hb4 (Ext.trans (Ext.alloc (Below.refl _ _) _) hb5)
    have k1 := K1.out.below hb45 (Raw.lt K1.out)
    have hlt : w.heap.size < w4.heap.size := Nat.lt_of_lt_of_le (Raw.lt K1.out) hb4.size
    have r0 := kr.cell 0 _ rfl
    have r1 := kr.cell 1 _ rfl
    have r2 := kr.cell 2 _ rfl
    have y2 := kr.frozen 2
    have z0 := k1.frozen 0
    have z1 := k1.frozen 1
    have z2 := k1.frozen 2
    have d0 := k1.c0
    have d1 := k1.c1
    have d2 := k1.c2
    have KR := zh kr
    have KK := zh k1
    have HB := zh (Ext.trans HBW.out hb45)
    clear kr k1 hb45 hb4 hb5
    go_wp2
    rw [hne.out]
    exact bodyPost_ret (a0q rfl _ _ _ _ _ _ rfl ((KK.out.far (by simp; omega) _).put _ _ _)) rfl ⟨rfl, a1f (HB.out.setCell (by simp; omega) _) (Nat.le_refl _) _ _ _⟩
theorem ref_Make (neg : Bool) (num den : List UInt8) (w : World) (hn : num.length <= 68719476736) (hd : den.length <= 68719476736) (hd0 : bv den ≠ 0) :
  Calls Tryz.prog 122 #[.bool neg, .string (bs num), .string (bs den)] w fun e w' => e = .returned (.tuple #[rat (mkRat (signed neg (bv num)) (bv den)), .bool true]) /\ Below w.heap.size w w' := by
 have k0 : Raw (w.alloc (Obj.cells #[.bool false, .string (bs []), .string (bs [])] 48)) w.heap.size false [] [] := Blk.new w _ _
 have hbw : Hid (Below w.heap.size w (w.alloc (Obj.cells #[.bool false, .string (bs []), .string (bs [])] 48))) := Ext.alloc (Below.refl _ _) _
 have ln := a1t num
 have ld := a1t den
 have hP := fun W => a8u (bs num) W (by rw [a7b]; omega)
 have hQ := fun W => a8u (bs den) W (by rw [a7b]; omega)
 rw [a7c] at hP hQ
 have K0 := zh k0
 generalize bv num = n at *
 generalize bv den = d at *
 have hz := b4b hd0
 have hR := fun (v1 v2 : Value) W (h1 : Limbs W v1 (limbsOf n)) (h2 : Limbs W v2 (limbsOf d)) => b9d neg v1 v2 n d W h1 h2 hd0 (by omega) (by omega)
 have HP := zh hP
 have HQ := zh hQ
 have HR := zh hR
 clear hP hQ k0 hd0 hR
 generalize mkRat (signed neg n) d = q at *
 unfold rat raw at *
 go_enter Tryz.func122, Tryz.ntmps122
 go_wp2_with fail
 refine (HQ.out _).mono ?_
 rintro e w1 ⟨v1, rfl, h1, hb1⟩
 obtain ⟨A, c, rfl, hc, hc'⟩ := h1.slice
 have H1 := zh h1
 clear h1
 go_wp2_with fail
 refine (HP.out _).mono ?_
 rintro e w2 ⟨v2, rfl, h2, hb2⟩
 have H2 := zh h2
 clear h2
 go_wp2_with fail
 refine (HR.out _ _ _ H2.out (H1.out.below hb2)).mono ?_
 rintro e w3 ⟨rfl, hb3⟩
 have hb12 := Ext.trans hb1 (Ext.trans hb2 hb3)
 have k1 := K0.out.below hb12 (by rw [size_alloc]; omega)
 have z0 := k1.frozen 0
 have z1 := k1.frozen 1
 have z2 := k1.frozen 2
 have d0 := k1.c0
 have d1 := k1.c1
 have d2 := k1.c2
 have K1 := zh k1
 have HB := zh (Ext.trans hbw.out hb12)
 clear k1 hb1 hb2 hb3 hb12
 go_wp2
 exact bodyPost_ret (b2b rfl _ _ _ _ _ _ rfl (K1.out.put _ _ _)) rfl ⟨rfl, a1f HB.out (Nat.le_refl _) _ _ _⟩
theorem c1v (a : Int) : signed (decide (a < 0)) a.natAbs = a := by
 unfold signed
 by_cases h : a < 0 <;> simp [h] <;> omega
theorem b7g (a b : Int) (w : World) (ha : -9223372036854775808 <= a) (ha2 : a <= 9223372036854775807) (hb : 0 < b) (hb2 : b <= 9223372036854775807) :
  Calls Tryz.prog 85 #[.int .i64 a, .int .i64 b] w fun e w' => e = .returned (.tuple #[rat (mkRat a b.toNat), .bool true]) /\ Below w.heap.size w w' := by
 have k0 : Raw (w.alloc (Obj.cells #[.bool false, .string (bs []), .string (bs [])] 48)) w.heap.size false [] [] := Blk.new w _ _
 have hbw : Hid (Below w.heap.size w (w.alloc (Obj.cells #[.bool false, .string (bs []), .string (bs [])] 48))) := Ext.alloc (Below.refl _ _) _
 have la := c5p a.natAbs (by omega)
 have lb := c5p b.natAbs (by omega)
 have eb : b.natAbs = b.toNat := by omega
 have hSa := fun W => b5n a W ha ha2
 have hSb := fun W => b5n b W (by omega) hb2
 have hFa := fun W => a6k a.natAbs W (by omega)
 have hFb := fun W => a6k b.natAbs W (by omega)
 have hM := fun W => ref_Make (decide (a < 0)) (bytesOf a.natAbs) (bytesOf b.natAbs) W (by omega) (by omega) (by rw [a0b]; omega)
 rw [a0b, a0b, c1v, eb] at hM
 rw [eb] at hFb hSb
 have hneg : decide (b < 0) = false := decide_eq_false (by omega)
 have K0 := zh k0
 have HSa := zh hSa
 have HSb := zh hSb
 have HFa := zh hFa
 have HFb := zh hFb
 have HM := zh hM
 clear k0 hSa hSb hFa hFb hM eb la lb
 generalize mkRat a b.toNat = q at *
 generalize b.toNat = bn at *
 generalize a.natAbs = an at *
 unfold rat raw at *
 generalize hneg2 : decide (a < 0) = na at *
 cases na
 all_goals
  go_enter Tryz.func85, Tryz.ntmps85
  go_wp2_with fail
  refine (HSa.out _).mono ?_
  rintro e w1 ⟨rfl, rfl⟩
  go_wp2_with fail
  refine (HFa.out _).mono ?_
  rintro e w2 ⟨rfl, hb2⟩
  go_wp2_with fail
  refine (HSb.out _).mono ?_
  rintro e w3 ⟨rfl, rfl⟩
  go_wp2_with fail
  refine (HFb.out _).mono ?_
  rintro e w4 ⟨rfl, hb4⟩
  go_wp2_with fail
  refine (HM.out _).mono ?_
  rintro e w5 ⟨rfl, hb5⟩
  have hb12 := Ext.trans hb2 (Ext.trans hb4 hb5)
  have k1 := K0.out.below hb12 (by rw [size_alloc]; omega)
  have z0 := k1.frozen 0
  have z1 := k1.frozen 1
  have z2 := k1.frozen 2
  have d0 := k1.c0
  have d1 := k1.c1
  have d2 := k1.c2
  have K1 := zh k1
  have HB := zh (Ext.trans hbw.out hb12)
  clear k1 hb2 hb4 hb5 hb12
  go_wp2
  exact bodyPost_ret (b2b rfl _ _ _ _ _ _ rfl (K1.out.put _ _ _)) rfl ⟨rfl, a1f HB.out (Nat.le_refl _) _ _ _⟩
theorem a2c (a : List UInt8) (w : World) (ha : a.length <= 68719476736) : Calls Tryz.prog 129 #[.string (bs a)] w fun e w' => e = .returned (.string (bs (norm a))) /\ w = w' := a5t (bs a) w (by rw [a7b]; omega)
theorem c3q (neg : Bool) (num den : List UInt8) (w : World) (hn : num.length <= 68719476736) (hd : den.length <= 68719476736) :
  Calls Tryz.prog 93 #[raw neg num den] w fun e w' => e = .returned (.bool (a1y neg num den)) /\ Below w.heap.size w w' := by
 unfold raw
 by_cases h1 : norm num = num
 ·have f1 : ((bs (norm num)).toList == (bs num).toList) = true := a8g h1
  by_cases h2 : norm den = den
  ·have f2 : ((bs (norm den)).toList == (bs den).toList) = true := a8g h2
   by_cases h5 : den = [1]
   ·have f5 : ((bs den).toList == [1]) = true := b9z h5
    have hv : a1y neg num den = false := by unfold a1y; simp [h5]
    rw [hv]
    clear h1 h2 hv h5
    go_enter Tryz.func93, Tryz.ntmps93
    go_wp2
    go_quiet (first
     | (go_at_call 129; with_reducible refine Calls.quiet_same (a2c num _ hn))
     | (go_at_call 129; with_reducible refine Calls.quiet_same (a2c den _ hd)))
    go_wp2
    go_ret
    exact ⟨rfl, a0f ((Below.refl _ _).alloc (Nat.le_refl _) _) _⟩
   have f5 : ((bs den).toList == [1]) = false := a8h h5
   have hv : a1y neg num den = (if num = [] then !neg && den == [] else den == [] || Nat.gcd (bv num) (bv den) == 1) := by
    have e : (den == [1]) = false := by rw [beq_eq_false_iff_ne]; exact h5
    unfold a1y; simp [h1, h2, e]
   rw [hv]
   clear h1 h2 hv h5
   by_cases h3 : num = []
   ·have f3 := a3m h3
    rw [if_pos h3]
    clear h3
    by_cases h4 : den = []
    ·have f4 := a3m h4
     have e1 : (den == []) = true := by simp [h4]
     rw [e1]
     clear h4 e1
     cases neg
     all_goals go_enter Tryz.func93, Tryz.ntmps93
     all_goals go_wp2
     all_goals go_quiet (first
      | (go_at_call 129; with_reducible refine Calls.quiet_same (a2c num _ hn))
      | (go_at_call 129; with_reducible refine Calls.quiet_same (a2c den _ hd)))
     all_goals go_wp2
     all_goals go_ret
     all_goals exact ⟨rfl, a0f ((Below.refl _ _).alloc (Nat.le_refl _) _) _⟩
    have f4 := a1u h4
    have e1 : (den == []) = false := by simp [h4]
    rw [e1]
    clear h4 e1
    cases neg
    all_goals go_enter Tryz.func93, Tryz.ntmps93
    all_goals go_wp2
    all_goals go_quiet (first
     | (go_at_call 129; with_reducible refine Calls.quiet_same (a2c num _ hn))
     | (go_at_call 129; with_reducible refine Calls.quiet_same (a2c den _ hd)))
    all_goals go_wp2
    all_goals go_ret
    all_goals exact ⟨rfl, a0f ((Below.refl _ _).alloc (Nat.le_refl _) _) _⟩
   have f3 := a1u h3
   rw [if_neg h3]
   clear h3
   by_cases h4 : den = []
   ·have f4 := a3m h4
    have e1 : (den == []) = true := by simp [h4]
    rw [e1]
    clear h4 e1
    go_enter Tryz.func93, Tryz.ntmps93
    go_wp2
    go_quiet (first
     | (go_at_call 129; with_reducible refine Calls.quiet_same (a2c num _ hn))
     | (go_at_call 129; with_reducible refine Calls.quiet_same (a2c den _ hd)))
    go_wp2
    go_ret
    exact ⟨rfl, a0f ((Below.refl _ _).alloc (Nat.le_refl _) _) _⟩
   have f4 := a1u h4
   have e1 : (den == []) = false := by simp [h4]
   rw [e1, Bool.false_or]
   clear h4 e1
   obtain ⟨g, hg⟩ : ∃ g, g = Nat.gcd (bv num) (bv den) := ⟨_, rfl⟩
   have hG := fun W => ref_GCD num den W hn hd
   rw [<- hg] at hG ⊢
   have HG := zh hG
   clear hG hg
   by_cases h6 : g = 1
   ·have f6 : ((bs (bytesOf g)).toList == [1]) = true := b9z (by rw [h6, a0z])
    have e3 : (g == 1) = true := by simp [h6]
    rw [e3]
    clear h6 e3
    go_enter Tryz.func93, Tryz.ntmps93
    go_wp2
    go_quiet (first
     | (go_at_call 129; with_reducible refine Calls.quiet_same (a2c num _ hn))
     | (go_at_call 129; with_reducible refine Calls.quiet_same (a2c den _ hd)))
    go_wp2_with (go_at_call 130; refine (HG.out _).mono ?_; rintro e w' ⟨rfl, hb⟩)
    go_ret
    exact ⟨rfl, Ext.trans (a0f ((Below.refl _ _).alloc (Nat.le_refl _) _) _) hb⟩
   have f6 : ((bs (bytesOf g)).toList == [1]) = false := a8h (by rw [<- a0z]; exact fun e => h6 (a3p e))
   have e3 : (g == 1) = false := by simp [h6]
   rw [e3]
   clear h6 e3
   go_enter Tryz.func93, Tryz.ntmps93
   go_wp2
   go_quiet (first
    | (go_at_call 129; with_reducible refine Calls.quiet_same (a2c num _ hn))
    | (go_at_call 129; with_reducible refine Calls.quiet_same (a2c den _ hd)))
   go_wp2_with (go_at_call 130; refine (HG.out _).mono ?_; rintro e w' ⟨rfl, hb⟩)
   go_ret
   exact ⟨rfl, Ext.trans (a0f ((Below.refl _ _).alloc (Nat.le_refl _) _) _) hb⟩
  have f2 : ((bs (norm den)).toList == (bs den).toList) = false := a4p h2
  have hv : a1y neg num den = false := by unfold a1y; simp [h2]
  rw [hv]
  clear h1 h2 hv
  go_enter Tryz.func93, Tryz.ntmps93
  go_wp2
  go_quiet (first
   | (go_at_call 129; with_reducible refine Calls.quiet_same (a2c num _ hn))
   | (go_at_call 129; with_reducible refine Calls.quiet_same (a2c den _ hd)))
  go_wp2
  go_ret
  exact ⟨rfl, a0f ((Below.refl _ _).alloc (Nat.le_refl _) _) _⟩
 have f1 : ((bs (norm num)).toList == (bs num).toList) = false := a4p h1
 have hv : a1y neg num den = false := by unfold a1y; simp [h1]
 rw [hv]
 clear h1 hv
 go_enter Tryz.func93, Tryz.ntmps93
 go_wp2
 go_quiet (first
  | (go_at_call 129; with_reducible refine Calls.quiet_same (a2c num _ hn))
  | (go_at_call 129; with_reducible refine Calls.quiet_same (a2c den _ hd)))
 go_wp2
 go_ret
 exact ⟨rfl, a0f ((Below.refl _ _).alloc (Nat.le_refl _) _) _⟩
theorem c1y (neg : Bool) (num den : List UInt8) (w : World) :
  Calls Tryz.prog 53 #[raw neg num den] w fun e w' => e = .returned (.int .i64 (sgnR neg num)) /\ Below w.heap.size w w' := by
 unfold raw sgnR
 by_cases h : num = []
 ·have h1 := a3m h
  rw [if_pos h]
  have H := zh h
  clear h
  go_enter Tryz.func53, Tryz.ntmps53
  go_wp2
  go_ret
  exact ⟨rfl, (Below.refl _ _).alloc (Nat.le_refl _) _⟩
 have h1 := a1u h
 rw [if_neg h]
 cases neg
 all_goals go_enter Tryz.func53, Tryz.ntmps53
 all_goals go_wp2
 all_goals go_ret
 all_goals exact ⟨rfl, (Below.refl _ _).alloc (Nat.le_refl _) _⟩
theorem ref_Fix (neg : Bool) (num den : List UInt8) (w : World) (hn : num.length <= 68719476736) (hd : den.length <= 68719476736) :
   Calls Tryz.prog 54 #[raw neg num den] w fun e w' => e = .returned (rat (decR neg num den)) /\ Below w.heap.size w w' := by
 have hV := fun W => c3q neg num den W hn hd
 unfold raw at hV ⊢
 have K1 : Hid (Raw ((w.alloc (Obj.cells #[.bool neg, .string (bs num), .string (bs den)] 48)).alloc (Obj.cells #[.bool false, .string (bs []), .string (bs [])] 48)) w.heap.size neg num den) := (Blk.new w _ 48).alloc _
 have K2 : Hid (Raw ((w.alloc (Obj.cells #[.bool neg, .string (bs num), .string (bs den)] 48)).alloc (Obj.cells #[.bool false, .string (bs []), .string (bs [])] 48)) (w.heap.size + 1) false [] []) := Blk.new1 w _ _ _
 have hbw : Hid (Below w.heap.size w ((w.alloc (Obj.cells #[.bool neg, .string (bs num), .string (bs den)] 48)).alloc (Obj.cells #[.bool false, .string (bs []), .string (bs [])] 48))) := Ext.alloc (Ext.alloc (Below.refl _ _) _) _
 by_cases h : a1y neg num den = true
 have hr : rat (decR neg num den) = .agg #[.bool neg, .string (bs num), .string (bs den)] := by
   obtain ⟨a, b, c⟩ := c5f h
   unfold rat raw; rw [a, b, c]
 rw [hr]
 rw [h] at hV
 have HV := zh hV
 clear hV h hr
 rotate_left
 have hf : a1y neg num den = false := by simpa using h
 have hr : rat (decR neg num den) = .agg #[.bool false, .string (bs []), .string (bs [])] := by
   obtain ⟨a, b, c⟩ := b6j
   rw [b2x hf]
   unfold rat raw; rw [a, b, c]
 rw [hr]
 rw [hf] at hV
 have HV := zh hV
 clear hV h hf hr
 rotate_left
 all_goals
   go_enter Tryz.func54, Tryz.ntmps54
   go_wp2_with fail
   refine (HV.out _).mono ?_
   rintro e w' ⟨rfl, hb⟩
 ·have k1 := K1.out.below hb (by rw [size_alloc, size_alloc]; omega)
  have k2 := K2.out.below hb (by rw [size_alloc, size_alloc]; omega)
  have c0 := k1.c0
  have c1 := k1.c1
  have c2 := k1.c2
  have d0 := k2.c0
  have d1 := k2.c1
  have d2 := k2.c2
  have z0 := k2.frozen 0
  have z1 := k2.frozen 1
  have z2 := k2.frozen 2
  have hb2 := zh (hbw.out.trans (hb.mono (by rw [size_alloc, size_alloc]; omega)))
  have hk2 := zh k2
  clear k1 k2 hb
  go_wp2
  refine bodyPost_ret (a0q rfl _ _ _ _ _ _ rfl (hk2.out.put neg num den)) rfl ?_
  exact ⟨rfl, a1f hb2.out (Nat.le_succ _) _ _ _⟩
 have k2 := K2.out.below hb (by rw [size_alloc, size_alloc]; omega)
 have d0 := k2.c0
 have d1 := k2.c1
 have d2 := k2.c2
 have z0 := k2.frozen 0
 have z1 := k2.frozen 1
 have z2 := k2.frozen 2
 have hb2 := zh (hbw.out.trans (hb.mono (by rw [size_alloc, size_alloc]; omega)))
 have hk2 := zh k2
 clear k2 hb
 go_wp2
 refine bodyPost_ret (a0q rfl _ _ _ _ _ _ rfl (hk2.out.put false [] [])) rfl ?_
 exact ⟨rfl, a1f hb2.out (Nat.le_succ _) _ _ _⟩
theorem b5p (neg : Bool) (num den : List UInt8) (w : World) (hn : num.length <= 68719476736) (hd : den.length <= 68719476736) :
  Calls Tryz.prog 25 #[raw neg num den] w fun e w' => e = .returned (.int .i64 (sgn (decR neg num den).num)) /\ Below w.heap.size w w' := by
 have hV := fun W => ref_Fix neg num den W hn hd
 generalize decR neg num den = q at *
 have hs : sgnR (negB q) (numB q) = sgn q.num := by
  unfold sgnR numB
  have := a5v q
  by_cases h0 : q.num = 0
  ·rw [h0]; simp [a0v, a8r]
  rw [if_neg (fun e => h0 (by have := bytesOf_eq_nil.1 e; omega))]
  rcases Int.lt_or_lt_of_ne h0 with h | h
  ·rw [a4g h]; unfold negB; simp [this.2 h]
  rw [a4f h]; unfold negB
  have h1 : ¬ q < 0 := fun h2 => by have := this.1 h2; omega
  simp [h1]
 unfold raw at hV ⊢
 have HV := zh hV
 have HS := zh hs
 clear hV hs
 go_enter Tryz.func25, Tryz.ntmps25
 go_wp2_with fail
 refine (HV.out _).mono ?_
 rintro e w1 ⟨rfl, hb1⟩
 go_wp2_with fail
 refine (c1y (negB q) (numB q) (a0n q) _).mono ?_
 rintro e w2 ⟨rfl, hb2⟩
 rw [HS.out]
 go_wp2
 go_ret
 exact ⟨rfl, (Ext.trans (Ext.alloc (Below.refl _ _) _) (Ext.trans hb1 hb2))⟩
theorem Raw.drew {w : World} {g : Nat} {neg : Bool} {num den : List UInt8} (h : Raw w g neg num den) : Raw w.drew g neg num den := h
theorem int_enc (n : Int) : rat (n : Rat) = raw (decide (n < 0)) (bytesOf n.natAbs) [] := by
 unfold rat
 have h1 : negB (n : Rat) = decide (n < 0) := by
  unfold negB
  exact decide_eq_decide.2 (a5v (n : Rat))
 rw [h1]
 rfl
theorem ref_Int (n : Int) (w : World) (hn : -9223372036854775808 <= n) (hn2 : n <= 9223372036854775807) :
  Calls Tryz.prog 86 #[.int .i64 n] w fun e w' => e = .returned (rat (n : Rat)) /\ Below w.heap.size w w' := by
 have k0 : Raw (w.alloc (Obj.cells #[.bool false, .string (bs []), .string (bs [])] 48)) w.heap.size false [] [] := Blk.new w _ _
 have hbw : Hid (Below w.heap.size w (w.alloc (Obj.cells #[.bool false, .string (bs []), .string (bs [])] 48))) := Ext.alloc (Below.refl _ _) _
 have hS := fun W => b5n n W hn hn2
 have hF := fun W => a6k n.natAbs W (by omega)
 rw [int_enc]
 have HS := zh hS
 have HF := zh hF
 have K0 := zh k0
 clear hS hF k0
 generalize n.natAbs = m at *
 generalize hng : decide (n < 0) = ng at *
 unfold raw
 go_enter Tryz.func86, Tryz.ntmps86
 go_wp2_with fail
 refine (HS.out _).mono ?_
 rintro e w1 ⟨rfl, rfl⟩
 go_wp2_with fail
 refine (HF.out _).mono ?_
 rintro e w2 ⟨rfl, hb2⟩
 have k1 := K0.out.below hb2 (Raw.lt K0.out)
 have z0 := k1.frozen 0
 have z1 := k1.frozen 1
 have z2 := k1.frozen 2
 have d0 := k1.c0
 have d1 := k1.c1
 have d2 := k1.c2
 have K1 := zh k1
 have HB := zh (Ext.trans hbw.out hb2)
 clear k1 hb2
 go_wp2
 exact bodyPost_ret (a0q rfl _ _ _ _ _ _ rfl (K1.out.put _ _ _)) rfl ⟨rfl, a1f HB.out (Nat.le_refl _) _ _ _⟩
theorem b4w (n : Int) (w : World) (hn : -9223372036854775808 <= n) (hn2 : n <= 9223372036854775807) :
  Calls Tryz.prog 47 #[.int .i64 n] w fun e w' => e = .returned (rat (n : Rat)) /\ Below w.heap.size w w' := by
 have k0 : Raw (w.alloc (Obj.cells #[.bool false, .string (bs []), .string (bs [])] 48)) w.heap.size false [] [] := Blk.new w _ _
 have hbw : Hid (Below w.heap.size w (w.alloc (Obj.cells #[.bool false, .string (bs []), .string (bs [])] 48))) := Ext.alloc (Below.refl _ _) _
 have hF := fun W => ref_Int n W hn hn2
 have HF := zh hF
 have K0 := zh k0
 clear hF k0
 generalize (n : Rat) = q at *
 unfold rat raw at *
 go_enter Tryz.func47, Tryz.ntmps47
 go_wp2_with fail
 refine (HF.out _).mono ?_
 rintro e w2 ⟨rfl, hb2⟩
 have k1 := K0.out.below hb2 (Raw.lt K0.out)
 have z0 := k1.frozen 0
 have z1 := k1.frozen 1
 have z2 := k1.frozen 2
 have d0 := k1.c0
 have d1 := k1.c1
 have d2 := k1.c2
 have K1 := zh k1
 have HB := zh (Ext.trans hbw.out hb2)
 clear k1 hb2
 go_wp2
 exact bodyPost_ret (a0q rfl _ _ _ _ _ _ rfl (K1.out.put _ _ _)) rfl ⟨rfl, a1f HB.out (Nat.le_refl _) _ _ _⟩
theorem c2g (a b : Int) (w : World) (ha : -9223372036854775808 <= a) (ha2 : a <= 9223372036854775807) (hb : 0 < b) (hb2 : b <= 9223372036854775807) :
  Calls Tryz.prog 46 #[.int .i64 a, .int .i64 b] w fun e w' => e = .returned (rat (mkRat a b.toNat)) /\ Below w.heap.size w w' := by
 have k0 : Raw (w.alloc (Obj.cells #[.bool false, .string (bs []), .string (bs [])] 48)) w.heap.size false [] [] := Blk.new w _ _
 have hbw : Hid (Below w.heap.size w (w.alloc (Obj.cells #[.bool false, .string (bs []), .string (bs [])] 48))) := Ext.alloc (Below.refl _ _) _
 have hF := fun W => b7g a b W ha ha2 hb hb2
 have HF := zh hF
 have K0 := zh k0
 clear hF k0
 generalize mkRat a b.toNat = q at *
 unfold rat raw at *
 go_enter Tryz.func46, Tryz.ntmps46
 go_wp2_with fail
 refine (HF.out _).mono ?_
 rintro e w2 ⟨rfl, hb2⟩
 have k1 := (K0.out.below hb2 (Raw.lt K0.out)).alloc (Obj.cells #[.bool (negB q), .string (bs (numB q)), .string (bs (a0n q))] 48)
 have z0 := k1.frozen 0
 have z1 := k1.frozen 1
 have z2 := k1.frozen 2
 have d0 := k1.c0
 have d1 := k1.c1
 have d2 := k1.c2
 have K1 := zh k1
 have HB := zh (Ext.alloc (Ext.trans hbw.out hb2) (Obj.cells #[.bool (negB q), .string (bs (numB q)), .string (bs (a0n q))] 48))
 clear k1 hb2
 go_wp2
 exact bodyPost_ret (a0q rfl _ _ _ _ _ _ rfl (K1.out.put _ _ _)) rfl ⟨rfl, a1f HB.out (Nat.le_refl _) _ _ _⟩
end Go.Proofs.YtgdhpghfojccaaaGreatDoor
