/-
CurrencyQuoted: the law walked (printed by gen_quoted.py).
-/
import Derived.Test.YtcbjehnjbfmchaaDoorPI
namespace Go.Proofs.YtcbjehnjbfmchaaDoor
open Go.ChangeShapes Go.WideShapes Go.ChangeAt Go.ChangeMaps Go.RowKit

set_option maxRecDepth 100000 in
set_option maxHeartbeats 2000000 in
theorem law_CurrencyQuoted (v : Value) (ts : List Tri) (x a b d : Int) (w : World) (h : Tris w v ts) (hok : ∀ t ∈ ts, t.ok) (hx : 0 ≤ x ∧ x ≤ 65535) (ha : 0 ≤ a ∧ a ≤ 255) (hb : 0 ≤ b ∧ b ≤ 255) (hd : 0 ≤ d ∧ d ≤ 255) :
    Calls Tryd.prog 8 #[v, .int .u16 x, .int .u8 a, .int .u8 b, .int .u8 d] w fun e w' => e = .returned (.bool true) ∧ Below w.heap.size w w' := by
  obtain ⟨hx0, hx1⟩ := hx
  obtain ⟨hd0, hd1⟩ := hd
  obtain ⟨y, rfl⟩ := Int.eq_ofNat_of_zero_le hx0
  have HQ := Lib.hid (law0_Quotes v ts w h hok)
  have hok2 := quotesOf_ok hok
  have hsm := quotesOf_small hok
  have hs2 : ∀ q ∈ quotesOf ts, q.num.length ≤ 1073741824 ∧ q.den.length ≤ 1073741824 := fun q hq => by have := hsm q hq; omega
  have HCA := Lib.hid (fun W => law7_code a W ha)
  have HCB := Lib.hid (fun W => law7_code b W hb)
  have HS := Lib.hid (fun W => law0_Signed y W (by omega))
  have hss := signedR_sized (x := y) (by omega)
  have e1 : Int.tmod d 50 = d % 50 := Int.tmod_eq_emod_of_nonneg hd0
  have e2 : IntKind.i64.wrap (d % 50) = d % 50 := IntWalk.i64_in _ (by omega)
  clear hok hx0 hx1 hd0 hd1 ha hb h
  generalize quotesOf ts = qs at *
  generalize code4 (a % 4).toNat = ca at *
  generalize code4 (b % 4).toNat = cb at *
  generalize signedR y = s at *
  generalize hdy : d % 50 = dy at *
  have l1 := rate_within (N := 8) (by decide) hsm ca dy
  have l2 := conv_sized (N := 8) (by decide) hsm hss ca cb dy
  have hR := fun (v' : Value) (W : World) (hq : Quotes W v' qs) => currency_Rate v' qs ca dy W hq hok2
  have hE := fun (v' : Value) (W : World) (hq : Quotes W v' qs) => ref_ExchangeRate v' qs ca dy W hq hok2
  have hC := fun (v' : Value) (W : World) (hq : Quotes W v' qs) => currency_Convert v' qs (negB s) (numB s) (denomB s) ca cb dy W hq hok2 hs2 (by have := hss.num; omega) (by have := hss.denom; omega)
  have hG := fun (v' : Value) (W : World) (hq : Quotes W v' qs) => ref_Convert v' qs (negB s) (numB s) (denomB s) ca cb dy W hq hok2 hs2 (by have := hss.num; omega) (by have := hss.denom; omega)
  rw [show decR (negB s) (numB s) (denomB s) = s from dec_enc s] at hC hG
  obtain ⟨r, n, hr⟩ : ∃ r n, rateQ qs ca dy = (r, n) := ⟨_, _, rfl⟩
  obtain ⟨q, m, hm⟩ : ∃ q m, convQ qs s ca cb dy = (q, m) := ⟨_, _, rfl⟩
  rw [hr] at hR hE l1
  rw [hm] at hC hG l2
  dsimp only at hR hE hC hG l1 l2
  have z1 := l2.num
  have z2 := l2.denom
  have eqr := fun W => rat_eql r.neg r.neg r.num r.num r.den r.den (by omega) (by omega) (by omega) (by omega) true (by simp) W
  have eqq := fun W => rat_eql (negB q) (negB q) (numB q) (numB q) (denomB q) (denomB q) (by omega) (by omega) (by omega) (by omega) true (by simp) W
  obtain ⟨rn, ra, rd⟩ := r
  unfold Trip.val at hR hE
  unfold rat at hC hG HS
  unfold raw at hR hE hC hG eqr eqq HS
  dsimp only at hR hE eqr
  generalize negB q = qn at *
  generalize numB q = qa at *
  generalize denomB q = qd at *
  generalize negB s = sn at *
  generalize numB s = sa at *
  generalize denomB s = sd at *
  have HR := Lib.hid hR
  have HE := Lib.hid hE
  have HC := Lib.hid hC
  have HG := Lib.hid hG
  clear hR hE hC hG hok2 hsm hs2 hss l1 l2 z1 z2 hr hm
  go_enter Tryd.func8, Tryd.ntmps8
  go_wp2_with fail
  refine HQ.out.mono ?_
  rintro e w1 ⟨v', rfl, hq, hb1⟩
  have Q := Lib.hid hq
  have HB0 := Lib.hid hb1
  have HBA : Hid (Below w1.heap.size w1 w1) := Below.refl _ _
  clear hq hb1 HQ
  go_wp2_with fail
  refine (HCA.out _).mono ?_
  rintro e w2 ⟨rfl, hb2⟩
  have H2 := Lib.hid (Ext.trans HBA.out hb2)
  clear hb2
  go_wp2_with fail
  refine (HR.out _ _ (Q.out.below H2.out)).mono ?_
  rintro e w3 ⟨rfl, hb3⟩
  have H3 := Lib.hid (Ext.trans H2.out hb3)
  clear hb3 H2
  have H3a := Lib.hid (Ext.alloc H3.out (Obj.cells #[.bool rn, .string (bs ra), .string (bs rd)] 30))
  clear H3
  have KA3a : Hid (Raw (w3.alloc (Obj.cells #[.bool rn, .string (bs ra), .string (bs rd)] 30)) w3.heap.size rn ra rd) := Blk.new w3 _ _
  go_wp2_with fail
  refine (HCA.out _).mono ?_
  rintro e w4 ⟨rfl, hb4⟩
  have H4 := Lib.hid (Ext.trans H3a.out hb4)
  have KA4 := Lib.hid (KA3a.out.below hb4 (Raw.lt KA3a.out))
  clear KA3a
  clear hb4 H3a
  go_wp2_with fail
  refine (HE.out _ _ (Q.out.below H4.out)).mono ?_
  rintro e w5 ⟨rfl, hb5⟩
  have H5 := Lib.hid (Ext.trans H4.out hb5)
  have KA5 := Lib.hid (KA4.out.below hb5 (Raw.lt KA4.out))
  clear KA4
  clear hb5 H4
  have H5a := Lib.hid (Ext.alloc H5.out (Obj.cells #[.bool rn, .string (bs ra), .string (bs rd)] 30))
  clear H5
  have KA5a := Lib.hid (KA5.out.alloc (Obj.cells #[.bool rn, .string (bs ra), .string (bs rd)] 30))
  clear KA5
  have KB5a : Hid (Raw (w5.alloc (Obj.cells #[.bool rn, .string (bs ra), .string (bs rd)] 30)) w5.heap.size rn ra rd) := Blk.new w5 _ _
  go_wp2_with fail
  refine (HS.out _).mono ?_
  rintro e w6 ⟨rfl, hb6⟩
  have H6 := Lib.hid (Ext.trans H5a.out hb6)
  have KA6 := Lib.hid (KA5a.out.below hb6 (Raw.lt KA5a.out))
  clear KA5a
  have KB6 := Lib.hid (KB5a.out.below hb6 (Raw.lt KB5a.out))
  clear KB5a
  clear hb6 H5a
  go_wp2_with fail
  refine (HCA.out _).mono ?_
  rintro e w7 ⟨rfl, hb7⟩
  have H7 := Lib.hid (Ext.trans H6.out hb7)
  have KA7 := Lib.hid (KA6.out.below hb7 (Raw.lt KA6.out))
  clear KA6
  have KB7 := Lib.hid (KB6.out.below hb7 (Raw.lt KB6.out))
  clear KB6
  clear hb7 H6
  go_wp2_with fail
  refine (HCB.out _).mono ?_
  rintro e w8 ⟨rfl, hb8⟩
  have H8 := Lib.hid (Ext.trans H7.out hb8)
  have KA8 := Lib.hid (KA7.out.below hb8 (Raw.lt KA7.out))
  clear KA7
  have KB8 := Lib.hid (KB7.out.below hb8 (Raw.lt KB7.out))
  clear KB7
  clear hb8 H7
  go_wp2_with fail
  refine (HC.out _ _ (Q.out.below H8.out)).mono ?_
  rintro e w9 ⟨rfl, hb9⟩
  have H9 := Lib.hid (Ext.trans H8.out hb9)
  have KA9 := Lib.hid (KA8.out.below hb9 (Raw.lt KA8.out))
  clear KA8
  have KB9 := Lib.hid (KB8.out.below hb9 (Raw.lt KB8.out))
  clear KB8
  clear hb9 H8
  have H9a := Lib.hid (Ext.alloc H9.out (Obj.cells #[.bool qn, .string (bs qa), .string (bs qd)] 30))
  clear H9
  have KA9a := Lib.hid (KA9.out.alloc (Obj.cells #[.bool qn, .string (bs qa), .string (bs qd)] 30))
  clear KA9
  have KB9a := Lib.hid (KB9.out.alloc (Obj.cells #[.bool qn, .string (bs qa), .string (bs qd)] 30))
  clear KB9
  have KC9a : Hid (Raw (w9.alloc (Obj.cells #[.bool qn, .string (bs qa), .string (bs qd)] 30)) w9.heap.size qn qa qd) := Blk.new w9 _ _
  go_wp2_with fail
  refine (HS.out _).mono ?_
  rintro e w10 ⟨rfl, hb10⟩
  have H10 := Lib.hid (Ext.trans H9a.out hb10)
  have KA10 := Lib.hid (KA9a.out.below hb10 (Raw.lt KA9a.out))
  clear KA9a
  have KB10 := Lib.hid (KB9a.out.below hb10 (Raw.lt KB9a.out))
  clear KB9a
  have KC10 := Lib.hid (KC9a.out.below hb10 (Raw.lt KC9a.out))
  clear KC9a
  clear hb10 H9a
  go_wp2_with fail
  refine (HCA.out _).mono ?_
  rintro e w11 ⟨rfl, hb11⟩
  have H11 := Lib.hid (Ext.trans H10.out hb11)
  have KA11 := Lib.hid (KA10.out.below hb11 (Raw.lt KA10.out))
  clear KA10
  have KB11 := Lib.hid (KB10.out.below hb11 (Raw.lt KB10.out))
  clear KB10
  have KC11 := Lib.hid (KC10.out.below hb11 (Raw.lt KC10.out))
  clear KC10
  clear hb11 H10
  go_wp2_with fail
  refine (HCB.out _).mono ?_
  rintro e w12 ⟨rfl, hb12⟩
  have H12 := Lib.hid (Ext.trans H11.out hb12)
  have KA12 := Lib.hid (KA11.out.below hb12 (Raw.lt KA11.out))
  clear KA11
  have KB12 := Lib.hid (KB11.out.below hb12 (Raw.lt KB11.out))
  clear KB11
  have KC12 := Lib.hid (KC11.out.below hb12 (Raw.lt KC11.out))
  clear KC11
  clear hb12 H11
  go_wp2_with fail
  refine (HG.out _ _ (Q.out.below H12.out)).mono ?_
  rintro e w13 ⟨rfl, hb13⟩
  have H13 := Lib.hid (Ext.trans H12.out hb13)
  have KA13 := Lib.hid (KA12.out.below hb13 (Raw.lt KA12.out))
  clear KA12
  have KB13 := Lib.hid (KB12.out.below hb13 (Raw.lt KB12.out))
  clear KB12
  have KC13 := Lib.hid (KC12.out.below hb13 (Raw.lt KC12.out))
  clear KC12
  clear hb13 H12
  have H13a := Lib.hid (Ext.alloc H13.out (Obj.cells #[.bool qn, .string (bs qa), .string (bs qd)] 30))
  clear H13
  have KA13a := Lib.hid (KA13.out.alloc (Obj.cells #[.bool qn, .string (bs qa), .string (bs qd)] 30))
  clear KA13
  have KB13a := Lib.hid (KB13.out.alloc (Obj.cells #[.bool qn, .string (bs qa), .string (bs qd)] 30))
  clear KB13
  have KC13a := Lib.hid (KC13.out.alloc (Obj.cells #[.bool qn, .string (bs qa), .string (bs qd)] 30))
  clear KC13
  have KD13a : Hid (Raw (w13.alloc (Obj.cells #[.bool qn, .string (bs qa), .string (bs qd)] 30)) w13.heap.size qn qa qd) := Blk.new w13 _ _
  go_wp2_with fail
  refine (law7_awake _).mono ?_
  rintro e w14 ⟨rfl, hb14⟩
  have H14 := Lib.hid (Ext.trans H13a.out hb14)
  have KA14 := Lib.hid (KA13a.out.below hb14 (Raw.lt KA13a.out))
  clear KA13a
  have KB14 := Lib.hid (KB13a.out.below hb14 (Raw.lt KB13a.out))
  clear KB13a
  have KC14 := Lib.hid (KC13a.out.below hb14 (Raw.lt KC13a.out))
  clear KC13a
  have KD14 := Lib.hid (KD13a.out.below hb14 (Raw.lt KD13a.out))
  clear KD13a
  clear hb14 H13a
  have xKA0 := KA14.out.c0
  have xKA1 := KA14.out.c1
  have xKA2 := KA14.out.c2
  have xKB0 := KB14.out.c0
  have xKB1 := KB14.out.c1
  have xKB2 := KB14.out.c2
  have xKC0 := KC14.out.c0
  have xKC1 := KC14.out.c1
  have xKC2 := KC14.out.c2
  have xKD0 := KD14.out.c0
  have xKD1 := KD14.out.c1
  have xKD2 := KD14.out.c2
  have HBZ := Lib.hid (HB0.out.trans (H14.out.mono HB0.out.size))
  go_wp2
  go_ret
  exact ⟨rfl, HBZ.out⟩
end Go.Proofs.YtcbjehnjbfmchaaDoor
