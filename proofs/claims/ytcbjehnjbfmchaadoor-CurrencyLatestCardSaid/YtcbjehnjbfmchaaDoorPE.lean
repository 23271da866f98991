/-
CurrencyConvert: the law walked.
-/
import Derived.Test.YtcbjehnjbfmchaaDoorPA
import Derived.Test.YtcbjehnjbfmchaaDoorPB
import Derived.Test.YtcbjehnjbfmchaaDoorPD
namespace Go.Proofs.YtcbjehnjbfmchaaDoor
open Go.ChangeShapes Go.WideShapes Go.ChangeAt Go.ChangeMaps Go.RowKit

theorem few_all {qs : List Quo} (h : fewQs qs = true) (hd : ∀ q ∈ qs, QuoDay q) : (∀ q ∈ qs, q.ok) ∧ ∀ q ∈ qs, q.num.length ≤ 24 ∧ q.den.length ≤ 24 := by
  unfold fewQs at h
  rw [Bool.and_eq_true] at h
  have h1 : ∀ q ∈ qs, q.num.length ≤ 24 ∧ q.den.length ≤ 24 ∧ q.code.length ≤ 20 := by
    intro q hq
    have h1 := List.all_eq_true.1 h.2 q hq
    unfold fewQ fewR at h1
    simp only [Bool.and_eq_true, decide_eq_true_eq] at h1
    exact ⟨h1.1.1, h1.1.2, h1.2⟩
  exact ⟨fun q hq => by have := h1 q hq; exact ⟨by omega, by omega, by omega, (hd q hq).1, (hd q hq).2⟩, fun q hq => ⟨(h1 q hq).1, (h1 q hq).2.1⟩⟩
theorem conv_sized {qs : List Quo} {N : Nat} (hN : 1 ≤ N) (h : ∀ q ∈ qs, q.num.length ≤ N ∧ q.den.length ≤ N) {p : Rat} (hp : Sized N p) (src dst : List UInt8) (day : Int) : Sized (N + N + N) (convQ qs p src dst day).1 := by
  have ha := rate_within hN h src day
  have hb := rate_within hN h dst day
  unfold convQ
  split
  · exact sized_zero.mono (by omega)
  · split
    · exact sized_zero.mono (by omega)
    · exact (hp.mul (sized_dec ha.1 ha.2 hN)).div (sized_dec hb.1 hb.2 hN)

set_option maxRecDepth 100000 in
set_option maxHeartbeats 2000000 in
theorem law_CurrencyConvert (v : Value) (qs : List Quo) (neg : Bool) (num den : List UInt8) (s t : ByteArray) (day : Int) (w : World) (h : Quotes w v qs) (hd : ∀ q ∈ qs, QuoDay q) (_ : s.size ≤ maxLen) (_ : t.size ≤ maxLen) (_ : -9223372036854775808 ≤ day ∧ day ≤ 9223372036854775807) :
    Calls Tryd.prog 7 #[v, raw neg num den, .string s, .string t, .int .i64 day] w fun e w' => e = .returned (.bool true) ∧ Below w.heap.size w w' := by
  have hbw : Hid (Below w.heap.size w (w.alloc (Obj.cells #[.bool neg, .string (bs num), .string (bs den)] 30))) := Ext.alloc (Below.refl _ _) _
  have KA : Hid (Raw (w.alloc (Obj.cells #[.bool neg, .string (bs num), .string (bs den)] 30)) w.heap.size neg num den) := Blk.new w _ _
  have hF := law7_few v qs (w.alloc (Obj.cells #[.bool neg, .string (bs num), .string (bs den)] 30)) (h.below hbw.out)
  have hG := fun W => law0_Few neg num den W
  obtain ⟨x, hx⟩ : ∃ x, x = fewQs qs := ⟨_, rfl⟩
  obtain ⟨y, hy⟩ : ∃ y, y = fewR num den := ⟨_, rfl⟩
  rw [← hx] at hF
  rw [← hy] at hG
  unfold raw at hG ⊢
  have HF := Lib.hid hF
  have HG := Lib.hid hG
  cases x
  · clear h hF hG hx hd hy
    go_enter Tryd.func7, Tryd.ntmps7
    go_wp2_with fail
    refine HF.out.mono ?_
    rintro e w1 ⟨rfl, hb1⟩
    go_wp2_with fail
    refine (law7_awake _).mono ?_
    rintro e w2 ⟨rfl, hb2⟩
    go_wp2
    go_ret
    exact ⟨rfl, Ext.trans hbw.out (Ext.trans hb1 hb2)⟩
  · cases y
    · clear h hF hG hx hd hy
      go_enter Tryd.func7, Tryd.ntmps7
      go_wp2_with fail
      refine HF.out.mono ?_
      rintro e w1 ⟨rfl, hb1⟩
      have k1 := KA.out.below hb1 (Raw.lt KA.out)
      have x0 := k1.c0
      have x1 := k1.c1
      have x2 := k1.c2
      go_wp2_with fail
      refine (HG.out _).mono ?_
      rintro e w2 ⟨rfl, hb2⟩
      go_wp2_with fail
      refine (law7_awake _).mono ?_
      rintro e w3 ⟨rfl, hb3⟩
      go_wp2
      go_ret
      exact ⟨rfl, Ext.trans hbw.out (Ext.trans hb1 (Ext.trans hb2 hb3))⟩
    · obtain ⟨hok, hsm⟩ := few_all hx.symm hd
      have hy' := hy.symm
      unfold fewR at hy'
      simp only [Bool.and_eq_true, decide_eq_true_eq] at hy'
      have sz := conv_sized (by decide) hsm (sized_dec (neg := neg) hy'.1 hy'.2 (by decide)) s.data.toList t.data.toList day
      have hs2 : ∀ q ∈ qs, q.num.length ≤ 1073741824 ∧ q.den.length ≤ 1073741824 := fun q hq => by have := hsm q hq; omega
      have hA := fun W (hb : Below w.heap.size w W) => currency_Convert v qs neg num den s.data.toList t.data.toList day W (h.below hb) hok hs2 (by omega) (by omega)
      have hB := fun W (hb : Below w.heap.size w W) => ref_Convert v qs neg num den s.data.toList t.data.toList day W (h.below hb) hok hs2 (by omega) (by omega)
      rw [bs_of, bs_of] at hA hB
      obtain ⟨r, n, hr⟩ : ∃ r n, convQ qs (decR neg num den) s.data.toList t.data.toList day = (r, n) := ⟨_, _, rfl⟩
      rw [hr] at hA hB sz
      dsimp only at hA hB sz
      have z1 := sz.num
      have z2 := sz.denom
      have eq := fun W => rat_eql (negB r) (negB r) (numB r) (numB r) (denomB r) (denomB r) (by omega) (by omega) (by omega) (by omega) true (by simp) W
      unfold rat raw at hA hB
      unfold raw at eq
      generalize negB r = rn at *
      generalize numB r = ra at *
      generalize denomB r = rd at *
      have HA := Lib.hid hA
      have HB := Lib.hid hB
      clear h hF hG hx hd hy hy' hok hsm hs2 hA hB sz z1 z2 hr
      go_enter Tryd.func7, Tryd.ntmps7
      go_wp2_with fail
      refine HF.out.mono ?_
      rintro e w1 ⟨rfl, hb1⟩
      have K1 := Lib.hid (KA.out.below hb1 (Raw.lt KA.out))
      have x0 := K1.out.c0
      have x1 := K1.out.c1
      have x2 := K1.out.c2
      go_wp2_with fail
      refine (HG.out _).mono ?_
      rintro e w2 ⟨rfl, hb2⟩
      have K2 := Lib.hid (K1.out.below hb2 (Raw.lt K1.out))
      have hb12 := Ext.trans hbw.out (Ext.trans hb1 hb2)
      clear x0 x1 x2 hb1 hb2
      have x0 := K2.out.c0
      have x1 := K2.out.c1
      have x2 := K2.out.c2
      go_wp2_with fail
      refine (HA.out _ hb12).mono ?_
      rintro e w3 ⟨rfl, hb3⟩
      have K3 := Lib.hid ((K2.out.below hb3 (Raw.lt K2.out)).alloc (Obj.cells #[.bool rn, .string (bs ra), .string (bs rd)] 30))
      have T3 : Hid (Raw (w3.alloc (Obj.cells #[.bool rn, .string (bs ra), .string (bs rd)] 30)) w3.heap.size rn ra rd) := Blk.new w3 _ _
      have hb13 := Ext.alloc (Ext.trans hb12 hb3) (Obj.cells #[.bool rn, .string (bs ra), .string (bs rd)] 30)
      have hl3 : w.heap.size < w3.heap.size := Nat.lt_of_lt_of_le (Raw.lt K2.out) hb3.size
      have y0 := (K2.out.below hb3 (Raw.lt K2.out)).c0
      have y1 := (K2.out.below hb3 (Raw.lt K2.out)).c1
      have y2 := (K2.out.below hb3 (Raw.lt K2.out)).c2
      have hn3 : ¬ (w.heap.size = w3.heap.size) := by omega
      clear x0 x1 x2 hb12 hb3
      go_wp2_with fail
      refine (HB.out _ hb13).mono ?_
      rintro e w4 ⟨rfl, hb4⟩
      have T4 := Lib.hid ((T3.out.below hb4 (Raw.lt T3.out)).alloc (Obj.cells #[.bool rn, .string (bs ra), .string (bs rd)] 30))
      have U4 : Hid (Raw (w4.alloc (Obj.cells #[.bool rn, .string (bs ra), .string (bs rd)] 30)) w4.heap.size rn ra rd) := Blk.new w4 _ _
      have hb14 := Ext.alloc (Ext.trans hb13 hb4) (Obj.cells #[.bool rn, .string (bs ra), .string (bs rd)] 30)
      clear y0 y1 y2 hb13 hb4
      go_wp2_with fail
      refine (law7_awake _).mono ?_
      rintro e w5 ⟨rfl, hb5⟩
      have T5 := T4.out.below hb5 (Raw.lt T4.out)
      have U5 := U4.out.below hb5 (Raw.lt U4.out)
      have x0 := T5.c0
      have x1 := T5.c1
      have x2 := T5.c2
      have y0 := U5.c0
      have y1 := U5.c1
      have y2 := U5.c2
      have HBW := Lib.hid (Ext.trans hb14 hb5)
      clear hb14 hb5 T5 U5
      go_wp2
      go_ret
      exact ⟨rfl, HBW.out⟩

end Go.Proofs.YtcbjehnjbfmchaaDoor
