/-
Converting back, and through a third currency: plain Lean; and '!=' on numbers.
-/
import Derived.Test.YtcbjehnjbfmchaaDoorPI
import Derived.Test.YtcbjehnjbfmchaaDoorPM
namespace Go.Proofs.YtcbjehnjbfmchaaDoor

theorem conv_parts {qs : List Quo} {p : Rat} {a b : List UInt8} {day : Int} (h : (convQ qs p a b day).2 = 0) :
    (rateQ qs a day).2 = 0 ∧ (rateQ qs b day).2 = 0 ∧ (convQ qs p a b day).1 = p * (rateQ qs a day).1.rat / (rateQ qs b day).1.rat := by
  by_cases h1 : (rateQ qs a day).2 = 0
  · by_cases h2 : (rateQ qs b day).2 = 0
    · rw [conv_both h1 h2]; exact ⟨h1, h2, rfl⟩
    · rw [conv_dst h1 rfl h2] at h; exact absurd h h2
  · rw [conv_src rfl h1] at h; exact absurd h h1
theorem conv_err {qs : List Quo} {p r : Rat} {a b : List UInt8} {day : Int} (h : (convQ qs p a b day).2 ≠ 0) : (convQ qs r b a day).2 ≠ 0 := by
  intro h2
  obtain ⟨h3, h4, _⟩ := conv_parts h2
  rw [conv_both h4 h3] at h
  exact h rfl
theorem rat_there {p x y : Rat} (hx : x ≠ 0) (hy : y ≠ 0) : p * x / y * y / x = p := by
  rw [Rat.div_mul_cancel hy, Rat.mul_div_cancel hx]
theorem rat_through {p x y z : Rat} (hz : z ≠ 0) : p * x / z * z / y = p * x / y := by
  rw [Rat.div_mul_cancel hz]
theorem conv_back {qs : List Quo} {p : Rat} {a b : List UInt8} {day : Int} (h : (convQ qs p a b day).2 = 0) : convQ qs (convQ qs p a b day).1 b a day = (p, 0) := by
  obtain ⟨h1, h2, h3⟩ := conv_parts h
  rw [h3, conv_both h2 h1, rat_there (rate_ne h1) (rate_ne h2)]
theorem conv_third {qs : List Quo} {p : Rat} {a b c : List UInt8} {day : Int} (h : (convQ qs p a b day).2 = 0) (h' : (convQ qs p a c day).2 = 0) : convQ qs (convQ qs p a c day).1 c b day = ((convQ qs p a b day).1, 0) := by
  obtain ⟨h1, h2, h3⟩ := conv_parts h
  obtain ⟨_, h5, h6⟩ := conv_parts h'
  rw [h3, h6, conv_both h5 h2, rat_through (rate_ne h5)]

set_option maxRecDepth 100000 in
theorem rat_neq (n1 n2 : Bool) (a1 a2 b1 b2 : List UInt8) (ha1 : a1.length ≤ 1099511627776) (hb1 : b1.length ≤ 1099511627776) (ha2 : a2.length ≤ 1099511627776) (hb2 : b2.length ≤ 1099511627776) (y : Bool)
    (hy : decide (n1 = n2 ∧ a1 = a2 ∧ b1 = b2) = y) (w : World) :
    (binOp .neq 30 (raw n1 a1 b1) (raw n2 a2 b2)).run Tryd.prog w = .ok (.bool (!y)) w := by
  have k1 := rat_key n1 a1 b1 ha1 hb1
  have k2 := rat_key n2 a2 b2 ha2 hb2
  obtain ⟨r, hr, hiff⟩ := run_equal_deep w (m := 3) (by decide) rat_deep rat_wide k1 k2
  have hry : r = y := by
    rw [← hy, Bool.eq_iff_iff, hiff, decide_eq_true_eq]
    constructor
    · intro e
      rw [e] at k1
      exact raw_inj (rat_keyed.inj k1 k2)
    · rintro ⟨rfl, rfl, rfl⟩; rfl
  subst hry
  unfold raw at hr ⊢
  simp only [binOp]
  simp [hr, Result.andThen]
end Go.Proofs.YtcbjehnjbfmchaaDoor

/-
CurrencyBack: the law walked (printed by gen_back.py).
-/
namespace Go.Proofs.YtcbjehnjbfmchaaDoor
open Go.ChangeShapes Go.WideShapes Go.ChangeAt Go.ChangeMaps Go.RowKit

set_option maxRecDepth 100000 in
set_option maxHeartbeats 8000000 in
theorem law_CurrencyBack (v : Value) (ts : List Tri) (x a b c d : Int) (w : World) (h : Tris w v ts) (hok : ∀ t ∈ ts, t.ok) (hx : 0 ≤ x ∧ x ≤ 65535) (ha : 0 ≤ a ∧ a ≤ 255) (hb : 0 ≤ b ∧ b ≤ 255) (hc : 0 ≤ c ∧ c ≤ 255) (hd : 0 ≤ d ∧ d ≤ 255) :
    Calls Tryd.prog 9 #[v, .int .u16 x, .int .u8 a, .int .u8 b, .int .u8 c, .int .u8 d] w fun e w' => e = .returned (.bool true) ∧ Below w.heap.size w w' := by
  obtain ⟨hx0, hx1⟩ := hx
  obtain ⟨hd0, hd1⟩ := hd
  obtain ⟨y, rfl⟩ := Int.eq_ofNat_of_zero_le hx0
  have HQ := Lib.hid (law0_Quotes v ts w h hok)
  have hok2 := quotesOf_ok hok
  have hsm := quotesOf_small hok
  have hs2 : ∀ q ∈ quotesOf ts, q.num.length ≤ 1073741824 ∧ q.den.length ≤ 1073741824 := fun q hq => by have := hsm q hq; omega
  have hsm2 : ∀ q ∈ quotesOf ts, q.num.length ≤ 100 ∧ q.den.length ≤ 100 := fun q hq => by have := hsm q hq; omega
  have HCOa := Lib.hid (fun W => law7_code a W ha)
  have HCOb := Lib.hid (fun W => law7_code b W hb)
  have HCOc := Lib.hid (fun W => law7_code c W hc)
  have HS := Lib.hid (fun W => law0_Signed y W (by omega))
  have hss := (signedR_sized (x := y) (by omega)).mono (show 8 ≤ 100 by decide)
  have e1 : Int.tmod d 50 = d % 50 := Int.tmod_eq_emod_of_nonneg hd0
  have e2 : IntKind.i64.wrap (d % 50) = d % 50 := IntWalk.i64_in _ (by omega)
  clear hok hx0 hx1 hd0 hd1 ha hb hc h hsm
  generalize quotesOf ts = qs at *
  generalize code4 (a % 4).toNat = ca at *
  generalize code4 (b % 4).toNat = cb at *
  generalize code4 (c % 4).toNat = cc at *
  generalize signedR y = s at *
  generalize hdy : d % 50 = dy at *
  obtain ⟨r, n, hr⟩ : ∃ r n, convQ qs s ca cb dy = (r, n) := ⟨_, _, rfl⟩
  obtain ⟨q, m, hq⟩ : ∃ q m, convQ qs r cb ca dy = (q, m) := ⟨_, _, rfl⟩
  obtain ⟨z, k, hz⟩ : ∃ z k, convQ qs s ca cc dy = (z, k) := ⟨_, _, rfl⟩
  obtain ⟨u, l, hu⟩ : ∃ u l, convQ qs z cc cb dy = (u, l) := ⟨_, _, rfl⟩
  have sr := conv_sized (N := 100) (by decide) hsm2 hss ca cb dy
  have sz := conv_sized (N := 100) (by decide) hsm2 hss ca cc dy
  rw [hr] at sr
  rw [hz] at sz
  dsimp only at sr sz
  have F1 : n ≠ 0 → m ≠ 0 := by
    intro hn
    have := conv_err (qs := qs) (p := s) (r := r) (a := ca) (b := cb) (day := dy) (by rw [hr]; exact hn)
    rw [hq] at this; exact this
  have F2 : n = 0 → q = s ∧ m = 0 := by
    intro hn
    have := conv_back (qs := qs) (p := s) (a := ca) (b := cb) (day := dy) (by rw [hr]; exact hn)
    rw [hr] at this; dsimp only at this; rw [hq] at this
    injection this with h1 h2
    exact ⟨h1, h2⟩
  have F3 : n = 0 → k = 0 → u = r ∧ l = 0 := by
    intro hn hk
    have := conv_third (qs := qs) (p := s) (a := ca) (b := cb) (c := cc) (day := dy) (by rw [hr]; exact hn) (by rw [hz]; exact hk)
    rw [hr, hz] at this; dsimp only at this; rw [hu] at this
    injection this with h1 h2
    exact ⟨h1, h2⟩
  have hss1 := hss.num
  have hss2 := hss.denom
  have sr1 := sr.num
  have sr2 := sr.denom
  have sz1 := sz.num
  have sz2 := sz.denom
  have hC1 := fun (v' : Value) (W : World) (h : Quotes W v' qs) => currency_Convert v' qs (negB s) (numB s) (denomB s) ca cb dy W h hok2 hs2 (by omega) (by omega)
  have hC2 := fun (v' : Value) (W : World) (h : Quotes W v' qs) => currency_Convert v' qs (negB r) (numB r) (denomB r) cb ca dy W h hok2 hs2 (by omega) (by omega)
  have hC3 := fun (v' : Value) (W : World) (h : Quotes W v' qs) => currency_Convert v' qs (negB s) (numB s) (denomB s) ca cc dy W h hok2 hs2 (by omega) (by omega)
  have hC4 := fun (v' : Value) (W : World) (h : Quotes W v' qs) => currency_Convert v' qs (negB z) (numB z) (denomB z) cc cb dy W h hok2 hs2 (by omega) (by omega)
  rw [show decR (negB s) (numB s) (denomB s) = s from dec_enc s, hr] at hC1
  rw [show decR (negB r) (numB r) (denomB r) = r from dec_enc r, hq] at hC2
  rw [show decR (negB s) (numB s) (denomB s) = s from dec_enc s, hz] at hC3
  rw [show decR (negB z) (numB z) (denomB z) = z from dec_enc z, hu] at hC4
  dsimp only at hC1 hC2 hC3 hC4
  have EN := Lib.hid (fun W => rat_neq (negB s) (negB s) (numB s) (numB s) (denomB s) (denomB s) (by omega) (by omega) (by omega) (by omega) true (by simp) W)
  have EE := Lib.hid (fun W => rat_eql (negB r) (negB r) (numB r) (numB r) (denomB r) (denomB r) (by omega) (by omega) (by omega) (by omega) true (by simp) W)
  have G2 : n = 0 → m = 0 ∧ negB q = negB s ∧ numB q = numB s ∧ denomB q = denomB s := fun hn => by obtain ⟨h1, h2⟩ := F2 hn; rw [h1]; exact ⟨h2, rfl, rfl, rfl⟩
  have G3 : n = 0 → k = 0 → l = 0 ∧ negB u = negB r ∧ numB u = numB r ∧ denomB u = denomB r := fun hn hk => by obtain ⟨h1, h2⟩ := F3 hn hk; rw [h1]; exact ⟨h2, rfl, rfl, rfl⟩
  unfold rat at hC1 hC2 hC3 hC4 HS
  unfold raw at hC1 hC2 hC3 hC4 HS EN EE
  clear hok2 hsm2 hs2 hss hss1 hss2 sr sr1 sr2 sz sz1 sz2 hr hq hz hu F2 F3
  generalize negB s = sn at *
  generalize numB s = sa at *
  generalize denomB s = sd at *
  generalize negB r = rn at *
  generalize numB r = ra at *
  generalize denomB r = rd at *
  generalize negB q = qn at *
  generalize numB q = qa at *
  generalize denomB q = qd at *
  generalize negB z = zn at *
  generalize numB z = za at *
  generalize denomB z = zd at *
  generalize negB u = un at *
  generalize numB u = ua at *
  generalize denomB u = ud at *
  have HC1 := Lib.hid hC1
  have HC2 := Lib.hid hC2
  have HC3 := Lib.hid hC3
  have HC4 := Lib.hid hC4
  have HF1 := Lib.hid F1
  have HG2 := Lib.hid G2
  have HG3 := Lib.hid G3
  clear hC1 hC2 hC3 hC4 F1 G2 G3
  go_enter Tryd.func9, Tryd.ntmps9
  go_wp2_with fail
  refine HQ.out.mono ?_
  rintro e w1 ⟨v', rfl, hq, hb1⟩
  have Q := Lib.hid hq
  have HB0 := Lib.hid hb1
  clear hq hb1 HQ
  go_wp2_with fail
  refine (HS.out _).mono ?_
  rintro e w3 ⟨rfl, hb3⟩
  have HB := Lib.hid (Ext.alloc hb3 (Obj.cells #[.bool sn, .string (bs sa), .string (bs sd)] 30))
  have K14 : Hid (Raw (w3.alloc (Obj.cells #[.bool sn, .string (bs sa), .string (bs sd)] 30)) w3.heap.size sn sa sd) := Blk.new w3 _ _
  clear hb3 HS
  go_wp2
  generalize hWA1 : w3.alloc (Obj.cells #[.bool sn, .string (bs sa), .string (bs sd)] 30) = wA1 at *
  refine wp_region_put 13 11 12 [v', .agg #[.bool sn, .string (bs sa), .string (bs sd)], .int .u8 a, .string (bs ca), .int .u8 b, .string (bs cb), .int .i64 dy, .tuple #[.agg #[.bool rn, .string (bs ra), .string (bs rd)], .int .i64 n], .tuple #[.agg #[.bool rn, .string (bs ra), .string (bs rd)], .int .i64 n], .agg #[.bool rn, .string (bs ra), .string (bs rd)], .int .i64 n, undef, undef] #[.bool false, .string ⟨#[]⟩, .string ⟨#[]⟩] #[.bool rn, .string (bs ra), .string (bs rd)] 30 rfl (by kernel_rfl) (by kernel_rfl) (by kernel_rfl) (by kernel_rfl) (by decide) (by decide) (by decide) ?_ ?_
  refine ⟨?_, ?_, ?_, ?_, ?_, ?_, ?_, ?_, ?_, ?_, ?_, ?_, ?_, trivial⟩
  · intro x a1 w1 hbx hev hev0 hd
    have e13 : a1.tmps[13]?.getD undef = v' := hev0 13 rfl
    clear hev hev0 hd
    rw [if_neg (by decide), if_neg (by decide)]
    go_wp2
    exact StepQ.mk _ (Below.refl _ _) rfl
  · intro x a1 w1 hbx hev hev0 hd
    have e14 : a1.tmps[14]?.getD undef = .pointer (some ⟨w3.heap.size, 0, none⟩) := hev0 14 rfl
    clear hev hev0 hd
    rw [if_neg (by decide), if_neg (by decide)]
    have x0 := (K14.out.below hbx (Raw.lt K14.out)).c0
    have x1 := (K14.out.below hbx (Raw.lt K14.out)).c1
    have x2 := (K14.out.below hbx (Raw.lt K14.out)).c2
    go_wp2
    exact StepQ.mk _ (Below.refl _ _) rfl
  · intro x a1 w1 hbx hev hev0 hd
    have e2 : a1.tmps[2]?.getD undef = .int .u8 a := hev0 2 rfl
    clear hev hev0 hd
    rw [if_neg (by decide), if_neg (by decide)]
    go_wp2
    exact StepQ.mk _ (Below.refl _ _) rfl
  · intro x a1 w1 hbx hev hev0 hd
    have e34 := hev 2 _ 34 rfl rfl
    have d2 : x 2 = .int .u8 a := hd ⟨2, .data⟩ (by simp) rfl (by decide) (by decide)
    rw [d2] at e34
    clear d2
    clear hev hev0 hd
    rw [if_neg (by decide), if_neg (by decide)]
    go_wp2_with fail
    refine (HCOa.out _).mono ?_
    rintro e w8 ⟨rfl, hb8⟩
    go_wp2
    exact StepQ.mk _ hb8 rfl
  · intro x a1 w1 hbx hev hev0 hd
    have e3 : a1.tmps[3]?.getD undef = .int .u8 b := hev0 3 rfl
    clear hev hev0 hd
    rw [if_neg (by decide), if_neg (by decide)]
    go_wp2
    exact StepQ.mk _ (Below.refl _ _) rfl
  · intro x a1 w1 hbx hev hev0 hd
    have e36 := hev 4 _ 36 rfl rfl
    have d4 : x 4 = .int .u8 b := hd ⟨4, .data⟩ (by simp) rfl (by decide) (by decide)
    rw [d4] at e36
    clear d4
    clear hev hev0 hd
    rw [if_neg (by decide), if_neg (by decide)]
    go_wp2_with fail
    refine (HCOb.out _).mono ?_
    rintro e w8 ⟨rfl, hb8⟩
    go_wp2
    exact StepQ.mk _ hb8 rfl
  · intro x a1 w1 hbx hev hev0 hd
    have e15 : a1.tmps[15]?.getD undef = .int .i64 dy := hev0 15 rfl
    clear hev hev0 hd
    rw [if_neg (by decide), if_neg (by decide)]
    go_wp2
    exact StepQ.mk _ (Below.refl _ _) rfl
  · intro x a1 w1 hbx hev hev0 hd
    have e32 := hev 0 _ 32 rfl rfl
    have d0 : x 0 = v' := hd ⟨0, .data⟩ (by simp) rfl (by decide) (by decide)
    rw [d0] at e32
    clear d0
    have e33 := hev 1 _ 33 rfl rfl
    have d1 : x 1 = .agg #[.bool sn, .string (bs sa), .string (bs sd)] := hd ⟨1, .data⟩ (by simp) rfl (by decide) (by decide)
    rw [d1] at e33
    clear d1
    have e35 := hev 3 _ 35 rfl rfl
    have d3 : x 3 = .string (bs ca) := hd ⟨3, .data⟩ (by simp) rfl (by decide) (by decide)
    rw [d3] at e35
    clear d3
    have e37 := hev 5 _ 37 rfl rfl
    have d5 : x 5 = .string (bs cb) := hd ⟨5, .data⟩ (by simp) rfl (by decide) (by decide)
    rw [d5] at e37
    clear d5
    have e38 := hev 6 _ 38 rfl rfl
    have d6 : x 6 = .int .i64 dy := hd ⟨6, .data⟩ (by simp) rfl (by decide) (by decide)
    rw [d6] at e38
    clear d6
    clear hev hev0 hd
    rw [if_neg (by decide), if_neg (by decide)]
    go_wp2_with fail
    refine (HC1.out _ _ (Q.out.below (HB.out.trans (hbx.mono HB.out.size)))).mono ?_
    rintro e w8 ⟨rfl, hb8⟩
    go_wp2
    exact StepQ.mk _ hb8 rfl
  · intro x a1 w1 hbx hev hev0 hd
    have e39 := hev 7 _ 39 rfl rfl
    have d7 : x 7 = .tuple #[.agg #[.bool rn, .string (bs ra), .string (bs rd)], .int .i64 n] := hd ⟨7, .data⟩ (by simp) rfl (by decide) (by decide)
    rw [d7] at e39
    clear d7
    clear hev hev0 hd
    rw [if_neg (by decide), if_neg (by decide)]
    go_wp2
    exact StepQ.mk _ (Below.refl _ _) rfl
  · intro x a1 w1 hbx hev hev0 hd
    have e31 := hev 8 _ 31 rfl rfl
    have d8 : x 8 = .tuple #[.agg #[.bool rn, .string (bs ra), .string (bs rd)], .int .i64 n] := hd ⟨8, .data⟩ (by simp) rfl (by decide) (by decide)
    rw [d8] at e31
    clear d8
    clear hev hev0 hd
    rw [if_neg (by decide), if_neg (by decide)]
    go_wp2
    exact StepQ.mk _ (Below.refl _ _) rfl
  · intro x a1 w1 hbx hev hev0 hd
    have e31 := hev 8 _ 31 rfl rfl
    have d8 : x 8 = .tuple #[.agg #[.bool rn, .string (bs ra), .string (bs rd)], .int .i64 n] := hd ⟨8, .data⟩ (by simp) rfl (by decide) (by decide)
    rw [d8] at e31
    clear d8
    clear hev hev0 hd
    rw [if_neg (by decide), if_neg (by decide)]
    go_wp2
    exact StepQ.mk _ (Below.refl _ _) rfl
  · intro x a1 w1 hbx hev hev0 hd
    clear hev hev0 hd
    rw [if_pos rfl]
    go_wp2
    exact StepQ.mk _ (Ext.alloc (Below.refl _ _) _) ⟨_, rfl, Nat.le_refl _, Blk.new _ _ _⟩
  · intro x a1 w1 hbx hev hev0 hd
    have e16 := hev 11 _ 16 rfl rfl
    have e40 := hev 9 _ 40 rfl rfl
    have d9 : x 9 = .agg #[.bool rn, .string (bs ra), .string (bs rd)] := hd ⟨9, .data⟩ (by simp) rfl (by decide) (by decide)
    rw [d9] at e40
    clear d9
    clear hev hev0 hd
    rw [if_neg (by decide), if_pos rfl]
    intro g hxg hlg hBl
    rw [hxg] at e16
    clear hxg
    have hBl : Raw w1 g false [] [] := hBl
    have z0 := hBl.c0
    have z1 := hBl.c1
    have z2 := hBl.c2
    have zf0 := hBl.frozen 0
    have zf1 := hBl.frozen 1
    have zf2 := hBl.frozen 2
    go_wp2
    exact StepQB.mk (below_put (Below.refl _ _) hlg _ _ _) (hBl.put _ _ _)
  intro x w91 g1 hb9 hv hxg hlg hBl
  have hv10 : x 10 = _ := hv 10 (by decide) (by decide) (by decide)
  clear hv
  simp only [List.take, List.drop, fillA, Act.put]
  rw [hxg, hv10]
  clear hxg hv10
  have K14 := Lib.hid (K14.out.below hb9 (Raw.lt K14.out))
  have K16 : Hid (Raw w91 g1 rn ra rd) := hBl
  have HB := Lib.hid (HB.out.trans (hb9.mono HB.out.size))
  clear hBl
  go_wp2
  refine wp_region_put 13 11 12 [v', .agg #[.bool rn, .string (bs ra), .string (bs rd)], .int .u8 b, .string (bs cb), .int .u8 a, .string (bs ca), .int .i64 dy, .tuple #[.agg #[.bool qn, .string (bs qa), .string (bs qd)], .int .i64 m], .tuple #[.agg #[.bool qn, .string (bs qa), .string (bs qd)], .int .i64 m], .agg #[.bool qn, .string (bs qa), .string (bs qd)], .int .i64 m, undef, undef] #[.bool false, .string ⟨#[]⟩, .string ⟨#[]⟩] #[.bool qn, .string (bs qa), .string (bs qd)] 30 rfl (by kernel_rfl) (by kernel_rfl) (by kernel_rfl) (by kernel_rfl) (by decide) (by decide) (by decide) ?_ ?_
  refine ⟨?_, ?_, ?_, ?_, ?_, ?_, ?_, ?_, ?_, ?_, ?_, ?_, ?_, trivial⟩
  · intro x a1 w1 hbx hev hev0 hd
    have e13 : a1.tmps[13]?.getD undef = v' := hev0 13 rfl
    clear hev hev0 hd
    rw [if_neg (by decide), if_neg (by decide)]
    go_wp2
    exact StepQ.mk _ (Below.refl _ _) rfl
  · intro x a1 w1 hbx hev hev0 hd
    have e16 : a1.tmps[16]?.getD undef = .pointer (some ⟨g1, 0, none⟩) := hev0 16 rfl
    clear hev hev0 hd
    rw [if_neg (by decide), if_neg (by decide)]
    have x0 := (K16.out.below hbx (Raw.lt K16.out)).c0
    have x1 := (K16.out.below hbx (Raw.lt K16.out)).c1
    have x2 := (K16.out.below hbx (Raw.lt K16.out)).c2
    go_wp2
    exact StepQ.mk _ (Below.refl _ _) rfl
  · intro x a1 w1 hbx hev hev0 hd
    have e3 : a1.tmps[3]?.getD undef = .int .u8 b := hev0 3 rfl
    clear hev hev0 hd
    rw [if_neg (by decide), if_neg (by decide)]
    go_wp2
    exact StepQ.mk _ (Below.refl _ _) rfl
  · intro x a1 w1 hbx hev hev0 hd
    have e45 := hev 2 _ 45 rfl rfl
    have d2 : x 2 = .int .u8 b := hd ⟨2, .data⟩ (by simp) rfl (by decide) (by decide)
    rw [d2] at e45
    clear d2
    clear hev hev0 hd
    rw [if_neg (by decide), if_neg (by decide)]
    go_wp2_with fail
    refine (HCOb.out _).mono ?_
    rintro e w8 ⟨rfl, hb8⟩
    go_wp2
    exact StepQ.mk _ hb8 rfl
  · intro x a1 w1 hbx hev hev0 hd
    have e2 : a1.tmps[2]?.getD undef = .int .u8 a := hev0 2 rfl
    clear hev hev0 hd
    rw [if_neg (by decide), if_neg (by decide)]
    go_wp2
    exact StepQ.mk _ (Below.refl _ _) rfl
  · intro x a1 w1 hbx hev hev0 hd
    have e47 := hev 4 _ 47 rfl rfl
    have d4 : x 4 = .int .u8 a := hd ⟨4, .data⟩ (by simp) rfl (by decide) (by decide)
    rw [d4] at e47
    clear d4
    clear hev hev0 hd
    rw [if_neg (by decide), if_neg (by decide)]
    go_wp2_with fail
    refine (HCOa.out _).mono ?_
    rintro e w8 ⟨rfl, hb8⟩
    go_wp2
    exact StepQ.mk _ hb8 rfl
  · intro x a1 w1 hbx hev hev0 hd
    have e15 : a1.tmps[15]?.getD undef = .int .i64 dy := hev0 15 rfl
    clear hev hev0 hd
    rw [if_neg (by decide), if_neg (by decide)]
    go_wp2
    exact StepQ.mk _ (Below.refl _ _) rfl
  · intro x a1 w1 hbx hev hev0 hd
    have e43 := hev 0 _ 43 rfl rfl
    have d0 : x 0 = v' := hd ⟨0, .data⟩ (by simp) rfl (by decide) (by decide)
    rw [d0] at e43
    clear d0
    have e44 := hev 1 _ 44 rfl rfl
    have d1 : x 1 = .agg #[.bool rn, .string (bs ra), .string (bs rd)] := hd ⟨1, .data⟩ (by simp) rfl (by decide) (by decide)
    rw [d1] at e44
    clear d1
    have e46 := hev 3 _ 46 rfl rfl
    have d3 : x 3 = .string (bs cb) := hd ⟨3, .data⟩ (by simp) rfl (by decide) (by decide)
    rw [d3] at e46
    clear d3
    have e48 := hev 5 _ 48 rfl rfl
    have d5 : x 5 = .string (bs ca) := hd ⟨5, .data⟩ (by simp) rfl (by decide) (by decide)
    rw [d5] at e48
    clear d5
    have e49 := hev 6 _ 49 rfl rfl
    have d6 : x 6 = .int .i64 dy := hd ⟨6, .data⟩ (by simp) rfl (by decide) (by decide)
    rw [d6] at e49
    clear d6
    clear hev hev0 hd
    rw [if_neg (by decide), if_neg (by decide)]
    go_wp2_with fail
    refine (HC2.out _ _ (Q.out.below (HB.out.trans (hbx.mono HB.out.size)))).mono ?_
    rintro e w8 ⟨rfl, hb8⟩
    go_wp2
    exact StepQ.mk _ hb8 rfl
  · intro x a1 w1 hbx hev hev0 hd
    have e50 := hev 7 _ 50 rfl rfl
    have d7 : x 7 = .tuple #[.agg #[.bool qn, .string (bs qa), .string (bs qd)], .int .i64 m] := hd ⟨7, .data⟩ (by simp) rfl (by decide) (by decide)
    rw [d7] at e50
    clear d7
    clear hev hev0 hd
    rw [if_neg (by decide), if_neg (by decide)]
    go_wp2
    exact StepQ.mk _ (Below.refl _ _) rfl
  · intro x a1 w1 hbx hev hev0 hd
    have e42 := hev 8 _ 42 rfl rfl
    have d8 : x 8 = .tuple #[.agg #[.bool qn, .string (bs qa), .string (bs qd)], .int .i64 m] := hd ⟨8, .data⟩ (by simp) rfl (by decide) (by decide)
    rw [d8] at e42
    clear d8
    clear hev hev0 hd
    rw [if_neg (by decide), if_neg (by decide)]
    go_wp2
    exact StepQ.mk _ (Below.refl _ _) rfl
  · intro x a1 w1 hbx hev hev0 hd
    have e42 := hev 8 _ 42 rfl rfl
    have d8 : x 8 = .tuple #[.agg #[.bool qn, .string (bs qa), .string (bs qd)], .int .i64 m] := hd ⟨8, .data⟩ (by simp) rfl (by decide) (by decide)
    rw [d8] at e42
    clear d8
    clear hev hev0 hd
    rw [if_neg (by decide), if_neg (by decide)]
    go_wp2
    exact StepQ.mk _ (Below.refl _ _) rfl
  · intro x a1 w1 hbx hev hev0 hd
    clear hev hev0 hd
    rw [if_pos rfl]
    go_wp2
    exact StepQ.mk _ (Ext.alloc (Below.refl _ _) _) ⟨_, rfl, Nat.le_refl _, Blk.new _ _ _⟩
  · intro x a1 w1 hbx hev hev0 hd
    have e18 := hev 11 _ 18 rfl rfl
    have e51 := hev 9 _ 51 rfl rfl
    have d9 : x 9 = .agg #[.bool qn, .string (bs qa), .string (bs qd)] := hd ⟨9, .data⟩ (by simp) rfl (by decide) (by decide)
    rw [d9] at e51
    clear d9
    clear hev hev0 hd
    rw [if_neg (by decide), if_pos rfl]
    intro g hxg hlg hBl
    rw [hxg] at e18
    clear hxg
    have hBl : Raw w1 g false [] [] := hBl
    have z0 := hBl.c0
    have z1 := hBl.c1
    have z2 := hBl.c2
    have zf0 := hBl.frozen 0
    have zf1 := hBl.frozen 1
    have zf2 := hBl.frozen 2
    go_wp2
    exact StepQB.mk (below_put (Below.refl _ _) hlg _ _ _) (hBl.put _ _ _)
  intro x w92 g2 hb9 hv hxg hlg hBl
  have hv10 : x 10 = _ := hv 10 (by decide) (by decide) (by decide)
  clear hv
  simp only [List.take, List.drop, fillA, Act.put]
  rw [hxg, hv10]
  clear hxg hv10
  have K14 := Lib.hid (K14.out.below hb9 (Raw.lt K14.out))
  have K16 := Lib.hid (K16.out.below hb9 (Raw.lt K16.out))
  have K18 : Hid (Raw w92 g2 qn qa qd) := hBl
  have HB := Lib.hid (HB.out.trans (hb9.mono HB.out.size))
  clear hBl
  go_wp2
  refine wp_region_put 13 11 12 [v', .agg #[.bool sn, .string (bs sa), .string (bs sd)], .int .u8 a, .string (bs ca), .int .u8 c, .string (bs cc), .int .i64 dy, .tuple #[.agg #[.bool zn, .string (bs za), .string (bs zd)], .int .i64 k], .tuple #[.agg #[.bool zn, .string (bs za), .string (bs zd)], .int .i64 k], .agg #[.bool zn, .string (bs za), .string (bs zd)], .int .i64 k, undef, undef] #[.bool false, .string ⟨#[]⟩, .string ⟨#[]⟩] #[.bool zn, .string (bs za), .string (bs zd)] 30 rfl (by kernel_rfl) (by kernel_rfl) (by kernel_rfl) (by kernel_rfl) (by decide) (by decide) (by decide) ?_ ?_
  refine ⟨?_, ?_, ?_, ?_, ?_, ?_, ?_, ?_, ?_, ?_, ?_, ?_, ?_, trivial⟩
  · intro x a1 w1 hbx hev hev0 hd
    have e13 : a1.tmps[13]?.getD undef = v' := hev0 13 rfl
    clear hev hev0 hd
    rw [if_neg (by decide), if_neg (by decide)]
    go_wp2
    exact StepQ.mk _ (Below.refl _ _) rfl
  · intro x a1 w1 hbx hev hev0 hd
    have e14 : a1.tmps[14]?.getD undef = .pointer (some ⟨w3.heap.size, 0, none⟩) := hev0 14 rfl
    clear hev hev0 hd
    rw [if_neg (by decide), if_neg (by decide)]
    have x0 := (K14.out.below hbx (Raw.lt K14.out)).c0
    have x1 := (K14.out.below hbx (Raw.lt K14.out)).c1
    have x2 := (K14.out.below hbx (Raw.lt K14.out)).c2
    go_wp2
    exact StepQ.mk _ (Below.refl _ _) rfl
  · intro x a1 w1 hbx hev hev0 hd
    have e2 : a1.tmps[2]?.getD undef = .int .u8 a := hev0 2 rfl
    clear hev hev0 hd
    rw [if_neg (by decide), if_neg (by decide)]
    go_wp2
    exact StepQ.mk _ (Below.refl _ _) rfl
  · intro x a1 w1 hbx hev hev0 hd
    have e56 := hev 2 _ 56 rfl rfl
    have d2 : x 2 = .int .u8 a := hd ⟨2, .data⟩ (by simp) rfl (by decide) (by decide)
    rw [d2] at e56
    clear d2
    clear hev hev0 hd
    rw [if_neg (by decide), if_neg (by decide)]
    go_wp2_with fail
    refine (HCOa.out _).mono ?_
    rintro e w8 ⟨rfl, hb8⟩
    go_wp2
    exact StepQ.mk _ hb8 rfl
  · intro x a1 w1 hbx hev hev0 hd
    have e4 : a1.tmps[4]?.getD undef = .int .u8 c := hev0 4 rfl
    clear hev hev0 hd
    rw [if_neg (by decide), if_neg (by decide)]
    go_wp2
    exact StepQ.mk _ (Below.refl _ _) rfl
  · intro x a1 w1 hbx hev hev0 hd
    have e58 := hev 4 _ 58 rfl rfl
    have d4 : x 4 = .int .u8 c := hd ⟨4, .data⟩ (by simp) rfl (by decide) (by decide)
    rw [d4] at e58
    clear d4
    clear hev hev0 hd
    rw [if_neg (by decide), if_neg (by decide)]
    go_wp2_with fail
    refine (HCOc.out _).mono ?_
    rintro e w8 ⟨rfl, hb8⟩
    go_wp2
    exact StepQ.mk _ hb8 rfl
  · intro x a1 w1 hbx hev hev0 hd
    have e15 : a1.tmps[15]?.getD undef = .int .i64 dy := hev0 15 rfl
    clear hev hev0 hd
    rw [if_neg (by decide), if_neg (by decide)]
    go_wp2
    exact StepQ.mk _ (Below.refl _ _) rfl
  · intro x a1 w1 hbx hev hev0 hd
    have e54 := hev 0 _ 54 rfl rfl
    have d0 : x 0 = v' := hd ⟨0, .data⟩ (by simp) rfl (by decide) (by decide)
    rw [d0] at e54
    clear d0
    have e55 := hev 1 _ 55 rfl rfl
    have d1 : x 1 = .agg #[.bool sn, .string (bs sa), .string (bs sd)] := hd ⟨1, .data⟩ (by simp) rfl (by decide) (by decide)
    rw [d1] at e55
    clear d1
    have e57 := hev 3 _ 57 rfl rfl
    have d3 : x 3 = .string (bs ca) := hd ⟨3, .data⟩ (by simp) rfl (by decide) (by decide)
    rw [d3] at e57
    clear d3
    have e59 := hev 5 _ 59 rfl rfl
    have d5 : x 5 = .string (bs cc) := hd ⟨5, .data⟩ (by simp) rfl (by decide) (by decide)
    rw [d5] at e59
    clear d5
    have e60 := hev 6 _ 60 rfl rfl
    have d6 : x 6 = .int .i64 dy := hd ⟨6, .data⟩ (by simp) rfl (by decide) (by decide)
    rw [d6] at e60
    clear d6
    clear hev hev0 hd
    rw [if_neg (by decide), if_neg (by decide)]
    go_wp2_with fail
    refine (HC3.out _ _ (Q.out.below (HB.out.trans (hbx.mono HB.out.size)))).mono ?_
    rintro e w8 ⟨rfl, hb8⟩
    go_wp2
    exact StepQ.mk _ hb8 rfl
  · intro x a1 w1 hbx hev hev0 hd
    have e61 := hev 7 _ 61 rfl rfl
    have d7 : x 7 = .tuple #[.agg #[.bool zn, .string (bs za), .string (bs zd)], .int .i64 k] := hd ⟨7, .data⟩ (by simp) rfl (by decide) (by decide)
    rw [d7] at e61
    clear d7
    clear hev hev0 hd
    rw [if_neg (by decide), if_neg (by decide)]
    go_wp2
    exact StepQ.mk _ (Below.refl _ _) rfl
  · intro x a1 w1 hbx hev hev0 hd
    have e53 := hev 8 _ 53 rfl rfl
    have d8 : x 8 = .tuple #[.agg #[.bool zn, .string (bs za), .string (bs zd)], .int .i64 k] := hd ⟨8, .data⟩ (by simp) rfl (by decide) (by decide)
    rw [d8] at e53
    clear d8
    clear hev hev0 hd
    rw [if_neg (by decide), if_neg (by decide)]
    go_wp2
    exact StepQ.mk _ (Below.refl _ _) rfl
  · intro x a1 w1 hbx hev hev0 hd
    have e53 := hev 8 _ 53 rfl rfl
    have d8 : x 8 = .tuple #[.agg #[.bool zn, .string (bs za), .string (bs zd)], .int .i64 k] := hd ⟨8, .data⟩ (by simp) rfl (by decide) (by decide)
    rw [d8] at e53
    clear d8
    clear hev hev0 hd
    rw [if_neg (by decide), if_neg (by decide)]
    go_wp2
    exact StepQ.mk _ (Below.refl _ _) rfl
  · intro x a1 w1 hbx hev hev0 hd
    clear hev hev0 hd
    rw [if_pos rfl]
    go_wp2
    exact StepQ.mk _ (Ext.alloc (Below.refl _ _) _) ⟨_, rfl, Nat.le_refl _, Blk.new _ _ _⟩
  · intro x a1 w1 hbx hev hev0 hd
    have e20 := hev 11 _ 20 rfl rfl
    have e62 := hev 9 _ 62 rfl rfl
    have d9 : x 9 = .agg #[.bool zn, .string (bs za), .string (bs zd)] := hd ⟨9, .data⟩ (by simp) rfl (by decide) (by decide)
    rw [d9] at e62
    clear d9
    clear hev hev0 hd
    rw [if_neg (by decide), if_pos rfl]
    intro g hxg hlg hBl
    rw [hxg] at e20
    clear hxg
    have hBl : Raw w1 g false [] [] := hBl
    have z0 := hBl.c0
    have z1 := hBl.c1
    have z2 := hBl.c2
    have zf0 := hBl.frozen 0
    have zf1 := hBl.frozen 1
    have zf2 := hBl.frozen 2
    go_wp2
    exact StepQB.mk (below_put (Below.refl _ _) hlg _ _ _) (hBl.put _ _ _)
  intro x w93 g3 hb9 hv hxg hlg hBl
  have hv10 : x 10 = _ := hv 10 (by decide) (by decide) (by decide)
  clear hv
  simp only [List.take, List.drop, fillA, Act.put]
  rw [hxg, hv10]
  clear hxg hv10
  have K14 := Lib.hid (K14.out.below hb9 (Raw.lt K14.out))
  have K16 := Lib.hid (K16.out.below hb9 (Raw.lt K16.out))
  have K18 := Lib.hid (K18.out.below hb9 (Raw.lt K18.out))
  have K20 : Hid (Raw w93 g3 zn za zd) := hBl
  have HB := Lib.hid (HB.out.trans (hb9.mono HB.out.size))
  clear hBl
  go_wp2
  refine wp_region_put 13 11 12 [v', .agg #[.bool zn, .string (bs za), .string (bs zd)], .int .u8 c, .string (bs cc), .int .u8 b, .string (bs cb), .int .i64 dy, .tuple #[.agg #[.bool un, .string (bs ua), .string (bs ud)], .int .i64 l], .tuple #[.agg #[.bool un, .string (bs ua), .string (bs ud)], .int .i64 l], .agg #[.bool un, .string (bs ua), .string (bs ud)], .int .i64 l, undef, undef] #[.bool false, .string ⟨#[]⟩, .string ⟨#[]⟩] #[.bool un, .string (bs ua), .string (bs ud)] 30 rfl (by kernel_rfl) (by kernel_rfl) (by kernel_rfl) (by kernel_rfl) (by decide) (by decide) (by decide) ?_ ?_
  refine ⟨?_, ?_, ?_, ?_, ?_, ?_, ?_, ?_, ?_, ?_, ?_, ?_, ?_, trivial⟩
  · intro x a1 w1 hbx hev hev0 hd
    have e13 : a1.tmps[13]?.getD undef = v' := hev0 13 rfl
    clear hev hev0 hd
    rw [if_neg (by decide), if_neg (by decide)]
    go_wp2
    exact StepQ.mk _ (Below.refl _ _) rfl
  · intro x a1 w1 hbx hev hev0 hd
    have e20 : a1.tmps[20]?.getD undef = .pointer (some ⟨g3, 0, none⟩) := hev0 20 rfl
    clear hev hev0 hd
    rw [if_neg (by decide), if_neg (by decide)]
    have x0 := (K20.out.below hbx (Raw.lt K20.out)).c0
    have x1 := (K20.out.below hbx (Raw.lt K20.out)).c1
    have x2 := (K20.out.below hbx (Raw.lt K20.out)).c2
    go_wp2
    exact StepQ.mk _ (Below.refl _ _) rfl
  · intro x a1 w1 hbx hev hev0 hd
    have e4 : a1.tmps[4]?.getD undef = .int .u8 c := hev0 4 rfl
    clear hev hev0 hd
    rw [if_neg (by decide), if_neg (by decide)]
    go_wp2
    exact StepQ.mk _ (Below.refl _ _) rfl
  · intro x a1 w1 hbx hev hev0 hd
    have e67 := hev 2 _ 67 rfl rfl
    have d2 : x 2 = .int .u8 c := hd ⟨2, .data⟩ (by simp) rfl (by decide) (by decide)
    rw [d2] at e67
    clear d2
    clear hev hev0 hd
    rw [if_neg (by decide), if_neg (by decide)]
    go_wp2_with fail
    refine (HCOc.out _).mono ?_
    rintro e w8 ⟨rfl, hb8⟩
    go_wp2
    exact StepQ.mk _ hb8 rfl
  · intro x a1 w1 hbx hev hev0 hd
    have e3 : a1.tmps[3]?.getD undef = .int .u8 b := hev0 3 rfl
    clear hev hev0 hd
    rw [if_neg (by decide), if_neg (by decide)]
    go_wp2
    exact StepQ.mk _ (Below.refl _ _) rfl
  · intro x a1 w1 hbx hev hev0 hd
    have e69 := hev 4 _ 69 rfl rfl
    have d4 : x 4 = .int .u8 b := hd ⟨4, .data⟩ (by simp) rfl (by decide) (by decide)
    rw [d4] at e69
    clear d4
    clear hev hev0 hd
    rw [if_neg (by decide), if_neg (by decide)]
    go_wp2_with fail
    refine (HCOb.out _).mono ?_
    rintro e w8 ⟨rfl, hb8⟩
    go_wp2
    exact StepQ.mk _ hb8 rfl
  · intro x a1 w1 hbx hev hev0 hd
    have e15 : a1.tmps[15]?.getD undef = .int .i64 dy := hev0 15 rfl
    clear hev hev0 hd
    rw [if_neg (by decide), if_neg (by decide)]
    go_wp2
    exact StepQ.mk _ (Below.refl _ _) rfl
  · intro x a1 w1 hbx hev hev0 hd
    have e65 := hev 0 _ 65 rfl rfl
    have d0 : x 0 = v' := hd ⟨0, .data⟩ (by simp) rfl (by decide) (by decide)
    rw [d0] at e65
    clear d0
    have e66 := hev 1 _ 66 rfl rfl
    have d1 : x 1 = .agg #[.bool zn, .string (bs za), .string (bs zd)] := hd ⟨1, .data⟩ (by simp) rfl (by decide) (by decide)
    rw [d1] at e66
    clear d1
    have e68 := hev 3 _ 68 rfl rfl
    have d3 : x 3 = .string (bs cc) := hd ⟨3, .data⟩ (by simp) rfl (by decide) (by decide)
    rw [d3] at e68
    clear d3
    have e70 := hev 5 _ 70 rfl rfl
    have d5 : x 5 = .string (bs cb) := hd ⟨5, .data⟩ (by simp) rfl (by decide) (by decide)
    rw [d5] at e70
    clear d5
    have e71 := hev 6 _ 71 rfl rfl
    have d6 : x 6 = .int .i64 dy := hd ⟨6, .data⟩ (by simp) rfl (by decide) (by decide)
    rw [d6] at e71
    clear d6
    clear hev hev0 hd
    rw [if_neg (by decide), if_neg (by decide)]
    go_wp2_with fail
    refine (HC4.out _ _ (Q.out.below (HB.out.trans (hbx.mono HB.out.size)))).mono ?_
    rintro e w8 ⟨rfl, hb8⟩
    go_wp2
    exact StepQ.mk _ hb8 rfl
  · intro x a1 w1 hbx hev hev0 hd
    have e72 := hev 7 _ 72 rfl rfl
    have d7 : x 7 = .tuple #[.agg #[.bool un, .string (bs ua), .string (bs ud)], .int .i64 l] := hd ⟨7, .data⟩ (by simp) rfl (by decide) (by decide)
    rw [d7] at e72
    clear d7
    clear hev hev0 hd
    rw [if_neg (by decide), if_neg (by decide)]
    go_wp2
    exact StepQ.mk _ (Below.refl _ _) rfl
  · intro x a1 w1 hbx hev hev0 hd
    have e64 := hev 8 _ 64 rfl rfl
    have d8 : x 8 = .tuple #[.agg #[.bool un, .string (bs ua), .string (bs ud)], .int .i64 l] := hd ⟨8, .data⟩ (by simp) rfl (by decide) (by decide)
    rw [d8] at e64
    clear d8
    clear hev hev0 hd
    rw [if_neg (by decide), if_neg (by decide)]
    go_wp2
    exact StepQ.mk _ (Below.refl _ _) rfl
  · intro x a1 w1 hbx hev hev0 hd
    have e64 := hev 8 _ 64 rfl rfl
    have d8 : x 8 = .tuple #[.agg #[.bool un, .string (bs ua), .string (bs ud)], .int .i64 l] := hd ⟨8, .data⟩ (by simp) rfl (by decide) (by decide)
    rw [d8] at e64
    clear d8
    clear hev hev0 hd
    rw [if_neg (by decide), if_neg (by decide)]
    go_wp2
    exact StepQ.mk _ (Below.refl _ _) rfl
  · intro x a1 w1 hbx hev hev0 hd
    clear hev hev0 hd
    rw [if_pos rfl]
    go_wp2
    exact StepQ.mk _ (Ext.alloc (Below.refl _ _) _) ⟨_, rfl, Nat.le_refl _, Blk.new _ _ _⟩
  · intro x a1 w1 hbx hev hev0 hd
    have e22 := hev 11 _ 22 rfl rfl
    have e73 := hev 9 _ 73 rfl rfl
    have d9 : x 9 = .agg #[.bool un, .string (bs ua), .string (bs ud)] := hd ⟨9, .data⟩ (by simp) rfl (by decide) (by decide)
    rw [d9] at e73
    clear d9
    clear hev hev0 hd
    rw [if_neg (by decide), if_pos rfl]
    intro g hxg hlg hBl
    rw [hxg] at e22
    clear hxg
    have hBl : Raw w1 g false [] [] := hBl
    have z0 := hBl.c0
    have z1 := hBl.c1
    have z2 := hBl.c2
    have zf0 := hBl.frozen 0
    have zf1 := hBl.frozen 1
    have zf2 := hBl.frozen 2
    go_wp2
    exact StepQB.mk (below_put (Below.refl _ _) hlg _ _ _) (hBl.put _ _ _)
  intro x w94 g4 hb9 hv hxg hlg hBl
  have hv10 : x 10 = _ := hv 10 (by decide) (by decide) (by decide)
  clear hv
  simp only [List.take, List.drop, fillA, Act.put]
  rw [hxg, hv10]
  clear hxg hv10
  have K14 := Lib.hid (K14.out.below hb9 (Raw.lt K14.out))
  have K16 := Lib.hid (K16.out.below hb9 (Raw.lt K16.out))
  have K18 := Lib.hid (K18.out.below hb9 (Raw.lt K18.out))
  have K20 := Lib.hid (K20.out.below hb9 (Raw.lt K20.out))
  have K22 : Hid (Raw w94 g4 un ua ud) := hBl
  have HB := Lib.hid (HB.out.trans (hb9.mono HB.out.size))
  clear hBl
  have HBZ := Lib.hid HB0.out.size
  by_cases hn : n = 0
  · obtain ⟨rfl, rfl, rfl, rfl⟩ := HG2.out hn
    have en := EN.out
    subst hn
    have y0 := K14.out.c0
    have y1 := K14.out.c1
    have y2 := K14.out.c2
    have t0 := K18.out.c0
    have t1 := K18.out.c1
    have t2 := K18.out.c2
    by_cases hk : k = 0
    · obtain ⟨rfl, rfl, rfl, rfl⟩ := HG3.out rfl hk
      have ee := EE.out
      subst hk
      go_wp2_with fail
      refine (law7_awake _).mono ?_
      rintro e w7 ⟨rfl, hb7⟩
      have HBY := Lib.hid (HB0.out.trans ((Ext.trans HB.out hb7).mono HBZ.out))
      have k16 := K16.out.below hb7 (Raw.lt K16.out)
      have k22 := K22.out.below hb7 (Raw.lt K22.out)
      have p0 := k16.c0
      have p1 := k16.c1
      have p2 := k16.c2
      have r0 := k22.c0
      have r1 := k22.c1
      have r2 := k22.c2
      clear hb7 k16 k22
      go_wp2
      go_ret
      exact ⟨rfl, HBY.out⟩
    · have c1 : (k == 0) = false := by rw [beq_eq_false_iff_ne]; exact hk
      have c2 : (k != 0) = true := by rw [bne, c1]; rfl
      go_wp2_with fail
      refine (law7_awake _).mono ?_
      rintro e w7 ⟨rfl, hb7⟩
      have HBY := Lib.hid (HB0.out.trans ((Ext.trans HB.out hb7).mono HBZ.out))
      clear hb7
      go_wp2
      go_ret
      exact ⟨rfl, HBY.out⟩
  · have hm := HF1.out hn
    have c1 : (n == 0) = false := by rw [beq_eq_false_iff_ne]; exact hn
    have c2 : (m == 0) = false := by rw [beq_eq_false_iff_ne]; exact hm
    have c3 : (m != 0) = true := by rw [bne, c2]; rfl
    have c4 : (n != 0) = true := by rw [bne, c1]; rfl
    go_wp2_with fail
    refine (law7_awake _).mono ?_
    rintro e w7 ⟨rfl, hb7⟩
    have HBY := Lib.hid (HB0.out.trans ((Ext.trans HB.out hb7).mono HBZ.out))
    clear hb7
    go_wp2
    go_ret
    exact ⟨rfl, HBY.out⟩
end Go.Proofs.YtcbjehnjbfmchaaDoor
