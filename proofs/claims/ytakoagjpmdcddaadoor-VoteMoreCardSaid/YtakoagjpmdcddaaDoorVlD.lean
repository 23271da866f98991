/-
VoteMore: the law walked (printed by gen_vl.py).
-/
import Derived.Test.YtakoagjpmdcddaaDoorVlA
namespace Go.Proofs.YtakoagjpmdcddaaDoor
open Go.RowKit

theorem for_sgn {a b : Rat} (h : a ≤ b) : sgn (a - b).num ≤ 0 := le_sgn.2 h

set_option maxRecDepth 100000 in
set_option maxHeartbeats 2000000 in
theorem law_VoteMore (v1 : Value) (ts : List Qua) (m k : Int) (w : World) (h1 : Quas w v1 ts) (hok : ∀ t ∈ ts, t.ok) (hm : 0 ≤ m ∧ m ≤ 255) (hk : 0 ≤ k ∧ k ≤ 255) :
    Calls Tryd.prog 6 #[v1, .int .u8 m, .int .u8 k] w fun e w' => e = .returned (.bool true) ∧ Below w.heap.size w w' := by
  have HAW := Lib.hid (fun W => law30_awake W)
  have hq0 := fun W (hb : Below w.heap.size w W) => law30_Voters v1 ts W (h1.below hb) hok
  obtain ⟨hln, hall⟩ := votersOf_all hok
  have hck := votersOf_check hok
  have hsm : SmallV 8 (votersOf ts) := fun u hu => (hall u hu).1
  have hpar : ∀ u ∈ votersOf ts, W64 u.party := fun u hu => W64_of (by have := (hall u hu).2; omega)
  have ham : ∀ u ∈ votersOf ts, 0 ≤ u.amount ∧ 0 ≤ u.ask := fun u hu => (hall u hu).2.2.2
  clear hall h1 hok
  generalize votersOf ts = x at *
  have HQ0 := Lib.hid hq0
  clear hq0
  have e1 : Int.tmod m 30 = m % 30 := Int.tmod_eq_emod_of_nonneg hm.1
  have e2 : IntKind.u8.wrap (m % 30) = m % 30 := by rw [IntKind.wrap_u8]; omega
  have e3 : IntKind.i64.wrap (m % 30) = m % 30 := IntWalk.i64_in _ (by omega)
  have e4 : Int.tmod k 20 = k % 20 := Int.tmod_eq_emod_of_nonneg hk.1
  have e5 : IntKind.u8.wrap (k % 20) = k % 20 := by rw [IntKind.wrap_u8]; omega
  have e6 : IntKind.i64.wrap (k % 20) = k % 20 := IntWalk.i64_in _ (by omega)
  have hR := fun W => law0_Ratio (m % 30) 24 W (by omega) (by omega) (by decide) (by decide)
  have hS := fun W => law0_Ratio (k % 20) 24 W (by omega) (by omega) (by decide) (by decide)
  rw [show (24 : Int).toNat = 24 from rfl] at hR hS
  have q0 : 0 ≤ mkRat (k % 20) 24 := mkRat_nonneg' (by omega) (by decide)
  have rs := rateI_sized (n := m % 30) (d := 24) (by decide) (by omega) (by decide)
  have qs := rateI_sized (n := k % 20) (d := 24) (by decide) (by omega) (by decide)
  generalize mkRat (m % 30) 24 = r at *
  generalize mkRat (k % 20) 24 = q at *
  have hAd := fun W => ref_Add (negB r) (numB r) (denomB r) (negB q) (numB q) (denomB q) W (Nat.le_trans rs.num (by decide)) (Nat.le_trans rs.denom (by decide)) (Nat.le_trans qs.num (by decide)) (Nat.le_trans qs.denom (by decide))
  rw [show decR (negB r) (numB r) (denomB r) = r from dec_enc r, show decR (negB q) (numB q) (denomB q) = q from dec_enc q] at hAd
  have hrs : r ≤ r + q := by grind
  have ss := rs.add qs
  generalize r + q = s at *
  have hC1 := fun v W (h : VotersL W v x) => vote_Count v x (negB r) (numB r) (denomB r) W h (hsm.mono (by decide)) hpar (Nat.le_trans rs.num (by decide)) (Nat.le_trans rs.denom (by decide))
  have hC2 := fun v W (h : VotersL W v x) => vote_Count v x (negB s) (numB s) (denomB s) W h (hsm.mono (by decide)) hpar (Nat.le_trans ss.num (by decide)) (Nat.le_trans ss.denom (by decide))
  have hA1 := fun v W (h : VotersL W v x) => vote_Accepts v x (negB r) (numB r) (denomB r) W h (hsm.mono (by decide)) hpar (Nat.le_trans rs.num (by decide)) (Nat.le_trans rs.denom (by decide))
  have hA2 := fun v W (h : VotersL W v x) => vote_Accepts v x (negB s) (numB s) (denomB s) W h (hsm.mono (by decide)) hpar (Nat.le_trans ss.num (by decide)) (Nat.le_trans ss.denom (by decide))
  rw [show decR (negB r) (numB r) (denomB r) = r from dec_enc r] at hC1 hA1
  rw [show decR (negB s) (numB s) (denomB s) = s from dec_enc s] at hC2 hA2
  have hres : ∀ z, countR x z = (tallyV x z, 0) := fun z => by unfold countR; rw [hck]; rfl
  have hacc : ∀ z, acceptsR x z = (passedV (tallyV x z), 0) := fun z => by unfold acceptsR; rw [hck]; rfl
  rw [hres] at hC1 hC2
  rw [hacc] at hA1 hA2
  dsimp only at hC1 hC2 hA1 hA2
  obtain ⟨hf1, hf2⟩ := tally_mono (fun u hu => (ham u hu).1) hrs
  have hpm := passed_mono (fun u hu => (ham u hu).1) hrs
  have ea : (tallyV x s).amount = (tallyV x r).amount := rfl
  have eh : (tallyV x s).heads = (tallyV x r).heads := rfl
  have zr := tally_size (hsm.mono (by decide)) (by omega) r
  have zs := tally_size (hsm.mono (by decide)) (by omega) s
  generalize tallyV x r = tr at *
  generalize tallyV x s = tz at *
  obtain ⟨am, f1, h1, y1⟩ := tr
  obtain ⟨am2, f2, h2, y2⟩ := tz
  dsimp only at ea eh hf1 hf2 zr zs
  subst ea
  subst eh
  obtain ⟨za, zf1, _, _⟩ := zr
  obtain ⟨_, zf2, _, _⟩ := zs
  have hCm := fun W => ref_Compare (negB f1) (numB f1) (denomB f1) (negB f2) (numB f2) (denomB f2) W (Nat.le_trans zf1.num (by decide)) (Nat.le_trans zf1.denom (by decide)) (Nat.le_trans zf2.num (by decide)) (Nat.le_trans zf2.denom (by decide))
  rw [show decR (negB f1) (numB f1) (denomB f1) = f1 from dec_enc f1, show decR (negB f2) (numB f2) (denomB f2) = f2 from dec_enc f2] at hCm
  have hc0 := for_sgn hf1
  have hq := fun W => eql_same za (by decide) W
  generalize sgn (f1 - f2).num = cc at *
  have d1 : decide (cc ≤ 0) = true := decide_eq_true hc0
  have d2 : y1 ≤ y2 := hf2
  have d3 : ((h2 : Int) == (h2 : Int)) = true := by simp
  obtain ⟨cB, hcB⟩ : ∃ z, z = passedV ⟨am2, f1, h2, y1⟩ := ⟨_, rfl⟩
  obtain ⟨dB, hdB⟩ : ∃ z, z = passedV ⟨am2, f2, h2, y2⟩ := ⟨_, rfl⟩
  rw [← hcB] at hA1 hpm
  rw [← hdB] at hA2 hpm
  clear hres hacc hf1 hf2 zf1 zf2 za hc0 rs qs ss hcB hdB hrs q0 ham hck hpar hsm hm hk
  unfold tly tlyC at *
  unfold rat raw at *
  generalize negB r = nr at *
  generalize numB r = br at *
  generalize denomB r = dr at *
  generalize negB q = nq at *
  generalize numB q = bq at *
  generalize denomB q = dq at *
  generalize negB s = nz at *
  generalize numB s = bz at *
  generalize denomB s = dz at *
  have hpm2 := Lib.hid hpm
  clear hpm
  have HR := Lib.hid hR
  have HS := Lib.hid hS
  have HAD := Lib.hid hAd
  have HC1 := Lib.hid hC1
  have HC2 := Lib.hid hC2
  have HA1 := Lib.hid hA1
  have HA2 := Lib.hid hA2
  have HCM := Lib.hid hCm
  have HEQ := Lib.hid hq
  clear hR hS hAd hC1 hC2 hA1 hA2 hCm hq
  cases dB
  · have hcf : cB = false := by
      cases cB
      · rfl
      · exact absurd (hpm2.out rfl) (by decide)
    subst hcf
    go_enter Tryd.func6, Tryd.ntmps6
    have HS := Lib.hid (St.start w)
    go_wp2_with fail
    refine (HQ0.out _ HS.out.below).mono ?_
    rintro e w2 ⟨v2, rfl, hl2, hb2⟩
    have HS2 := Lib.hid (HS.out.call hb2)
    have Q_2 := Lib.hid hl2
    clear hl2
    clear hb2 HS
    have HB0 := Lib.hid HS2.out.below
    clear HS2
    have HT2 := Lib.hid (St.start w2)
    have HZQ := Q_2.out
    have HZQ := Lib.hid HZQ
    clear Q_2
    go_wp2_with fail
    refine (HR.out _).mono ?_
    rintro e w3 ⟨rfl, hb3⟩
    have HT3 := Lib.hid (HT2.out.call hb3)
    clear hb3 HT2
    go_wp2
    refine wp_st (R := [⟨w3.heap.size, #[.bool nr, .string (bs br), .string (bs dr)], 28⟩]) (St.alloc (HT3.out) #[.bool nr, .string (bs br), .string (bs dr)] 28 _ (by simp)) ?_
    intro wg4 hb
    have HT4 := Lib.hid hb
    clear hb HT3
    refine wp_region_facts 7 [fun _ vv => vv = .agg #[.bool nr, .string (bs br), .string (bs dr)], fun _ vv => vv = .int .u8 k, fun _ vv => vv = .int .u8 (k % 20), fun _ vv => vv = .int .i64 (k % 20), fun _ vv => vv = .agg #[.bool nq, .string (bs bq), .string (bs dq)], fun _ vv => vv = .agg #[.bool nz, .string (bs bz), .string (bs dz)], fun ww vv => ∃ g, vv = .pointer (some ⟨g, 0, none⟩) ∧ wg4.heap.size ≤ g ∧ Blk ww g #[.bool false, .string (bs []), .string (bs [])] 28] rfl (by kernel_rfl) (by kernel_rfl) (by kernel_rfl) ⟨fun _ _ _ h _ => h, fun _ _ _ h _ => h, fun _ _ _ h _ => h, fun _ _ _ h _ => h, fun _ _ _ h _ => h, fun _ _ _ h _ => h, fun _ _ _ ⟨g, e, hg, h⟩ hb => ⟨g, e, hg, h.below hb h.lt⟩, trivial⟩ ?_ ?_
    refine ⟨?_, ?_, ?_, ?_, ?_, ?_, ?_, trivial⟩
    · intro xx af wv hbx hev hev0 hd
      have e8 : af.tmps[8]?.getD undef = .pointer (some ⟨w3.heap.size, 0, none⟩) := hev0 8 rfl
      clear hev hev0 hd
      have hs1 := Lib.hid (HT4.out.call hbx)
      have y0 := hs1.out.cell 0 rfl 0 rfl
      have y1 := hs1.out.cell 0 rfl 1 rfl
      have y2 := hs1.out.cell 0 rfl 2 rfl
      go_wp2
      exact StepQ.mk _ (Below.refl _ _) rfl
    · intro xx af wv hbx hev hev0 hd
      have e2 : af.tmps[2]?.getD undef = .int .u8 k := hev0 2 rfl
      clear hev hev0 hd
      go_wp2
      exact StepQ.mk _ (Below.refl _ _) rfl
    · intro xx af wv hbx hev hev0 hd
      have e25 := hev 1 _ 25 rfl rfl
      have d1 : xx 1 = .int .u8 k := hd ⟨1, .data⟩ (by simp) rfl
      rw [d1] at e25
      clear d1
      clear hev hev0 hd
      go_wp2
      exact StepQ.mk _ (Below.refl _ _) rfl
    · intro xx af wv hbx hev hev0 hd
      have e26 := hev 2 _ 26 rfl rfl
      have d2 : xx 2 = .int .u8 (k % 20) := hd ⟨2, .data⟩ (by simp) rfl
      rw [d2] at e26
      clear d2
      clear hev hev0 hd
      go_wp2
      exact StepQ.mk _ (Below.refl _ _) rfl
    · intro xx af wv hbx hev hev0 hd
      have e27 := hev 3 _ 27 rfl rfl
      have d3 : xx 3 = .int .i64 (k % 20) := hd ⟨3, .data⟩ (by simp) rfl
      rw [d3] at e27
      clear d3
      clear hev hev0 hd
      go_wp2_with fail
      refine (HS.out _).mono ?_
      rintro e w8 ⟨rfl, hb8⟩
      go_wp2
      exact StepQ.mk _ hb8 rfl
    · intro xx af wv hbx hev hev0 hd
      have e24 := hev 0 _ 24 rfl rfl
      have d0 : xx 0 = .agg #[.bool nr, .string (bs br), .string (bs dr)] := hd ⟨0, .data⟩ (by simp) rfl
      rw [d0] at e24
      clear d0
      have e28 := hev 4 _ 28 rfl rfl
      have d4 : xx 4 = .agg #[.bool nq, .string (bs bq), .string (bs dq)] := hd ⟨4, .data⟩ (by simp) rfl
      rw [d4] at e28
      clear d4
      clear hev hev0 hd
      go_wp2_with fail
      refine (HAD.out _).mono ?_
      rintro e w8 ⟨rfl, hb8⟩
      go_wp2
      exact StepQ.mk _ hb8 rfl
    · intro xx af wv hbx hev hev0 hd
      clear hev hev0 hd
      go_wp2
      exact StepQ.mk _ (Ext.alloc (Below.refl _ _) _) ⟨_, rfl, hbx.size, Blk.new _ _ _⟩
    intro xx w6 hb9 hv
    have hv0 : xx 0 = .agg #[.bool nr, .string (bs br), .string (bs dr)] := hv 0 (by decide)
    have hv1 : xx 1 = .int .u8 k := hv 1 (by decide)
    have hv2 : xx 2 = .int .u8 (k % 20) := hv 2 (by decide)
    have hv3 : xx 3 = .int .i64 (k % 20) := hv 3 (by decide)
    have hv4 : xx 4 = .agg #[.bool nq, .string (bs bq), .string (bs dq)] := hv 4 (by decide)
    have hv5 : xx 5 = .agg #[.bool nz, .string (bs bz), .string (bs dz)] := hv 5 (by decide)
    obtain ⟨g6, hv6, hlg6, hB6⟩ := hv 6 (by decide)
    clear hv
    simp only [List.take, List.drop, fillA, Act.put]
    simp only [hv0, hv1, hv2, hv3, hv4, hv5, hv6]
    clear hv0 hv1 hv2 hv3 hv4 hv5 hv6
    have HT6 := Lib.hid (HT4.out.fill hb9 hlg6 hB6)
    clear hlg6 hB6
    clear hb9 HT4
    have x1 := HT6.out.cell 0 rfl 0 rfl
    have x2 := HT6.out.cell 0 rfl 1 rfl
    have x3 := HT6.out.cell 0 rfl 2 rfl
    have x4 := HT6.out.cell 1 rfl 0 rfl
    have x5 := HT6.out.cell 1 rfl 1 rfl
    have x6 := HT6.out.cell 1 rfl 2 rfl
    have x7 := HT6.out.frozen 0 rfl 0
    have x8 := HT6.out.frozen 0 rfl 1
    have x9 := HT6.out.frozen 0 rfl 2
    have x10 := HT6.out.ne 0 1 rfl rfl (by decide)
    have x11 := HT6.out.ne 1 0 rfl rfl (by decide)
    go_wp2_with fail
    have HT7 : Hid (St w2 [⟨g6, #[.bool nz, .string (bs bz), .string (bs dz)], 28⟩, ⟨w3.heap.size, #[.bool nr, .string (bs br), .string (bs dr)], 28⟩] _) := Lib.hid (St.set ((St.set ((St.set (HT6.out) 0 rfl 0 _)) 0 rfl 1 _)) 0 rfl 2 _)
    refine (HC1.out _ _ (HZQ.out.below HT7.out.below)).mono ?_
    rintro e w8 ⟨rfl, hb8⟩
    have HT8 := Lib.hid (HT7.out.call hb8)
    clear hb8 HT6 HT7
    clear x1 x2 x3 x4 x5 x6 x7 x8 x9 x10 x11
    have x12 := HT8.out.cell 0 rfl 0 rfl
    have x13 := HT8.out.cell 0 rfl 1 rfl
    have x14 := HT8.out.cell 0 rfl 2 rfl
    have x15 := HT8.out.lt 0 rfl
    have x16 : ¬ g6 = w8.heap.size := by omega
    have x17 : ¬ w8.heap.size = g6 := by omega
    go_wp2_with fail
    have HT9 : Hid (St w2 [⟨w8.heap.size, #[.bool (negB (am2)), .string (bs (numB (am2))), .string (bs (denomB (am2))), .bool (negB (f1)), .string (bs (numB (f1))), .string (bs (denomB (f1))), .int .i64 (h2 : Nat), .int .i64 (y1 : Nat)], 45⟩, ⟨g6, #[.bool nz, .string (bs bz), .string (bs dz)], 28⟩, ⟨w3.heap.size, #[.bool nr, .string (bs br), .string (bs dr)], 28⟩] _) := Lib.hid (St.alloc (HT8.out) #[.bool (negB (am2)), .string (bs (numB (am2))), .string (bs (denomB (am2))), .bool (negB (f1)), .string (bs (numB (f1))), .string (bs (denomB (f1))), .int .i64 (h2 : Nat), .int .i64 (y1 : Nat)] 45 _ (by simp))
    refine (HC2.out _ _ (HZQ.out.below HT9.out.below)).mono ?_
    rintro e w10 ⟨rfl, hb10⟩
    have HT10 := Lib.hid (HT9.out.call hb10)
    clear hb10 HT8 HT9
    clear x12 x13 x14 x15 x16 x17
    have x18 := HT10.out.cell 2 rfl 0 rfl
    have x19 := HT10.out.cell 2 rfl 1 rfl
    have x20 := HT10.out.cell 2 rfl 2 rfl
    have x21 := HT10.out.lt 2 rfl
    have x22 : ¬ w3.heap.size = w10.heap.size := by omega
    have x23 : ¬ w10.heap.size = w3.heap.size := by omega
    go_wp2_with fail
    have HT11 : Hid (St w2 [⟨w10.heap.size, #[.bool (negB (am2)), .string (bs (numB (am2))), .string (bs (denomB (am2))), .bool (negB (f2)), .string (bs (numB (f2))), .string (bs (denomB (f2))), .int .i64 (h2 : Nat), .int .i64 (y2 : Nat)], 45⟩, ⟨w8.heap.size, #[.bool (negB (am2)), .string (bs (numB (am2))), .string (bs (denomB (am2))), .bool (negB (f1)), .string (bs (numB (f1))), .string (bs (denomB (f1))), .int .i64 (h2 : Nat), .int .i64 (y1 : Nat)], 45⟩, ⟨g6, #[.bool nz, .string (bs bz), .string (bs dz)], 28⟩, ⟨w3.heap.size, #[.bool nr, .string (bs br), .string (bs dr)], 28⟩] _) := Lib.hid (St.alloc (HT10.out) #[.bool (negB (am2)), .string (bs (numB (am2))), .string (bs (denomB (am2))), .bool (negB (f2)), .string (bs (numB (f2))), .string (bs (denomB (f2))), .int .i64 (h2 : Nat), .int .i64 (y2 : Nat)] 45 _ (by simp))
    refine (HA1.out _ _ (HZQ.out.below HT11.out.below)).mono ?_
    rintro e w12 ⟨rfl, hb12⟩
    have HT12 := Lib.hid (HT11.out.call hb12)
    clear hb12 HT10 HT11
    clear x18 x19 x20 x21 x22 x23
    have x24 := HT12.out.cell 2 rfl 0 rfl
    have x25 := HT12.out.cell 2 rfl 1 rfl
    have x26 := HT12.out.cell 2 rfl 2 rfl
    go_wp2_with fail
    refine (HA2.out _ _ (HZQ.out.below HT12.out.below)).mono ?_
    rintro e w13 ⟨rfl, hb13⟩
    have HT13 := Lib.hid (HT12.out.call hb13)
    clear hb13 HT12
    clear x24 x25 x26
    go_wp2_with fail
    refine (HAW.out _).mono ?_
    rintro e w14 ⟨rfl, hb14⟩
    have HT14 := Lib.hid (HT13.out.call hb14)
    clear hb14 HT13
    have x27 := HT14.out.cell 1 rfl 0 rfl
    have x28 := HT14.out.cell 1 rfl 1 rfl
    have x29 := HT14.out.cell 1 rfl 2 rfl
    have x30 := HT14.out.cell 0 rfl 0 rfl
    have x31 := HT14.out.cell 0 rfl 1 rfl
    have x32 := HT14.out.cell 0 rfl 2 rfl
    have x33 := HT14.out.cell 1 rfl 6 rfl
    have x34 := HT14.out.cell 0 rfl 6 rfl
    have x35 := HT14.out.cell 1 rfl 3 rfl
    have x36 := HT14.out.cell 1 rfl 4 rfl
    have x37 := HT14.out.cell 1 rfl 5 rfl
    have x38 := HT14.out.cell 0 rfl 3 rfl
    have x39 := HT14.out.cell 0 rfl 4 rfl
    have x40 := HT14.out.cell 0 rfl 5 rfl
    go_wp2_with fail
    refine (HCM.out _).mono ?_
    rintro e w15 ⟨rfl, hb15⟩
    have HT15 := Lib.hid (HT14.out.call hb15)
    clear hb15 HT14
    clear x27 x28 x29 x30 x31 x32 x33 x34 x35 x36 x37 x38 x39 x40
    have x41 := HT15.out.cell 1 rfl 7 rfl
    have x42 := HT15.out.cell 0 rfl 7 rfl
    go_wp2
    go_ret
    have HT16 : Hid (St w2 [⟨w10.heap.size, #[.bool (negB (am2)), .string (bs (numB (am2))), .string (bs (denomB (am2))), .bool (negB (f2)), .string (bs (numB (f2))), .string (bs (denomB (f2))), .int .i64 (h2 : Nat), .int .i64 (y2 : Nat)], 45⟩, ⟨w8.heap.size, #[.bool (negB (am2)), .string (bs (numB (am2))), .string (bs (denomB (am2))), .bool (negB (f1)), .string (bs (numB (f1))), .string (bs (denomB (f1))), .int .i64 (h2 : Nat), .int .i64 (y1 : Nat)], 45⟩, ⟨g6, #[.bool nz, .string (bs bz), .string (bs dz)], 28⟩, ⟨w3.heap.size, #[.bool nr, .string (bs br), .string (bs dr)], 28⟩] _) := Lib.hid HT15.out
    exact ⟨rfl, Ext.trans HB0.out HT16.out.below⟩
  · go_enter Tryd.func6, Tryd.ntmps6
    have HS := Lib.hid (St.start w)
    go_wp2_with fail
    refine (HQ0.out _ HS.out.below).mono ?_
    rintro e w2 ⟨v2, rfl, hl2, hb2⟩
    have HS2 := Lib.hid (HS.out.call hb2)
    have Q_2 := Lib.hid hl2
    clear hl2
    clear hb2 HS
    have HB0 := Lib.hid HS2.out.below
    clear HS2
    have HT2 := Lib.hid (St.start w2)
    have HZQ := Q_2.out
    have HZQ := Lib.hid HZQ
    clear Q_2
    go_wp2_with fail
    refine (HR.out _).mono ?_
    rintro e w3 ⟨rfl, hb3⟩
    have HT3 := Lib.hid (HT2.out.call hb3)
    clear hb3 HT2
    go_wp2
    refine wp_st (R := [⟨w3.heap.size, #[.bool nr, .string (bs br), .string (bs dr)], 28⟩]) (St.alloc (HT3.out) #[.bool nr, .string (bs br), .string (bs dr)] 28 _ (by simp)) ?_
    intro wg4 hb
    have HT4 := Lib.hid hb
    clear hb HT3
    refine wp_region_facts 7 [fun _ vv => vv = .agg #[.bool nr, .string (bs br), .string (bs dr)], fun _ vv => vv = .int .u8 k, fun _ vv => vv = .int .u8 (k % 20), fun _ vv => vv = .int .i64 (k % 20), fun _ vv => vv = .agg #[.bool nq, .string (bs bq), .string (bs dq)], fun _ vv => vv = .agg #[.bool nz, .string (bs bz), .string (bs dz)], fun ww vv => ∃ g, vv = .pointer (some ⟨g, 0, none⟩) ∧ wg4.heap.size ≤ g ∧ Blk ww g #[.bool false, .string (bs []), .string (bs [])] 28] rfl (by kernel_rfl) (by kernel_rfl) (by kernel_rfl) ⟨fun _ _ _ h _ => h, fun _ _ _ h _ => h, fun _ _ _ h _ => h, fun _ _ _ h _ => h, fun _ _ _ h _ => h, fun _ _ _ h _ => h, fun _ _ _ ⟨g, e, hg, h⟩ hb => ⟨g, e, hg, h.below hb h.lt⟩, trivial⟩ ?_ ?_
    refine ⟨?_, ?_, ?_, ?_, ?_, ?_, ?_, trivial⟩
    · intro xx af wv hbx hev hev0 hd
      have e8 : af.tmps[8]?.getD undef = .pointer (some ⟨w3.heap.size, 0, none⟩) := hev0 8 rfl
      clear hev hev0 hd
      have hs1 := Lib.hid (HT4.out.call hbx)
      have y0 := hs1.out.cell 0 rfl 0 rfl
      have y1 := hs1.out.cell 0 rfl 1 rfl
      have y2 := hs1.out.cell 0 rfl 2 rfl
      go_wp2
      exact StepQ.mk _ (Below.refl _ _) rfl
    · intro xx af wv hbx hev hev0 hd
      have e2 : af.tmps[2]?.getD undef = .int .u8 k := hev0 2 rfl
      clear hev hev0 hd
      go_wp2
      exact StepQ.mk _ (Below.refl _ _) rfl
    · intro xx af wv hbx hev hev0 hd
      have e25 := hev 1 _ 25 rfl rfl
      have d1 : xx 1 = .int .u8 k := hd ⟨1, .data⟩ (by simp) rfl
      rw [d1] at e25
      clear d1
      clear hev hev0 hd
      go_wp2
      exact StepQ.mk _ (Below.refl _ _) rfl
    · intro xx af wv hbx hev hev0 hd
      have e26 := hev 2 _ 26 rfl rfl
      have d2 : xx 2 = .int .u8 (k % 20) := hd ⟨2, .data⟩ (by simp) rfl
      rw [d2] at e26
      clear d2
      clear hev hev0 hd
      go_wp2
      exact StepQ.mk _ (Below.refl _ _) rfl
    · intro xx af wv hbx hev hev0 hd
      have e27 := hev 3 _ 27 rfl rfl
      have d3 : xx 3 = .int .i64 (k % 20) := hd ⟨3, .data⟩ (by simp) rfl
      rw [d3] at e27
      clear d3
      clear hev hev0 hd
      go_wp2_with fail
      refine (HS.out _).mono ?_
      rintro e w8 ⟨rfl, hb8⟩
      go_wp2
      exact StepQ.mk _ hb8 rfl
    · intro xx af wv hbx hev hev0 hd
      have e24 := hev 0 _ 24 rfl rfl
      have d0 : xx 0 = .agg #[.bool nr, .string (bs br), .string (bs dr)] := hd ⟨0, .data⟩ (by simp) rfl
      rw [d0] at e24
      clear d0
      have e28 := hev 4 _ 28 rfl rfl
      have d4 : xx 4 = .agg #[.bool nq, .string (bs bq), .string (bs dq)] := hd ⟨4, .data⟩ (by simp) rfl
      rw [d4] at e28
      clear d4
      clear hev hev0 hd
      go_wp2_with fail
      refine (HAD.out _).mono ?_
      rintro e w8 ⟨rfl, hb8⟩
      go_wp2
      exact StepQ.mk _ hb8 rfl
    · intro xx af wv hbx hev hev0 hd
      clear hev hev0 hd
      go_wp2
      exact StepQ.mk _ (Ext.alloc (Below.refl _ _) _) ⟨_, rfl, hbx.size, Blk.new _ _ _⟩
    intro xx w6 hb9 hv
    have hv0 : xx 0 = .agg #[.bool nr, .string (bs br), .string (bs dr)] := hv 0 (by decide)
    have hv1 : xx 1 = .int .u8 k := hv 1 (by decide)
    have hv2 : xx 2 = .int .u8 (k % 20) := hv 2 (by decide)
    have hv3 : xx 3 = .int .i64 (k % 20) := hv 3 (by decide)
    have hv4 : xx 4 = .agg #[.bool nq, .string (bs bq), .string (bs dq)] := hv 4 (by decide)
    have hv5 : xx 5 = .agg #[.bool nz, .string (bs bz), .string (bs dz)] := hv 5 (by decide)
    obtain ⟨g6, hv6, hlg6, hB6⟩ := hv 6 (by decide)
    clear hv
    simp only [List.take, List.drop, fillA, Act.put]
    simp only [hv0, hv1, hv2, hv3, hv4, hv5, hv6]
    clear hv0 hv1 hv2 hv3 hv4 hv5 hv6
    have HT6 := Lib.hid (HT4.out.fill hb9 hlg6 hB6)
    clear hlg6 hB6
    clear hb9 HT4
    have x1 := HT6.out.cell 0 rfl 0 rfl
    have x2 := HT6.out.cell 0 rfl 1 rfl
    have x3 := HT6.out.cell 0 rfl 2 rfl
    have x4 := HT6.out.cell 1 rfl 0 rfl
    have x5 := HT6.out.cell 1 rfl 1 rfl
    have x6 := HT6.out.cell 1 rfl 2 rfl
    have x7 := HT6.out.frozen 0 rfl 0
    have x8 := HT6.out.frozen 0 rfl 1
    have x9 := HT6.out.frozen 0 rfl 2
    have x10 := HT6.out.ne 0 1 rfl rfl (by decide)
    have x11 := HT6.out.ne 1 0 rfl rfl (by decide)
    go_wp2_with fail
    have HT7 : Hid (St w2 [⟨g6, #[.bool nz, .string (bs bz), .string (bs dz)], 28⟩, ⟨w3.heap.size, #[.bool nr, .string (bs br), .string (bs dr)], 28⟩] _) := Lib.hid (St.set ((St.set ((St.set (HT6.out) 0 rfl 0 _)) 0 rfl 1 _)) 0 rfl 2 _)
    refine (HC1.out _ _ (HZQ.out.below HT7.out.below)).mono ?_
    rintro e w8 ⟨rfl, hb8⟩
    have HT8 := Lib.hid (HT7.out.call hb8)
    clear hb8 HT6 HT7
    clear x1 x2 x3 x4 x5 x6 x7 x8 x9 x10 x11
    have x12 := HT8.out.cell 0 rfl 0 rfl
    have x13 := HT8.out.cell 0 rfl 1 rfl
    have x14 := HT8.out.cell 0 rfl 2 rfl
    have x15 := HT8.out.lt 0 rfl
    have x16 : ¬ g6 = w8.heap.size := by omega
    have x17 : ¬ w8.heap.size = g6 := by omega
    go_wp2_with fail
    have HT9 : Hid (St w2 [⟨w8.heap.size, #[.bool (negB (am2)), .string (bs (numB (am2))), .string (bs (denomB (am2))), .bool (negB (f1)), .string (bs (numB (f1))), .string (bs (denomB (f1))), .int .i64 (h2 : Nat), .int .i64 (y1 : Nat)], 45⟩, ⟨g6, #[.bool nz, .string (bs bz), .string (bs dz)], 28⟩, ⟨w3.heap.size, #[.bool nr, .string (bs br), .string (bs dr)], 28⟩] _) := Lib.hid (St.alloc (HT8.out) #[.bool (negB (am2)), .string (bs (numB (am2))), .string (bs (denomB (am2))), .bool (negB (f1)), .string (bs (numB (f1))), .string (bs (denomB (f1))), .int .i64 (h2 : Nat), .int .i64 (y1 : Nat)] 45 _ (by simp))
    refine (HC2.out _ _ (HZQ.out.below HT9.out.below)).mono ?_
    rintro e w10 ⟨rfl, hb10⟩
    have HT10 := Lib.hid (HT9.out.call hb10)
    clear hb10 HT8 HT9
    clear x12 x13 x14 x15 x16 x17
    have x18 := HT10.out.cell 2 rfl 0 rfl
    have x19 := HT10.out.cell 2 rfl 1 rfl
    have x20 := HT10.out.cell 2 rfl 2 rfl
    have x21 := HT10.out.lt 2 rfl
    have x22 : ¬ w3.heap.size = w10.heap.size := by omega
    have x23 : ¬ w10.heap.size = w3.heap.size := by omega
    go_wp2_with fail
    have HT11 : Hid (St w2 [⟨w10.heap.size, #[.bool (negB (am2)), .string (bs (numB (am2))), .string (bs (denomB (am2))), .bool (negB (f2)), .string (bs (numB (f2))), .string (bs (denomB (f2))), .int .i64 (h2 : Nat), .int .i64 (y2 : Nat)], 45⟩, ⟨w8.heap.size, #[.bool (negB (am2)), .string (bs (numB (am2))), .string (bs (denomB (am2))), .bool (negB (f1)), .string (bs (numB (f1))), .string (bs (denomB (f1))), .int .i64 (h2 : Nat), .int .i64 (y1 : Nat)], 45⟩, ⟨g6, #[.bool nz, .string (bs bz), .string (bs dz)], 28⟩, ⟨w3.heap.size, #[.bool nr, .string (bs br), .string (bs dr)], 28⟩] _) := Lib.hid (St.alloc (HT10.out) #[.bool (negB (am2)), .string (bs (numB (am2))), .string (bs (denomB (am2))), .bool (negB (f2)), .string (bs (numB (f2))), .string (bs (denomB (f2))), .int .i64 (h2 : Nat), .int .i64 (y2 : Nat)] 45 _ (by simp))
    refine (HA1.out _ _ (HZQ.out.below HT11.out.below)).mono ?_
    rintro e w12 ⟨rfl, hb12⟩
    have HT12 := Lib.hid (HT11.out.call hb12)
    clear hb12 HT10 HT11
    clear x18 x19 x20 x21 x22 x23
    have x24 := HT12.out.cell 2 rfl 0 rfl
    have x25 := HT12.out.cell 2 rfl 1 rfl
    have x26 := HT12.out.cell 2 rfl 2 rfl
    go_wp2_with fail
    refine (HA2.out _ _ (HZQ.out.below HT12.out.below)).mono ?_
    rintro e w13 ⟨rfl, hb13⟩
    have HT13 := Lib.hid (HT12.out.call hb13)
    clear hb13 HT12
    clear x24 x25 x26
    go_wp2_with fail
    refine (HAW.out _).mono ?_
    rintro e w14 ⟨rfl, hb14⟩
    have HT14 := Lib.hid (HT13.out.call hb14)
    clear hb14 HT13
    have x27 := HT14.out.cell 1 rfl 0 rfl
    have x28 := HT14.out.cell 1 rfl 1 rfl
    have x29 := HT14.out.cell 1 rfl 2 rfl
    have x30 := HT14.out.cell 0 rfl 0 rfl
    have x31 := HT14.out.cell 0 rfl 1 rfl
    have x32 := HT14.out.cell 0 rfl 2 rfl
    have x33 := HT14.out.cell 1 rfl 6 rfl
    have x34 := HT14.out.cell 0 rfl 6 rfl
    have x35 := HT14.out.cell 1 rfl 3 rfl
    have x36 := HT14.out.cell 1 rfl 4 rfl
    have x37 := HT14.out.cell 1 rfl 5 rfl
    have x38 := HT14.out.cell 0 rfl 3 rfl
    have x39 := HT14.out.cell 0 rfl 4 rfl
    have x40 := HT14.out.cell 0 rfl 5 rfl
    go_wp2_with fail
    refine (HCM.out _).mono ?_
    rintro e w15 ⟨rfl, hb15⟩
    have HT15 := Lib.hid (HT14.out.call hb15)
    clear hb15 HT14
    clear x27 x28 x29 x30 x31 x32 x33 x34 x35 x36 x37 x38 x39 x40
    have x41 := HT15.out.cell 1 rfl 7 rfl
    have x42 := HT15.out.cell 0 rfl 7 rfl
    go_wp2
    go_ret
    have HT16 : Hid (St w2 [⟨w10.heap.size, #[.bool (negB (am2)), .string (bs (numB (am2))), .string (bs (denomB (am2))), .bool (negB (f2)), .string (bs (numB (f2))), .string (bs (denomB (f2))), .int .i64 (h2 : Nat), .int .i64 (y2 : Nat)], 45⟩, ⟨w8.heap.size, #[.bool (negB (am2)), .string (bs (numB (am2))), .string (bs (denomB (am2))), .bool (negB (f1)), .string (bs (numB (f1))), .string (bs (denomB (f1))), .int .i64 (h2 : Nat), .int .i64 (y1 : Nat)], 45⟩, ⟨g6, #[.bool nz, .string (bs bz), .string (bs dz)], 28⟩, ⟨w3.heap.size, #[.bool nr, .string (bs br), .string (bs dr)], 28⟩] _) := Lib.hid HT15.out
    exact ⟨rfl, Ext.trans HB0.out HT16.out.below⟩
end Go.Proofs.YtakoagjpmdcddaaDoor
