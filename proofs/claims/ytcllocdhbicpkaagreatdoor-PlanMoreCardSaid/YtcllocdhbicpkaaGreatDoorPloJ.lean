/-
PlanMore: the law walked (printed by gen_pln17.py).
-/
import Derived.Test.YtcllocdhbicpkaaGreatDoorPloI
namespace Go.Proofs.YtcllocdhbicpkaaGreatDoor
open Go.RowKit

set_option maxRecDepth 100000 in
set_option maxHeartbeats 8000000 in
theorem law_PlanMore (m : Int) (v1 : Value) (ts : List Qua) (a b : Int) (w : World) (hm : 0 ≤ m ∧ m ≤ 65535) (h1 : Quas w v1 ts) (hok : ∀ t ∈ ts, t.ok) (ha : 0 ≤ a ∧ a ≤ 255) (hb : 0 ≤ b ∧ b ≤ 255) :
  Calls Tryz.prog 9 #[.int .u16 m, v1, .int .u8 a, .int .u8 b] w fun e w' => e = .returned (.bool true) ∧ Below w.heap.size w w' := by
 obtain ⟨x, rfl⟩ : ∃ x : Nat, m = (x : Int) := ⟨m.toNat, by omega⟩
 obtain ⟨i0, hi0, hz0, hz1, hz2⟩ := info_parts info_bloc
 have HI := Lib.hid hi0
 have hV := fun W (hb : Below w.heap.size w W) => law0_VentureS x v1 ts W (by omega) (h1.below hb) hok
 have HAW := Lib.hid (fun W => law32_awake W)
 obtain ⟨hsm, hl3⟩ := blocsOf_small hok
 have hq8 := valueOf_sized x
 have hch := blocsOf_check x ts
 have hse := @search_sized x ts hok
 have hn0 := searchR_err hch
 have hT := fun v W (h : BlocsL W v (blocsOf ts)) => plan_SearchS (negB (valueOf x)) (numB (valueOf x)) (denomB (valueOf x)) v (blocsOf ts) W h (hsm.mono (by decide)) (Nat.le_trans hq8.num (by decide)) (Nat.le_trans hq8.denom (by decide))
 rw [dec_enc] at hT
 generalize blocsOf ts = l at *
 generalize valueOf x = q at *
 have HV := Lib.hid hV
 clear hV h1 hok hm hi0
 by_cases h0 : l.length = 0
 ·have d0 : ((l.length : Int) == 0) = true := by rw [h0]; rfl
  have d1 : (l.length == 0) = true := by rw [h0]; rfl
  clear hT hse hn0 hch h0
  go_enter Tryz.func9, Tryz.ntmps9
  have HS := Lib.hid (St.start w)
  go_wp2_with fail
  refine (HV.out _ HS.out.below).mono ?_
  rintro e w2 ⟨A2, c2, rfl, hl2, hb2⟩
  have HS2 := Lib.hid (HS.out.call hb2)
  have Q_2 := Lib.hid hl2
  clear hl2
  clear hb2 HS
  go_wp2_with fail
  have HS3 := Lib.hid (St.alloc (HS2.out) #[.bool (negB (q)), .string (bs (numB (q))), .string (bs (denomB (q))), .slice A2 l.length c2] 28 (w2.heap.size) (by simp))
  refine (HAW.out _).mono ?_
  rintro e w4 ⟨rfl, hb4⟩
  have HS4 := Lib.hid (HS3.out.call hb4)
  have Q_4 := Lib.hid (Q_2.out.below (Ext.trans (Ext.alloc (Below.refl w2.heap.size w2) (Obj.cells #[.bool (negB (q)), .string (bs (numB (q))), .string (bs (denomB (q))), .slice A2 l.length c2] 28)) hb4))
  clear Q_2
  clear hb4 HS2 HS3
  go_wp2
  go_ret
  have HS5 := Lib.hid HS4.out
  exact ⟨rfl, HS5.out.below⟩
 ·have d0 : ((l.length : Int) == 0) = false := by rw [beq_eq_false_iff_ne]; omega
  have d1 : (l.length == 0) = false := by rw [beq_eq_false_iff_ne]; exact h0
  have hpos : 0 < l.length := by omega
  obtain ⟨j, hj⟩ : ∃ j : Nat, (j : Int) = a % (l.length : Int) := ⟨(a % (l.length : Int)).toNat, by have := Int.emod_nonneg a (show (l.length : Int) ≠ 0 by omega); omega⟩
  have hjl : j < l.length := by have := Int.emod_lt_of_pos a (show (0 : Int) < (l.length : Int) by omega); omega
  obtain ⟨u, hu⟩ : ∃ u, l[j]? = some u := ⟨l[j], List.getElem?_eq_getElem hjl⟩
  have hum := List.mem_of_getElem? hu
  have hus := hsm u hum
  have hgu := (((checkVn_zero hch).2.2) u hum).2.2
  have hzz : 0 ≤ mkRat (b % 13) 12 := mkR_nonneg (by omega) (by decide)
  have hzs := mkR_sized (n := b % 13) (d := 12) (by decide) (by omega) (by decide)
  have hR := fun W => law0_Ratio (b % 13) 12 W (by omega) (by omega) (by decide) (by decide)
  rw [show (12 : Int).toNat = 12 from rfl] at hR
  generalize mkRat (b % 13) 12 = z at *
  obtain ⟨hak, hal⟩ := ask_less hgu.2.2.2.1 hgu.2.2.2.2 hzz
  have hsub := fun W => ref_Subtract u.kn u.ka u.kb (negB z) (numB z) (denomB z) W (Nat.le_trans hus.2.2.1 (by decide)) (Nat.le_trans hus.2.2.2 (by decide)) (Nat.le_trans hzs.num (by decide)) (Nat.le_trans hzs.denom (by decide))
  rw [show decR u.kn u.ka u.kb = u.ask from rfl, show decR (negB z) (numB z) (denomB z) = z from dec_enc _] at hsub
  have hks : Sized 17 (u.ask - z) := by
   rw [Rat.sub_eq_add_neg]
   exact ((hsm.ask (by decide) hum).add hzs.neg).mono (by decide)
  have hmax := fun W => ref_Max false [] [] (negB (u.ask - z)) (numB (u.ask - z)) (denomB (u.ask - z)) W (by decide) (by decide) (Nat.le_trans hks.num (by decide)) (Nat.le_trans hks.denom (by decide))
  rw [dec_zero3, show decR (negB (u.ask - z)) (numB (u.ask - z)) (denomB (u.ask - z)) = u.ask - z from dec_enc _] at hmax
  have hms : Sized 17 (maxR 0 (u.ask - z)) := maxR_sized (sized_zero.mono (by decide)) hks
  generalize maxR 0 (u.ask - z) = mx at *
  generalize u.ask - z = sb at *
  unfold rat raw at hR hsub hmax
  have HR := Lib.hid hR
  have HSB := Lib.hid hsub
  have HMX := Lib.hid hmax
  -- the bloc of the second venture, and what the law says
  obtain ⟨u2, hu2⟩ : ∃ u2 : Blc, u2 = if u.acc then u.wAsk (negB mx) (numB mx) (denomB mx) else u := ⟨_, rfl⟩
  have hp : u2.rank = u.rank ∧ u2.total = u.total ∧ u2.floor = u.floor ∧ u2.acc = u.acc ∧ u2.ask ≤ u.ask ∧ (0 ≤ u2.ask ∧ u2.ask ≤ 1) ∧ u2.small 17 := by
   have hus17 : u.small 17 := ⟨⟨Nat.le_trans hus.1.1 (by decide), Nat.le_trans hus.1.2 (by decide)⟩, ⟨Nat.le_trans hus.2.1.1 (by decide), Nat.le_trans hus.2.1.2 (by decide)⟩, Nat.le_trans hus.2.2.1 (by decide), Nat.le_trans hus.2.2.2 (by decide)⟩
   rw [hu2]
   split
   ·exact ⟨rfl, rfl, rfl, rfl, by rw [wAsk_ask]; exact hal, by rw [wAsk_ask]; exact hak, wAsk_small hus17 ⟨hms.num, hms.denom⟩⟩
   ·exact ⟨rfl, rfl, rfl, rfl, Rat.le_refl, hgu.2.2.2, hus17⟩
  obtain ⟨p1, p2, p3, p4, p5, p6, p7⟩ := hp
  have hck := check_set hch hu p1 p2 p3 p6
  have hmo := law_more (value := q) hu p2 p3 p4 p5 hck
  have hn2 := searchR_err hck
  have hs1 := @searchR_ok q l
  have hs2 := @searchR_ok q (l.set j u2)
  have hsm2 : SmallBl 17 (l.set j u2) := smallB_set (hsm.mono (by decide)) j p7
  have hT2 := fun v W (h : BlocsL W v (l.set j u2)) => plan_SearchS (negB q) (numB q) (denomB q) v (l.set j u2) W h (hsm2.mono (by decide)) (Nat.le_trans hq8.num (by decide)) (Nat.le_trans hq8.denom (by decide))
  rw [dec_enc] at hT2
  have hE1 := fun v rs rv W (h : BlocsL W v l) (hr : RatsL W rv (rs.map rtrOf)) (hz : ∀ r ∈ rs, Sized 1000 r) => ref_Residue (negB q) (numB q) (denomB q) v l rv (rs.map rtrOf) W h hr (hsm.mono (by decide)) ((rtrs_small hz).mono (by decide)) (Nat.le_trans hq8.num (by decide)) (Nat.le_trans hq8.denom (by decide))
  have hE2 := fun v rs rv W (h : BlocsL W v (l.set j u2)) (hr : RatsL W rv (rs.map rtrOf)) (hz : ∀ r ∈ rs, Sized 1000 r) => ref_Residue (negB q) (numB q) (denomB q) v (l.set j u2) rv (rs.map rtrOf) W h hr (hsm2.mono (by decide)) ((rtrs_small hz).mono (by decide)) (Nat.le_trans hq8.num (by decide)) (Nat.le_trans hq8.denom (by decide))
  rw [dec_enc] at hE1 hE2
  have hrz2 : ∀ r ∈ ratesOf q (l.set j u2), Sized 1000 r := fun r hr => (rates_sized _ _ (hq8.mono (show 8 ≤ 17 by decide)) hsm2 (by decide) r hr).mono (by rw [List.length_set]; omega)
  have hl2 : (l.set j u2).length = l.length := List.length_set
  obtain ⟨sr1, hsr1⟩ : ∃ y, y = searchR q l := ⟨_, rfl⟩
  obtain ⟨sr2, hsr2⟩ : ∃ y, y = searchR q (l.set j u2) := ⟨_, rfl⟩
  rw [← hsr1] at hT hse hn0 hmo hs1
  rw [← hsr2] at hT2 hn2 hmo hs2
  obtain ⟨x1, y1, n1⟩ := sr1
  obtain ⟨x2, y2, n2⟩ := sr2
  dsimp only at hT hse hn0 hmo hs1 hT2 hn2 hs2
  subst hn0
  subst hn2
  have e1 : Int.tmod a (l.length : Int) = (j : Int) := by rw [Int.tmod_eq_emod_of_nonneg ha.1, hj]
  have e2 : IntKind.i64.wrap (j : Int) = (j : Int) := IntWalk.i64_in _ (by omega)
  have e3 : IntKind.i64.wrap a = a := IntWalk.i64_in _ (by omega)
  have e4 : ¬ ((l.length : Int) = 0) := by omega
  have e4b : ¬ (l.length = 0) := h0
  have e5 : (0 : Int) ≤ (j : Int) := by omega
  have e6 : (j : Int) < (l.length : Int) := by omega
  have e7 : Int.tmod b 13 = b % 13 := Int.tmod_eq_emod_of_nonneg hb.1
  have e8 : IntKind.u8.wrap (b % 13) = b % 13 := by rw [IntKind.wrap_u8]; omega
  have e9 : IntKind.i64.wrap (b % 13) = b % 13 := IntWalk.i64_in _ (by omega)
  have HT := Lib.hid hT
  have HT2 := Lib.hid hT2
  have HU := Lib.hid hu
  have HL2 := Lib.hid hl2
  have HE1 := Lib.hid hE1
  have HE2 := Lib.hid hE2
  have HSE := Lib.hid hse
  have HMO := Lib.hid hmo
  have HS1 := Lib.hid hs1
  have HS2 := Lib.hid hs2
  have HRZ2 := Lib.hid hrz2
  have HQ8 := Lib.hid hq8
  have HU2 := Lib.hid hu2
  have HRS := Lib.hid (fun rs h1 h2 h3 => residR_sized (value := q) (l := l) (rs := rs) h1 h2 h3)
  have HSMQ := Lib.hid hsm
  have HSM2 := Lib.hid hsm2
  clear hT hT2 hu hl2 hE1 hE2 hse hmo hs1 hs2 hrz2 hq8 hu2 hsr1 hsr2 hck p1 p2 p3 p4 p5 p6 p7 hsm hsm2 hch hj hR hsub hmax hal hak hms hks hzs hzz hgu hus hum ha hb h0
  go_enter Tryz.func9, Tryz.ntmps9
  have HS := Lib.hid (St.start w)
  go_wp2_with fail
  refine (HV.out _ HS.out.below).mono ?_
  rintro e w2 ⟨A2, c2, rfl, hl2, hb2⟩
  have HS2 := Lib.hid (HS.out.call hb2)
  have Q_2 := Lib.hid hl2
  clear hl2
  clear hb2 HS
  go_wp2_with fail
  have HS3 := Lib.hid (St.alloc (HS2.out) #[.bool (negB (q)), .string (bs (numB (q))), .string (bs (denomB (q))), .slice A2 l.length c2] 28 (w2.heap.size) (by simp))
  refine (HT.out _ _ (Q_2.out.below (Ext.alloc (Below.refl w2.heap.size w2) (Obj.cells #[.bool (negB (q)), .string (bs (numB (q))), .string (bs (denomB (q))), .slice A2 l.length c2] 28)))).mono ?_
  rintro e w4 ⟨A4, c4, rfl, hl4, hb4⟩
  have HS4 := Lib.hid (HS3.out.call hb4)
  have Q_4 := Lib.hid (Q_2.out.below (Ext.trans (Ext.alloc (Below.refl w2.heap.size w2) (Obj.cells #[.bool (negB (q)), .string (bs (numB (q))), .string (bs (denomB (q))), .slice A2 l.length c2] 28)) hb4))
  clear Q_2
  have X_4 := Lib.hid hl4
  clear hl4
  clear hb4 HS2 HS3
  have HSW := Lib.hid HS4.out
  have hbv : w2.heap.size < w4.heap.size := HSW.out.lt 0 rfl
  have HV9 : Hid (∀ w', Below w4.heap.size w4 w' → ∀ i u, ([.bool (negB (q)), .string (bs (numB (q))), .string (bs (denomB (q))), .slice A2 l.length c2] : List Value)[i]? = some u → w'.cell? ⟨w2.heap.size, i, none⟩ = some u) := by
   show ∀ w', _
   intro w' hb i u hu
   exact (((HSW.out.blk 0 rfl).below hb hbv).cell i u (by rw [← Array.getElem?_toList]; exact hu))
  have HQB := Lib.hid (fun W (hb : Below w4.heap.size w4 W) => Q_4.out.below hb)
  have HXB := Lib.hid (fun W (hb : Below w4.heap.size w4 W) => X_4.out.below hb)
  have HTC := Lib.hid (St.start w4)
  clear HS4 Q_4 X_4
  go_wp2
  refine wp_region_facts 8 [eQ (.pointer (some ⟨w2.heap.size, 0, none⟩)), eQ (.agg #[.bool (negB (q)), .string (bs (numB (q))), .string (bs (denomB (q)))]), fun ww vv => ∃ g, vv = .slice (some ⟨g, 0, none⟩) 0 0 ∧ w4.heap.size ≤ g ∧ Blk ww g #[] 59, eQ (.pointer (some ⟨w2.heap.size, 3, none⟩)), eQ (.slice A2 l.length c2), RowAt w4.heap.size l, AggAt w4.heap.size l q, fun ww vv => ∃ g, vv = .pointer (some ⟨g, 0, none⟩) ∧ w4.heap.size ≤ g ∧ Blk ww g #[.bool false, .string (bs []), .string (bs []), .slice none 0 0] 28] rfl (by kernel_rfl) (by kernel_rfl) (by kernel_rfl) ⟨stE, stE, fun _ _ _ ⟨g, e, hg, h⟩ hb => ⟨g, e, hg, h.below hb h.lt⟩, stE, stE, RowAt.st, AggAt.st, fun _ _ _ ⟨g, e, hg, h⟩ hb => ⟨g, e, hg, h.below hb h.lt⟩, trivial⟩ ?_ ?_
  refine ⟨?_, ?_, ?_, ?_, ?_, ?_, ?_, ?_, trivial⟩
  ·intro xx af wv hbx hev hev0 hd; have e9 : af.tmps[9]?.getD undef = .pointer (some ⟨w2.heap.size, 0, none⟩) := hev0 9 rfl; clear hev hev0 hd; go_wp2; exact sQ rfl
  ·intro xx af wv hbx hev hev0 hd; have e36 := (hev 0 _ 36 rfl rfl).trans (hd ⟨0, .data⟩ (by simp) rfl); clear hev hev0 hd; have hs1 := Lib.hid (HTC.out.call hbx); have y0 := HV9.out _ hs1.out.below 0 _ rfl; have y1 := HV9.out _ hs1.out.below 1 _ rfl; have y2 := HV9.out _ hs1.out.below 2 _ rfl; go_wp2; exact sQ rfl
  ·intro xx af wv hbx hev hev0 hd; clear hev hev0 hd; go_wp2; exact StepQ.mk _ (Ext.alloc (Below.refl _ _) _) ⟨_, rfl, hbx.size, Blk.new _ _ _⟩
  ·intro xx af wv hbx hev hev0 hd; have e9 : af.tmps[9]?.getD undef = .pointer (some ⟨w2.heap.size, 0, none⟩) := hev0 9 rfl; clear hev hev0 hd; go_wp2; exact sQ rfl
  ·intro xx af wv hbx hev hev0 hd; have e39 := (hev 3 _ 39 rfl rfl).trans (hd ⟨3, .data⟩ (by simp) rfl); clear hev hev0 hd; have hs1 := Lib.hid (HTC.out.call hbx); have y3 := HV9.out _ hs1.out.below 3 _ rfl; go_wp2; exact sQ rfl
  ·intro xx af wv hbx hev hev0 hd
   have e38 := hev 2 _ 38 rfl rfl
   have d2 : ∃ g, xx 2 = .slice (some ⟨g, 0, none⟩) 0 0 ∧ w4.heap.size ≤ g ∧ Blk wv g #[] 59 := hd ⟨2, .data⟩ (by simp) rfl
   obtain ⟨g2, hx2, hg2, hB2⟩ := d2
   rw [hx2] at e38
   have e40 := (hev 4 _ 40 rfl rfl).trans (hd ⟨4, .data⟩ (by simp) rfl)
   clear hev hev0 hd
   have hs1 := Lib.hid (HTC.out.call hbx)
   refine wpList_copy wv rfl _ _ 26 rfl 59 i0 _ 11 136 Tryz.underlying26 HI.out hz0 hz1 hz2 blc_len g2 (by rw [eval_tmp]; exact e38) _ l (HQB.out _ hs1.out.below) (by rw [eval_tmp]; exact e40) hpos (by unfold maxLen; omega) (by omega) ?_
   rintro v' w' ⟨cap, rest, rfl, hc1, hc2, hBn⟩ hbw
   go_wp2
   exact StepQ.mk _ hbw (RowAt.mk hbx.size hc1 hc2 hBn)
  ·intro xx af wv hbx hev hev0 hd; have e37 := (hev 1 _ 37 rfl rfl).trans (hd ⟨1, .data⟩ (by simp) rfl); have e41 := hev 5 _ 41 rfl rfl; have d5 : RowAt w4.heap.size l wv (xx 5) := hd ⟨5, .data⟩ (by simp) rfl; obtain ⟨g5, cap, rest, hx5, hg5, hc1, hc2, hB5⟩ := d5; rw [hx5] at e41; clear hev hev0 hd; go_wp2; exact StepQ.mk _ (Below.refl _ _) (AggAt.mk hg5 hc1 hc2 hB5)
  ·intro xx af wv hbx hev hev0 hd; clear hev hev0 hd; go_wp2; exact StepQ.mk _ (Ext.alloc (Below.refl _ _) _) ⟨_, rfl, hbx.size, Blk.new _ _ _⟩
  intro xx w5 hb9 hv
  have hv6 : AggAt w4.heap.size l q w5 (xx 6) := hv 6 (by decide)
  obtain ⟨g, cap, rest, hx6, hg, hcap, hcm, hB⟩ := hv6
  obtain ⟨gv, hx7, hgv, hBv⟩ := hv 7 (by decide)
  clear hv
  simp only [List.take, List.drop, fillA, Act.put]
  simp only [hx6, hx7]
  clear hx6 hx7
  have hne : g ≠ gv := by
   intro e
   rw [e] at hB
   have e2 := Option.some.inj (hB.symm.trans hBv)
   injection e2 with _ e2
   exact absurd e2 (by decide)
  have HTC5 := Lib.hid (HTC.out.fill2 hb9 hg hB hgv hBv hne)
  clear hg hB hgv hBv hne hb9 HTC
  obtain ⟨x1, x2, x3⟩ := HTC5.out.k0 0 rfl rfl rfl rfl
  have x4 := HTC5.out.cell 0 rfl 3 rfl
  obtain ⟨x5, x6, x7⟩ := HTC5.out.f0 0 rfl
  have x8 := HTC5.out.frozen 0 rfl 3
  have x9 := HTC5.out.ne 0 1 rfl rfl (by decide)
  have x10 := HTC5.out.ne 1 0 rfl rfl (by decide)
  go_wp2
  clear x1 x2 x3 x4 x5 x6 x7 x8 x9 x10
  refine wp_st (R := [⟨gv, #[.bool (negB (q)), .string (bs (numB (q))), .string (bs (denomB (q))), .slice (some ⟨g, 0, none⟩) l.length cap], 28⟩, ⟨g, (rowX (l) rest), 59⟩]) (St.set ((St.set ((St.set ((St.set (HTC5.out) 0 rfl 0 _)) 0 rfl 1 _)) 0 rfl 2 _)) 0 rfl 3 _) ?_
  intro wg6 hb
  have HTC6 := Lib.hid hb
  clear hb HTC5
  refine wp_region_eq 9 [.pointer (some ⟨gv, 3, none⟩), .slice (some ⟨g, 0, none⟩) l.length cap, .int .u8 a, .int .i64 a, .pointer (some ⟨gv, 3, none⟩), .slice (some ⟨g, 0, none⟩) l.length cap, .int .i64 l.length, .int .i64 (j : Nat), .pointer (some ⟨g, j * 11, none⟩)] rfl (by kernel_rfl) (by kernel_rfl) (by kernel_rfl) ?_ ?_
  refine ⟨?_, ?_, ?_, ?_, ?_, ?_, ?_, ?_, ?_, trivial⟩
  ·intro xx af wv hbx hev hev0 hd; have e13 : af.tmps[13]?.getD undef = .pointer (some ⟨gv, 0, none⟩) := hev0 13 rfl; clear hev hev0 hd; go_wp2; exact sQ rfl
  ·intro xx af wv hbx hev hev0 hd; have e43 := (hev 0 _ 43 rfl rfl).trans (hd ⟨0, .data⟩ (by simp) rfl); clear hev hev0 hd; have hs1 := Lib.hid (HTC6.out.call hbx); have y0 := hs1.out.cell 0 rfl 3 rfl; go_wp2; exact sQ rfl
  ·intro xx af wv hbx hev hev0 hd; have e2 : af.tmps[2]?.getD undef = .int .u8 a := hev0 2 rfl; clear hev hev0 hd; go_wp2; exact sQ rfl
  ·intro xx af wv hbx hev hev0 hd; have e45 := (hev 2 _ 45 rfl rfl).trans (hd ⟨2, .data⟩ (by simp) rfl); clear hev hev0 hd; go_wp2; exact sQ rfl
  ·intro xx af wv hbx hev hev0 hd; have e13 : af.tmps[13]?.getD undef = .pointer (some ⟨gv, 0, none⟩) := hev0 13 rfl; clear hev hev0 hd; go_wp2; exact sQ rfl
  ·intro xx af wv hbx hev hev0 hd; have e47 := (hev 4 _ 47 rfl rfl).trans (hd ⟨4, .data⟩ (by simp) rfl); clear hev hev0 hd; have hs1 := Lib.hid (HTC6.out.call hbx); have y0 := hs1.out.cell 0 rfl 3 rfl; go_wp2; exact sQ rfl
  ·intro xx af wv hbx hev hev0 hd; have e48 := (hev 5 _ 48 rfl rfl).trans (hd ⟨5, .data⟩ (by simp) rfl); clear hev hev0 hd; go_wp2; exact sQ rfl
  ·intro xx af wv hbx hev hev0 hd; have e46 := (hev 3 _ 46 rfl rfl).trans (hd ⟨3, .data⟩ (by simp) rfl); have e49 := (hev 6 _ 49 rfl rfl).trans (hd ⟨6, .data⟩ (by simp) rfl); clear hev hev0 hd; go_wp2; exact sQ rfl
  ·intro xx af wv hbx hev hev0 hd; have e44 := (hev 1 _ 44 rfl rfl).trans (hd ⟨1, .data⟩ (by simp) rfl); have e50 := (hev 7 _ 50 rfl rfl).trans (hd ⟨7, .data⟩ (by simp) rfl); clear hev hev0 hd; go_wp2; exact sQ rfl
  intro xx w7 hb9 hv
  simp only [List.take, List.drop, fillA, Act.put]
  simp only [show xx 0 = _ from hv 0 (by decide), show xx 1 = _ from hv 1 (by decide), show xx 2 = _ from hv 2 (by decide), show xx 3 = _ from hv 3 (by decide), show xx 4 = _ from hv 4 (by decide), show xx 5 = _ from hv 5 (by decide), show xx 6 = _ from hv 6 (by decide), show xx 7 = _ from hv 7 (by decide), show xx 8 = _ from hv 8 (by decide)]
  clear hv
  have HTC7 := Lib.hid (HTC6.out.call hb9)
  clear hb9 HTC6
  cases y1
  ·by_cases hac : u.acc = true
   ·have HLU : Hid (l.set j u2 = l.set j (u.wAsk (negB mx) (numB mx) (denomB mx))) := by show _ = _; rw [HU2.out, if_pos hac]
    have x11 := HTC7.out.cell 1 rfl (j * 11 + 10) (rowX_cell (j := j) (HU.out) (i := 10) rfl)
    go_wp2
    clear x11
    refine wp_region_eq 14 [.pointer (some ⟨g, j * 11, none⟩), .agg #[.bool false, .string (bs []), .string (bs [])], .pointer (some ⟨g, j * 11, none⟩), .pointer (some ⟨g, j * 11, none⟩), .pointer (some ⟨g, j * 11 + 7, none⟩), .agg #[.bool u.kn, .string (bs u.ka), .string (bs u.kb)], .int .u8 b, .int .u8 (b % 13), .int .i64 (b % 13), .agg #[.bool (negB (z)), .string (bs (numB (z))), .string (bs (denomB (z)))], .agg #[.bool (negB (sb)), .string (bs (numB (sb))), .string (bs (denomB (sb)))], .agg #[.bool (negB (mx)), .string (bs (numB (mx))), .string (bs (denomB (mx)))], .pointer (some ⟨g, j * 11, none⟩), .pointer (some ⟨g, j * 11 + 7, none⟩)] rfl (by kernel_rfl) (by kernel_rfl) (by kernel_rfl) ?_ ?_
    refine ⟨?_, ?_, ?_, ?_, ?_, ?_, ?_, ?_, ?_, ?_, ?_, ?_, ?_, ?_, trivial⟩
    ·intro xx af wv hbx hev hev0 hd; have e14 : af.tmps[14]?.getD undef = .pointer (some ⟨g, j * 11, none⟩) := hev0 14 rfl; clear hev hev0 hd; go_wp2; exact sQ rfl
    ·intro xx af wv hbx hev hev0 hd; clear hev hev0 hd; go_wp2; exact sQ rfl
    ·intro xx af wv hbx hev hev0 hd; have e14 : af.tmps[14]?.getD undef = .pointer (some ⟨g, j * 11, none⟩) := hev0 14 rfl; clear hev hev0 hd; go_wp2; exact sQ rfl
    ·intro xx af wv hbx hev hev0 hd; have e58 := (hev 2 _ 58 rfl rfl).trans (hd ⟨2, .data⟩ (by simp) rfl); clear hev hev0 hd; go_wp2; exact sQ rfl
    ·intro xx af wv hbx hev hev0 hd; have e59 := (hev 3 _ 59 rfl rfl).trans (hd ⟨3, .data⟩ (by simp) rfl); clear hev hev0 hd; go_wp2; exact sQ rfl
    ·intro xx af wv hbx hev hev0 hd; have e60 := (hev 4 _ 60 rfl rfl).trans (hd ⟨4, .data⟩ (by simp) rfl); clear hev hev0 hd; have hs1 := Lib.hid (HTC7.out.call hbx); have yx0 := hs1.out.cell 1 rfl (j * 11 + 7) (rowX_cell (j := j) (HU.out) (i := 7) rfl); have yx1 := hs1.out.cell 1 rfl (j * 11 + 8) (rowX_cell (j := j) (HU.out) (i := 8) rfl); have yx2 := hs1.out.cell 1 rfl (j * 11 + 9) (rowX_cell (j := j) (HU.out) (i := 9) rfl); go_wp2; exact sQ rfl
    ·intro xx af wv hbx hev hev0 hd; have e3 : af.tmps[3]?.getD undef = .int .u8 b := hev0 3 rfl; clear hev hev0 hd; go_wp2; exact sQ rfl
    ·intro xx af wv hbx hev hev0 hd; have e62 := (hev 6 _ 62 rfl rfl).trans (hd ⟨6, .data⟩ (by simp) rfl); clear hev hev0 hd; go_wp2; exact sQ rfl
    ·intro xx af wv hbx hev hev0 hd; have e63 := (hev 7 _ 63 rfl rfl).trans (hd ⟨7, .data⟩ (by simp) rfl); clear hev hev0 hd; go_wp2; exact sQ rfl
    ·intro xx af wv hbx hev hev0 hd
     have e64 := (hev 8 _ 64 rfl rfl).trans (hd ⟨8, .data⟩ (by simp) rfl)
     clear hev hev0 hd
     go_wp2_with fail
     refine (HR.out _).mono ?_
     rintro e w8 ⟨rfl, hb8⟩
     go_wp2
     exact StepQ.mk _ hb8 rfl
    ·intro xx af wv hbx hev hev0 hd
     have e61 := (hev 5 _ 61 rfl rfl).trans (hd ⟨5, .data⟩ (by simp) rfl)
     have e65 := (hev 9 _ 65 rfl rfl).trans (hd ⟨9, .data⟩ (by simp) rfl)
     clear hev hev0 hd
     go_wp2_with fail
     refine (HSB.out _).mono ?_
     rintro e w8 ⟨rfl, hb8⟩
     go_wp2
     exact StepQ.mk _ hb8 rfl
    ·intro xx af wv hbx hev hev0 hd
     have e57 := (hev 1 _ 57 rfl rfl).trans (hd ⟨1, .data⟩ (by simp) rfl)
     have e66 := (hev 10 _ 66 rfl rfl).trans (hd ⟨10, .data⟩ (by simp) rfl)
     clear hev hev0 hd
     go_wp2_with fail
     refine (HMX.out _).mono ?_
     rintro e w8 ⟨rfl, hb8⟩
     go_wp2
     exact StepQ.mk _ hb8 rfl
    ·intro xx af wv hbx hev hev0 hd; have e56 := (hev 0 _ 56 rfl rfl).trans (hd ⟨0, .data⟩ (by simp) rfl); clear hev hev0 hd; go_wp2; exact sQ rfl
    ·intro xx af wv hbx hev hev0 hd; have e68 := (hev 12 _ 68 rfl rfl).trans (hd ⟨12, .data⟩ (by simp) rfl); clear hev hev0 hd; go_wp2; exact sQ rfl
    intro xx w8 hb9 hv
    simp only [List.take, List.drop, fillA, Act.put]
    simp only [show xx 0 = _ from hv 0 (by decide), show xx 1 = _ from hv 1 (by decide), show xx 2 = _ from hv 2 (by decide), show xx 3 = _ from hv 3 (by decide), show xx 4 = _ from hv 4 (by decide), show xx 5 = _ from hv 5 (by decide), show xx 6 = _ from hv 6 (by decide), show xx 7 = _ from hv 7 (by decide), show xx 8 = _ from hv 8 (by decide), show xx 9 = _ from hv 9 (by decide), show xx 10 = _ from hv 10 (by decide), show xx 11 = _ from hv 11 (by decide), show xx 12 = _ from hv 12 (by decide), show xx 13 = _ from hv 13 (by decide)]
    clear hv
    have HTC8 := Lib.hid (HTC7.out.call hb9)
    clear hb9 HTC7
    obtain ⟨x12, x13, x14⟩ := HTC8.out.k0 0 rfl rfl rfl rfl
    have x15 := HTC8.out.cell 0 rfl 3 rfl
    have x16 := HTC8.out.cell 1 rfl (j * 11 + 7) (rowX_cell (j := j) (HU.out) (i := 7) rfl)
    have x17 := HTC8.out.cell 1 rfl (j * 11 + 8) (rowX_cell (j := j) (HU.out) (i := 8) rfl)
    have x18 := HTC8.out.cell 1 rfl (j * 11 + 9) (rowX_cell (j := j) (HU.out) (i := 9) rfl)
    have x19 := HTC8.out.frozen 1 rfl (j * 11 + 7)
    have x20 := HTC8.out.frozen 1 rfl (j * 11 + 8)
    have x21 := HTC8.out.frozen 1 rfl (j * 11 + 9)
    have x22 := HTC8.out.ne 1 0 rfl rfl (by decide)
    have x23 := HTC8.out.ne 0 1 rfl rfl (by decide)
    go_wp2_with fail
    have HTC9 : Hid (St w4 [⟨gv, #[.bool (negB (q)), .string (bs (numB (q))), .string (bs (denomB (q))), .slice (some ⟨g, 0, none⟩) l.length cap], 28⟩, ⟨g, (rowX ((l).set j ((u).wAsk ((negB (mx))) ((numB (mx))) ((denomB (mx))))) rest), 59⟩] _) := Lib.hid (St.wAsk (HTC8.out) 1 rfl j (u) (HU.out) ((negB (mx))) ((numB (mx))) ((denomB (mx))))
    refine (HT2.out _ _ (by rw [HLU.out]; exact rowX_slc (HTC9.out.blk 1 rfl) (by rw [List.length_set]) hcap (by unfold maxLen at hcm; omega))).mono ?_
    rintro e w10 ⟨A10, c10, rfl, hl10, hb10⟩
    have HTC10 := Lib.hid (HTC9.out.call hb10)
    have Y_10 := Lib.hid hl10
    clear hl10
    clear hb10 HTC8 HTC9
    clear x12 x13 x14 x15 x16 x17 x18 x19 x20 x21 x22 x23
    go_wp2_with fail
    refine (HAW.out _).mono ?_
    rintro e w11 ⟨rfl, hb11⟩
    have HTC11 := Lib.hid (HTC10.out.call hb11)
    have Y_11 := Lib.hid (Y_10.out.below hb11)
    clear Y_10
    clear hb11 HTC10
    go_wp2
    go_ret
    have HTC12 := Lib.hid HTC11.out
    exact ⟨rfl, Ext.trans HSW.out.below HTC12.out.below⟩
   ·have hac : u.acc = false := by cases h : u.acc <;> simp_all
    have HLU : Hid (l.set j u2 = l) := by
     show _ = _
     rw [HU2.out, hac, if_neg (by decide)]
     exact set_same HU.out
    obtain ⟨x11, x12, x13⟩ := HTC7.out.k0 0 rfl rfl rfl rfl
    have x14 := HTC7.out.cell 0 rfl 3 rfl
    have x15 := HTC7.out.cell 1 rfl (j * 11 + 10) (rowX_cell (j := j) (HU.out) (i := 10) rfl)
    go_wp2_with fail
    refine (HT2.out _ _ (by rw [HLU.out]; exact rowX_slc (HTC7.out.blk 1 rfl) rfl hcap (by unfold maxLen at hcm; omega))).mono ?_
    rintro e w8 ⟨A8, c8, rfl, hl8, hb8⟩
    have HTC8 := Lib.hid (HTC7.out.call hb8)
    have Y_8 := Lib.hid hl8
    clear hl8
    clear hb8 HTC7
    clear x11 x12 x13 x14 x15
    go_wp2_with fail
    refine (HAW.out _).mono ?_
    rintro e w9 ⟨rfl, hb9⟩
    have HTC9 := Lib.hid (HTC8.out.call hb9)
    have Y_9 := Lib.hid (Y_8.out.below hb9)
    clear Y_8
    clear hb9 HTC8
    go_wp2
    go_ret
    have HTC10 := Lib.hid HTC9.out
    exact ⟨rfl, Ext.trans HSW.out.below HTC10.out.below⟩
  ·obtain ⟨hy2, hle⟩ := (show y2 = true ∧ resid q (search q l) ≤ resid q (search q (l.set j u2)) by first | exact HMO.out rfl | exact HMO.out trivial | exact HMO.out)
   obtain ⟨_, hx1, _, hr1⟩ := (show checkVn q l = 0 ∧ x1 = ratesOf q l ∧ confR q l (ratesOf q l) = (-1, 0) ∧ residR q l (ratesOf q l) = (resid q (search q l), 0) by first | exact HS1.out rfl | exact HS1.out trivial | exact HS1.out)
   obtain ⟨_, hx2, _, hr2⟩ := HS2.out hy2
   subst hy2
   have hz1 := (show x1.length = l.length ∧ ∀ r ∈ x1, Sized 1000 r by first | exact HSE.out rfl | exact HSE.out trivial | exact HSE.out).2
   have hz2 : ∀ r ∈ x2, Sized 1000 r := by rw [hx2]; exact HRZ2.out
   have hg1 := fun v rv W (h : BlocsL W v l) (hr : RatsL W rv (x1.map rtrOf)) => HE1.out v x1 rv W h hr hz1
   have hg2 := fun v rv W (h : BlocsL W v (l.set j u2)) (hr : RatsL W rv (x2.map rtrOf)) => HE2.out v x2 rv W h hr hz2
   have hs1 := HRS.out (x1.map rtrOf) (HQ8.out.mono (by decide)) (HSMQ.out.mono (by decide)) ((rtrs_small hz1).mono (by decide))
   have hs2 := residR_sized (value := q) (l := l.set j u2) (rs := x2.map rtrOf) (HQ8.out.mono (by decide)) (HSM2.out.mono (by decide)) ((rtrs_small hz2).mono (by decide))
   rw [rtrs_val] at hg1 hg2 hs1 hs2
   rw [hx1, hr1] at hs1
   rw [hx2, hr2] at hs2
   rw [show residR q l x1 = (resid q (search q l), 0) by rw [hx1]; exact hr1] at hg1
   rw [show residR q (l.set j u2) x2 = (resid q (search q (l.set j u2)), 0) by rw [hx2]; exact hr2] at hg2
   dsimp only at hg1 hg2 hs1 hs2
   clear hx1 hx2 hr1 hr2 hz1 hz2
   generalize resid q (search q l) = ra at *
   generalize resid q (search q (l.set j u2)) = rb at *
   have hcp := fun W => ref_Compare (negB ra) (numB ra) (denomB ra) (negB rb) (numB rb) (denomB rb) W hs1.num hs1.denom hs2.num hs2.denom
   rw [show decR (negB ra) (numB ra) (denomB ra) = ra from dec_enc _, show decR (negB rb) (numB rb) (denomB rb) = rb from dec_enc _] at hcp
   have hsg : sgn (ra - rb).num ≤ 0 := Int.not_lt.1 (fun h => by
    have := sgn_pos_iff.1 h
    have h2 : ra - rb ≤ 0 := by grind
    exact absurd this (Rat.not_lt.2 h2))
   generalize sgn (ra - rb).num = sc at *
   have dsc : decide (sc ≤ 0) = true := decide_eq_true hsg
   unfold rat raw at hg1 hg2
   unfold raw at hcp
   have HG1 := Lib.hid hg1
   have HG2 := Lib.hid hg2
   have HCP := Lib.hid hcp
   clear hg1 hg2 hcp hsg hs1 hs2 hle
   by_cases hac : u.acc = true
   ·have HLU : Hid (l.set j u2 = l.set j (u.wAsk (negB mx) (numB mx) (denomB mx))) := by show _ = _; rw [HU2.out, if_pos hac]
    have x11 := HTC7.out.cell 1 rfl (j * 11 + 10) (rowX_cell (j := j) (HU.out) (i := 10) rfl)
    go_wp2
    clear x11
    refine wp_region_eq 14 [.pointer (some ⟨g, j * 11, none⟩), .agg #[.bool false, .string (bs []), .string (bs [])], .pointer (some ⟨g, j * 11, none⟩), .pointer (some ⟨g, j * 11, none⟩), .pointer (some ⟨g, j * 11 + 7, none⟩), .agg #[.bool u.kn, .string (bs u.ka), .string (bs u.kb)], .int .u8 b, .int .u8 (b % 13), .int .i64 (b % 13), .agg #[.bool (negB (z)), .string (bs (numB (z))), .string (bs (denomB (z)))], .agg #[.bool (negB (sb)), .string (bs (numB (sb))), .string (bs (denomB (sb)))], .agg #[.bool (negB (mx)), .string (bs (numB (mx))), .string (bs (denomB (mx)))], .pointer (some ⟨g, j * 11, none⟩), .pointer (some ⟨g, j * 11 + 7, none⟩)] rfl (by kernel_rfl) (by kernel_rfl) (by kernel_rfl) ?_ ?_
    refine ⟨?_, ?_, ?_, ?_, ?_, ?_, ?_, ?_, ?_, ?_, ?_, ?_, ?_, ?_, trivial⟩
    ·intro xx af wv hbx hev hev0 hd; have e14 : af.tmps[14]?.getD undef = .pointer (some ⟨g, j * 11, none⟩) := hev0 14 rfl; clear hev hev0 hd; go_wp2; exact sQ rfl
    ·intro xx af wv hbx hev hev0 hd; clear hev hev0 hd; go_wp2; exact sQ rfl
    ·intro xx af wv hbx hev hev0 hd; have e14 : af.tmps[14]?.getD undef = .pointer (some ⟨g, j * 11, none⟩) := hev0 14 rfl; clear hev hev0 hd; go_wp2; exact sQ rfl
    ·intro xx af wv hbx hev hev0 hd; have e58 := (hev 2 _ 58 rfl rfl).trans (hd ⟨2, .data⟩ (by simp) rfl); clear hev hev0 hd; go_wp2; exact sQ rfl
    ·intro xx af wv hbx hev hev0 hd; have e59 := (hev 3 _ 59 rfl rfl).trans (hd ⟨3, .data⟩ (by simp) rfl); clear hev hev0 hd; go_wp2; exact sQ rfl
    ·intro xx af wv hbx hev hev0 hd; have e60 := (hev 4 _ 60 rfl rfl).trans (hd ⟨4, .data⟩ (by simp) rfl); clear hev hev0 hd; have hs1 := Lib.hid (HTC7.out.call hbx); have yx0 := hs1.out.cell 1 rfl (j * 11 + 7) (rowX_cell (j := j) (HU.out) (i := 7) rfl); have yx1 := hs1.out.cell 1 rfl (j * 11 + 8) (rowX_cell (j := j) (HU.out) (i := 8) rfl); have yx2 := hs1.out.cell 1 rfl (j * 11 + 9) (rowX_cell (j := j) (HU.out) (i := 9) rfl); go_wp2; exact sQ rfl
    ·intro xx af wv hbx hev hev0 hd; have e3 : af.tmps[3]?.getD undef = .int .u8 b := hev0 3 rfl; clear hev hev0 hd; go_wp2; exact sQ rfl
    ·intro xx af wv hbx hev hev0 hd; have e62 := (hev 6 _ 62 rfl rfl).trans (hd ⟨6, .data⟩ (by simp) rfl); clear hev hev0 hd; go_wp2; exact sQ rfl
    ·intro xx af wv hbx hev hev0 hd; have e63 := (hev 7 _ 63 rfl rfl).trans (hd ⟨7, .data⟩ (by simp) rfl); clear hev hev0 hd; go_wp2; exact sQ rfl
    ·intro xx af wv hbx hev hev0 hd
     have e64 := (hev 8 _ 64 rfl rfl).trans (hd ⟨8, .data⟩ (by simp) rfl)
     clear hev hev0 hd
     go_wp2_with fail
     refine (HR.out _).mono ?_
     rintro e w8 ⟨rfl, hb8⟩
     go_wp2
     exact StepQ.mk _ hb8 rfl
    ·intro xx af wv hbx hev hev0 hd
     have e61 := (hev 5 _ 61 rfl rfl).trans (hd ⟨5, .data⟩ (by simp) rfl)
     have e65 := (hev 9 _ 65 rfl rfl).trans (hd ⟨9, .data⟩ (by simp) rfl)
     clear hev hev0 hd
     go_wp2_with fail
     refine (HSB.out _).mono ?_
     rintro e w8 ⟨rfl, hb8⟩
     go_wp2
     exact StepQ.mk _ hb8 rfl
    ·intro xx af wv hbx hev hev0 hd
     have e57 := (hev 1 _ 57 rfl rfl).trans (hd ⟨1, .data⟩ (by simp) rfl)
     have e66 := (hev 10 _ 66 rfl rfl).trans (hd ⟨10, .data⟩ (by simp) rfl)
     clear hev hev0 hd
     go_wp2_with fail
     refine (HMX.out _).mono ?_
     rintro e w8 ⟨rfl, hb8⟩
     go_wp2
     exact StepQ.mk _ hb8 rfl
    ·intro xx af wv hbx hev hev0 hd; have e56 := (hev 0 _ 56 rfl rfl).trans (hd ⟨0, .data⟩ (by simp) rfl); clear hev hev0 hd; go_wp2; exact sQ rfl
    ·intro xx af wv hbx hev hev0 hd; have e68 := (hev 12 _ 68 rfl rfl).trans (hd ⟨12, .data⟩ (by simp) rfl); clear hev hev0 hd; go_wp2; exact sQ rfl
    intro xx w8 hb9 hv
    simp only [List.take, List.drop, fillA, Act.put]
    simp only [show xx 0 = _ from hv 0 (by decide), show xx 1 = _ from hv 1 (by decide), show xx 2 = _ from hv 2 (by decide), show xx 3 = _ from hv 3 (by decide), show xx 4 = _ from hv 4 (by decide), show xx 5 = _ from hv 5 (by decide), show xx 6 = _ from hv 6 (by decide), show xx 7 = _ from hv 7 (by decide), show xx 8 = _ from hv 8 (by decide), show xx 9 = _ from hv 9 (by decide), show xx 10 = _ from hv 10 (by decide), show xx 11 = _ from hv 11 (by decide), show xx 12 = _ from hv 12 (by decide), show xx 13 = _ from hv 13 (by decide)]
    clear hv
    have HTC8 := Lib.hid (HTC7.out.call hb9)
    clear hb9 HTC7
    obtain ⟨x12, x13, x14⟩ := HTC8.out.k0 0 rfl rfl rfl rfl
    have x15 := HTC8.out.cell 0 rfl 3 rfl
    have x16 := HTC8.out.cell 1 rfl (j * 11 + 7) (rowX_cell (j := j) (HU.out) (i := 7) rfl)
    have x17 := HTC8.out.cell 1 rfl (j * 11 + 8) (rowX_cell (j := j) (HU.out) (i := 8) rfl)
    have x18 := HTC8.out.cell 1 rfl (j * 11 + 9) (rowX_cell (j := j) (HU.out) (i := 9) rfl)
    have x19 := HTC8.out.frozen 1 rfl (j * 11 + 7)
    have x20 := HTC8.out.frozen 1 rfl (j * 11 + 8)
    have x21 := HTC8.out.frozen 1 rfl (j * 11 + 9)
    have x22 := HTC8.out.ne 1 0 rfl rfl (by decide)
    have x23 := HTC8.out.ne 0 1 rfl rfl (by decide)
    go_wp2_with fail
    have HTC9 : Hid (St w4 [⟨gv, #[.bool (negB (q)), .string (bs (numB (q))), .string (bs (denomB (q))), .slice (some ⟨g, 0, none⟩) l.length cap], 28⟩, ⟨g, (rowX ((l).set j ((u).wAsk ((negB (mx))) ((numB (mx))) ((denomB (mx))))) rest), 59⟩] _) := Lib.hid (St.wAsk (HTC8.out) 1 rfl j (u) (HU.out) ((negB (mx))) ((numB (mx))) ((denomB (mx))))
    refine (HT2.out _ _ (by rw [HLU.out]; exact rowX_slc (HTC9.out.blk 1 rfl) (by rw [List.length_set]) hcap (by unfold maxLen at hcm; omega))).mono ?_
    rintro e w10 ⟨A10, c10, rfl, hl10, hb10⟩
    have HTC10 := Lib.hid (HTC9.out.call hb10)
    have Y_10 := Lib.hid hl10
    clear hl10
    clear hb10 HTC8 HTC9
    clear x12 x13 x14 x15 x16 x17 x18 x19 x20 x21 x22 x23
    have x24 := HV9.out _ HTC10.out.below 0 _ rfl
    have x25 := HV9.out _ HTC10.out.below 1 _ rfl
    have x26 := HV9.out _ HTC10.out.below 2 _ rfl
    have x27 := HV9.out _ HTC10.out.below 3 _ rfl
    go_wp2_with fail
    refine (HG1.out _ _ _ (HQB.out _ HTC10.out.below) (HXB.out _ HTC10.out.below)).mono ?_
    rintro e w11 ⟨rfl, hb11⟩
    have HTC11 := Lib.hid (HTC10.out.call hb11)
    have Y_11 := Lib.hid (Y_10.out.below hb11)
    clear Y_10
    clear hb11 HTC10
    clear x24 x25 x26 x27
    obtain ⟨x28, x29, x30⟩ := HTC11.out.k0 0 rfl rfl rfl rfl
    have x31 := HTC11.out.cell 0 rfl 3 rfl
    have x32 := HTC11.out.lt 0 rfl
    have x33 : ¬ gv = w11.heap.size := by omega
    have x34 : ¬ w11.heap.size = gv := by omega
    go_wp2_with fail
    have HTC12 := Lib.hid (St.alloc (HTC11.out) #[.bool (negB (ra)), .string (bs (numB (ra))), .string (bs (denomB (ra)))] 25 (w11.heap.size) (by simp))
    refine (HG2.out _ _ _ (by rw [HLU.out]; exact rowX_slc (HTC12.out.blk 2 rfl) (by rw [List.length_set]) hcap (by unfold maxLen at hcm; omega)) (Y_11.out.below (Ext.alloc (Below.refl w11.heap.size w11) (Obj.cells #[.bool (negB (ra)), .string (bs (numB (ra))), .string (bs (denomB (ra)))] 25)))).mono ?_
    rintro e w13 ⟨rfl, hb13⟩
    have HTC13 := Lib.hid (HTC12.out.call hb13)
    have Y_13 := Lib.hid (Y_11.out.below (Ext.trans (Ext.alloc (Below.refl w11.heap.size w11) (Obj.cells #[.bool (negB (ra)), .string (bs (numB (ra))), .string (bs (denomB (ra)))] 25)) hb13))
    clear Y_11
    clear hb13 HTC11 HTC12
    clear x28 x29 x30 x31 x32 x33 x34
    go_wp2_with fail
    have HTC14 := Lib.hid (St.alloc (HTC13.out) #[.bool (negB (rb)), .string (bs (numB (rb))), .string (bs (denomB (rb)))] 25 (w13.heap.size) (by simp))
    refine (HAW.out _).mono ?_
    rintro e w15 ⟨rfl, hb15⟩
    have HTC15 := Lib.hid (HTC14.out.call hb15)
    have Y_15 := Lib.hid (Y_13.out.below (Ext.trans (Ext.alloc (Below.refl w13.heap.size w13) (Obj.cells #[.bool (negB (rb)), .string (bs (numB (rb))), .string (bs (denomB (rb)))] 25)) hb15))
    clear Y_13
    clear hb15 HTC13 HTC14
    obtain ⟨x35, x36, x37⟩ := HTC15.out.k0 1 rfl rfl rfl rfl
    obtain ⟨x38, x39, x40⟩ := HTC15.out.k0 0 rfl rfl rfl rfl
    go_wp2_with fail
    refine (HCP.out _).mono ?_
    rintro e w16 ⟨rfl, hb16⟩
    have HTC16 := Lib.hid (HTC15.out.call hb16)
    have Y_16 := Lib.hid (Y_15.out.below hb16)
    clear Y_15
    clear hb16 HTC15
    clear x35 x36 x37 x38 x39 x40
    go_wp2
    go_ret
    have HTC17 := Lib.hid HTC16.out
    exact ⟨rfl, Ext.trans HSW.out.below HTC17.out.below⟩
   ·have hac : u.acc = false := by cases h : u.acc <;> simp_all
    have HLU : Hid (l.set j u2 = l) := by
     show _ = _
     rw [HU2.out, hac, if_neg (by decide)]
     exact set_same HU.out
    obtain ⟨x11, x12, x13⟩ := HTC7.out.k0 0 rfl rfl rfl rfl
    have x14 := HTC7.out.cell 0 rfl 3 rfl
    have x15 := HTC7.out.cell 1 rfl (j * 11 + 10) (rowX_cell (j := j) (HU.out) (i := 10) rfl)
    go_wp2_with fail
    refine (HT2.out _ _ (by rw [HLU.out]; exact rowX_slc (HTC7.out.blk 1 rfl) rfl hcap (by unfold maxLen at hcm; omega))).mono ?_
    rintro e w8 ⟨A8, c8, rfl, hl8, hb8⟩
    have HTC8 := Lib.hid (HTC7.out.call hb8)
    have Y_8 := Lib.hid hl8
    clear hl8
    clear hb8 HTC7
    clear x11 x12 x13 x14 x15
    have x16 := HV9.out _ HTC8.out.below 0 _ rfl
    have x17 := HV9.out _ HTC8.out.below 1 _ rfl
    have x18 := HV9.out _ HTC8.out.below 2 _ rfl
    have x19 := HV9.out _ HTC8.out.below 3 _ rfl
    go_wp2_with fail
    refine (HG1.out _ _ _ (HQB.out _ HTC8.out.below) (HXB.out _ HTC8.out.below)).mono ?_
    rintro e w9 ⟨rfl, hb9⟩
    have HTC9 := Lib.hid (HTC8.out.call hb9)
    have Y_9 := Lib.hid (Y_8.out.below hb9)
    clear Y_8
    clear hb9 HTC8
    clear x16 x17 x18 x19
    obtain ⟨x20, x21, x22⟩ := HTC9.out.k0 0 rfl rfl rfl rfl
    have x23 := HTC9.out.cell 0 rfl 3 rfl
    have x24 := HTC9.out.lt 0 rfl
    have x25 : ¬ gv = w9.heap.size := by omega
    have x26 : ¬ w9.heap.size = gv := by omega
    go_wp2_with fail
    have HTC10 := Lib.hid (St.alloc (HTC9.out) #[.bool (negB (ra)), .string (bs (numB (ra))), .string (bs (denomB (ra)))] 25 (w9.heap.size) (by simp))
    refine (HG2.out _ _ _ (by rw [HLU.out]; exact rowX_slc (HTC10.out.blk 2 rfl) rfl hcap (by unfold maxLen at hcm; omega)) (Y_9.out.below (Ext.alloc (Below.refl w9.heap.size w9) (Obj.cells #[.bool (negB (ra)), .string (bs (numB (ra))), .string (bs (denomB (ra)))] 25)))).mono ?_
    rintro e w11 ⟨rfl, hb11⟩
    have HTC11 := Lib.hid (HTC10.out.call hb11)
    have Y_11 := Lib.hid (Y_9.out.below (Ext.trans (Ext.alloc (Below.refl w9.heap.size w9) (Obj.cells #[.bool (negB (ra)), .string (bs (numB (ra))), .string (bs (denomB (ra)))] 25)) hb11))
    clear Y_9
    clear hb11 HTC9 HTC10
    clear x20 x21 x22 x23 x24 x25 x26
    go_wp2_with fail
    have HTC12 := Lib.hid (St.alloc (HTC11.out) #[.bool (negB (rb)), .string (bs (numB (rb))), .string (bs (denomB (rb)))] 25 (w11.heap.size) (by simp))
    refine (HAW.out _).mono ?_
    rintro e w13 ⟨rfl, hb13⟩
    have HTC13 := Lib.hid (HTC12.out.call hb13)
    have Y_13 := Lib.hid (Y_11.out.below (Ext.trans (Ext.alloc (Below.refl w11.heap.size w11) (Obj.cells #[.bool (negB (rb)), .string (bs (numB (rb))), .string (bs (denomB (rb)))] 25)) hb13))
    clear Y_11
    clear hb13 HTC11 HTC12
    obtain ⟨x27, x28, x29⟩ := HTC13.out.k0 1 rfl rfl rfl rfl
    obtain ⟨x30, x31, x32⟩ := HTC13.out.k0 0 rfl rfl rfl rfl
    go_wp2_with fail
    refine (HCP.out _).mono ?_
    rintro e w14 ⟨rfl, hb14⟩
    have HTC14 := Lib.hid (HTC13.out.call hb14)
    have Y_14 := Lib.hid (Y_13.out.below hb14)
    clear Y_13
    clear hb14 HTC13
    clear x27 x28 x29 x30 x31 x32
    go_wp2
    go_ret
    have HTC15 := Lib.hid HTC14.out
    exact ⟨rfl, Ext.trans HSW.out.below HTC15.out.below⟩
end Go.Proofs.YtcllocdhbicpkaaGreatDoor
