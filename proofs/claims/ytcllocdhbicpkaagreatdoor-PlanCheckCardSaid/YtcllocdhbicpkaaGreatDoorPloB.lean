/-
PlanCheck: the law walked (printed by gen_pln14.py).
-/
import Derived.Test.YtcllocdhbicpkaaGreatDoorPloA
import Derived.Test.YtcllocdhbicpkaaGreatDoorPlnM
namespace Go.Proofs.YtcllocdhbicpkaaGreatDoor
open Go.RowKit

set_option maxRecDepth 100000 in
set_option maxHeartbeats 4000000 in
theorem law_PlanCheck (m : Int) (v1 : Value) (ts : List Qua) (a b : Int) (vn : Bool) (va vb : List UInt8) (v4 : Value) (l : List Blc) (w : World) (hm : 0 ≤ m ∧ m ≤ 65535) (h1 : Quas w v1 ts) (hok : ∀ t ∈ ts, t.ok) (ha : 0 ≤ a ∧ a ≤ 255) (hb : 0 ≤ b ∧ b ≤ 255) (h4 : BlocsL w v4 l) :
  Calls Tryz.prog 3 #[.int .u16 m, v1, .int .u8 a, .int .u8 b, .agg #[.bool vn, .string (bs va), .string (bs vb), v4]] w fun e w' => e = .returned (.bool true) ∧ Below w.heap.size w w' := by
 obtain ⟨x, rfl⟩ : ∃ x : Nat, m = (x : Int) := ⟨m.toNat, by omega⟩
 have hS := fun W (hbw : Below w.heap.size w W) => law32_spoiltS x v1 ts a b W (by omega) (h1.below hbw) hok ha hb
 have HSP := Lib.hid hS
 have HAW := Lib.hid (fun W => law32_awake W)
 clear hS h1 hok ha hb hm
 have hF := fun W (hb : Below w.heap.size w W) => law32_few vn va vb v4 l W (h4.below hb)
 obtain ⟨fB, hfB⟩ : ∃ x, x = fewVn va vb l := ⟨_, rfl⟩
 rw [← hfB] at hF
 have HF := Lib.hid hF
 have H4 := Lib.hid h4
 have HFB := Lib.hid hfB.symm
 obtain ⟨A, c, rfl, hl, hc⟩ := h4.slice
 clear h4 hfB hF
 cases fB
 ·go_enter Tryz.func3, Tryz.ntmps3
  have HS := Lib.hid (St.start w)
  go_wp2_with fail
  have HS2 := Lib.hid (St.alloc (HS.out) #[.bool vn, .string (bs va), .string (bs vb), .slice A l.length c] 28 (w.heap.size) (by simp))
  refine (HF.out _ HS2.out.below).mono ?_
  rintro e w3 ⟨rfl, hb3⟩
  have HS3 := Lib.hid (HS2.out.call hb3)
  clear hb3 HS HS2
  go_wp2_with fail
  refine (HAW.out _).mono ?_
  rintro e w4 ⟨rfl, hb4⟩
  have HS4 := Lib.hid (HS3.out.call hb4)
  clear hb4 HS3
  go_wp2
  go_ret
  have HS5 := Lib.hid HS4.out
  exact ⟨rfl, HS5.out.below⟩
 ·obtain ⟨h20, ⟨hva, hvb⟩, hsm⟩ := fewVn_in HFB.out
  have hC := fun W (hb : Below w.heap.size w W) => plan_Check vn va vb _ l W (H4.out.below hb) (hsm.mono (by decide)) (by omega) (by omega)
  have hD := fun W (hb : Below w.heap.size w W) => ref_CheckVenture vn va vb _ l W (H4.out.below hb) (hsm.mono (by decide)) (by omega) (by omega)
  generalize checkVn (decR vn va vb) l = k1 at *
  have HC := Lib.hid hC
  have HD := Lib.hid hD
  have q1 : (k1 == k1) = true := by simp
  clear hC hD hsm hva hvb
  go_enter Tryz.func3, Tryz.ntmps3
  have HS := Lib.hid (St.start w)
  go_wp2_with fail
  have HS2 := Lib.hid (St.alloc (HS.out) #[.bool vn, .string (bs va), .string (bs vb), .slice A l.length c] 28 (w.heap.size) (by simp))
  refine (HF.out _ HS2.out.below).mono ?_
  rintro e w3 ⟨rfl, hb3⟩
  have HS3 := Lib.hid (HS2.out.call hb3)
  clear hb3 HS HS2
  go_wp2_with fail
  refine (HSP.out _ HS3.out.below).mono ?_
  rintro e w4 ⟨n4, a4, d4, A4, c4, l4, rfl, hl4, hs4, h174, hna4, hnb4, hb4⟩
  have HS4 := Lib.hid (HS3.out.call hb4)
  have Q_4 := Lib.hid hl4
  clear hl4
  clear hb4 HS3
  have hC2 := fun W (h : BlocsL W (.slice A4 l4.length c4) l4) => plan_Check n4 a4 d4 _ l4 W h (hs4.mono (by decide)) (by omega) (by omega)
  have hD2 := fun W (h : BlocsL W (.slice A4 l4.length c4) l4) => ref_CheckVenture n4 a4 d4 _ l4 W h (hs4.mono (by decide)) (by omega) (by omega)
  generalize checkVn (decR n4 a4 d4) l4 = k2 at hC2 hD2
  have HC2 := Lib.hid hC2
  have HD2 := Lib.hid hD2
  have q2 : (k2 == k2) = true := by simp
  clear hC2 hD2 hs4 hna4 hnb4
  go_wp2
  have HS5 := Lib.hid (St.alloc (HS4.out) #[.bool n4, .string (bs a4), .string (bs d4), .slice A4 l4.length c4] 28 (w4.heap.size) (by simp))
  clear HS4
  have Q_5 := Lib.hid (Q_4.out.below (Ext.alloc (Below.refl w4.heap.size w4) (Obj.cells #[.bool n4, .string (bs a4), .string (bs d4), .slice A4 l4.length c4] 28)))
  clear Q_4
  refine wp_region_eq 15 [.bool true, .bool true, .agg #[.bool n4, .string (bs a4), .string (bs d4), .slice A4 l4.length c4], .int .i64 k2, .agg #[.bool n4, .string (bs a4), .string (bs d4), .slice A4 l4.length c4], .int .i64 k2, .bool true, .bool true, .bool true, .agg #[.bool vn, .string (bs va), .string (bs vb), .slice A l.length c], .int .i64 k1, .agg #[.bool vn, .string (bs va), .string (bs vb), .slice A l.length c], .int .i64 k1, .bool true, .bool true] rfl (by kernel_rfl) (by kernel_rfl) (by kernel_rfl) ?_ ?_
  refine ⟨?_, ?_, ?_, ?_, ?_, ?_, ?_, ?_, ?_, ?_, ?_, ?_, ?_, ?_, ?_, trivial⟩
  ·intro xx af wv hbx hev hev0 hd
   clear hev hev0 hd
   go_wp2_with fail
   refine (HAW.out _).mono ?_
   rintro e w8 ⟨rfl, hb8⟩
   go_wp2
   exact StepQ.mk _ hb8 rfl
  ·intro xx af wv hbx hev hev0 hd; have e21 := (hev 0 _ 21 rfl rfl).trans (hd ⟨0, .data⟩ (by simp) rfl); clear hev hev0 hd; go_wp2; exact sQ rfl
  ·intro xx af wv hbx hev hev0 hd; have e22 := (hev 1 _ 22 rfl rfl).trans (hd ⟨1, .guard⟩ (by simp) rfl); have e11 : af.tmps[11]?.getD undef = .pointer (some ⟨w4.heap.size, 0, none⟩) := hev0 11 rfl; have q22 := getD_bool e22; clear hev hev0 hd; have hs1 := Lib.hid (HS5.out.call hbx); obtain ⟨y0, y1, y2⟩ := hs1.out.k0 0 rfl rfl rfl rfl; have y3 := hs1.out.cell 0 rfl 3 rfl; go_wp2; exact sQ rfl
  ·intro xx af wv hbx hev hev0 hd
   have e22 := (hev 1 _ 22 rfl rfl).trans (hd ⟨1, .chain⟩ (by simp) rfl)
   have e23 := (hev 2 _ 23 rfl rfl).trans (hd ⟨2, .data⟩ (by simp) rfl)
   have q22 := getD_bool e22
   clear hev hev0 hd
   go_wp2_with fail
   refine (HC2.out _ (Q_5.out.below hbx)).mono ?_
   rintro e w8 ⟨rfl, hb8⟩
   go_wp2
   exact StepQ.mk _ hb8 rfl
  ·intro xx af wv hbx hev hev0 hd; have e22 := (hev 1 _ 22 rfl rfl).trans (hd ⟨1, .guard⟩ (by simp) rfl); have e11 : af.tmps[11]?.getD undef = .pointer (some ⟨w4.heap.size, 0, none⟩) := hev0 11 rfl; have q22 := getD_bool e22; clear hev hev0 hd; have hs1 := Lib.hid (HS5.out.call hbx); obtain ⟨y0, y1, y2⟩ := hs1.out.k0 0 rfl rfl rfl rfl; have y3 := hs1.out.cell 0 rfl 3 rfl; go_wp2; exact sQ rfl
  ·intro xx af wv hbx hev hev0 hd
   have e22 := (hev 1 _ 22 rfl rfl).trans (hd ⟨1, .guard⟩ (by simp) rfl)
   have e25 := (hev 4 _ 25 rfl rfl).trans (hd ⟨4, .data⟩ (by simp) rfl)
   have q22 := getD_bool e22
   clear hev hev0 hd
   go_wp2_with fail
   refine (HD2.out _ (Q_5.out.below hbx)).mono ?_
   rintro e w8 ⟨rfl, hb8⟩
   go_wp2
   exact StepQ.mk _ hb8 rfl
  ·intro xx af wv hbx hev hev0 hd; have e22 := (hev 1 _ 22 rfl rfl).trans (hd ⟨1, .guard⟩ (by simp) rfl); have e24 := (hev 3 _ 24 rfl rfl).trans (hd ⟨3, .data⟩ (by simp) rfl); have e26 := (hev 5 _ 26 rfl rfl).trans (hd ⟨5, .data⟩ (by simp) rfl); have q22 := getD_bool e22; clear hev hev0 hd; go_wp2; exact sQ rfl
  ·intro xx af wv hbx hev hev0 hd; have e22 := (hev 1 _ 22 rfl rfl).trans (hd ⟨1, .data⟩ (by simp) rfl); have e27 := (hev 6 _ 27 rfl rfl).trans (hd ⟨6, .data⟩ (by simp) rfl); clear hev hev0 hd; go_wp2; exact sQ rfl
  ·intro xx af wv hbx hev hev0 hd; have e28 := (hev 7 _ 28 rfl rfl).trans (hd ⟨7, .data⟩ (by simp) rfl); clear hev hev0 hd; go_wp2; exact sQ rfl
  ·intro xx af wv hbx hev hev0 hd; have e29 := (hev 8 _ 29 rfl rfl).trans (hd ⟨8, .guard⟩ (by simp) rfl); have e9 : af.tmps[9]?.getD undef = .pointer (some ⟨w.heap.size, 0, none⟩) := hev0 9 rfl; have q29 := getD_bool e29; clear hev hev0 hd; have hs1 := Lib.hid (HS5.out.call hbx); obtain ⟨y0, y1, y2⟩ := hs1.out.k0 1 rfl rfl rfl rfl; have y3 := hs1.out.cell 1 rfl 3 rfl; go_wp2; exact sQ rfl
  ·intro xx af wv hbx hev hev0 hd
   have e29 := (hev 8 _ 29 rfl rfl).trans (hd ⟨8, .chain⟩ (by simp) rfl)
   have e30 := (hev 9 _ 30 rfl rfl).trans (hd ⟨9, .data⟩ (by simp) rfl)
   have q29 := getD_bool e29
   clear hev hev0 hd
   have hs1 := Lib.hid (HS5.out.call hbx)
   go_wp2_with fail
   refine (HC.out _ hs1.out.below).mono ?_
   rintro e w8 ⟨rfl, hb8⟩
   go_wp2
   exact StepQ.mk _ hb8 rfl
  ·intro xx af wv hbx hev hev0 hd; have e29 := (hev 8 _ 29 rfl rfl).trans (hd ⟨8, .guard⟩ (by simp) rfl); have e9 : af.tmps[9]?.getD undef = .pointer (some ⟨w.heap.size, 0, none⟩) := hev0 9 rfl; have q29 := getD_bool e29; clear hev hev0 hd; have hs1 := Lib.hid (HS5.out.call hbx); obtain ⟨y0, y1, y2⟩ := hs1.out.k0 1 rfl rfl rfl rfl; have y3 := hs1.out.cell 1 rfl 3 rfl; go_wp2; exact sQ rfl
  ·intro xx af wv hbx hev hev0 hd
   have e29 := (hev 8 _ 29 rfl rfl).trans (hd ⟨8, .guard⟩ (by simp) rfl)
   have e32 := (hev 11 _ 32 rfl rfl).trans (hd ⟨11, .data⟩ (by simp) rfl)
   have q29 := getD_bool e29
   clear hev hev0 hd
   have hs1 := Lib.hid (HS5.out.call hbx)
   go_wp2_with fail
   refine (HD.out _ hs1.out.below).mono ?_
   rintro e w8 ⟨rfl, hb8⟩
   go_wp2
   exact StepQ.mk _ hb8 rfl
  ·intro xx af wv hbx hev hev0 hd; have e29 := (hev 8 _ 29 rfl rfl).trans (hd ⟨8, .guard⟩ (by simp) rfl); have e31 := (hev 10 _ 31 rfl rfl).trans (hd ⟨10, .data⟩ (by simp) rfl); have e33 := (hev 12 _ 33 rfl rfl).trans (hd ⟨12, .data⟩ (by simp) rfl); have q29 := getD_bool e29; clear hev hev0 hd; go_wp2; exact sQ rfl
  ·intro xx af wv hbx hev hev0 hd; have e29 := (hev 8 _ 29 rfl rfl).trans (hd ⟨8, .data⟩ (by simp) rfl); have e34 := (hev 13 _ 34 rfl rfl).trans (hd ⟨13, .data⟩ (by simp) rfl); clear hev hev0 hd; go_wp2; exact sQ rfl
  intro xx w7 hb9 hv
  simp only [List.take, List.drop, fillA, Act.put]
  simp only [show xx 0 = _ from hv 0 (by decide), show xx 1 = _ from hv 1 (by decide), show xx 2 = _ from hv 2 (by decide), show xx 3 = _ from hv 3 (by decide), show xx 4 = _ from hv 4 (by decide), show xx 5 = _ from hv 5 (by decide), show xx 6 = _ from hv 6 (by decide), show xx 7 = _ from hv 7 (by decide), show xx 8 = _ from hv 8 (by decide), show xx 9 = _ from hv 9 (by decide), show xx 10 = _ from hv 10 (by decide), show xx 11 = _ from hv 11 (by decide), show xx 12 = _ from hv 12 (by decide), show xx 13 = _ from hv 13 (by decide), show xx 14 = _ from hv 14 (by decide)]
  clear hv
  have HS7 := Lib.hid (HS5.out.call hb9)
  have Q_7 := Lib.hid (Q_5.out.below hb9)
  clear Q_5
  clear hb9 HS5
  go_wp2
  go_ret
  have HS8 := Lib.hid HS7.out
  exact ⟨rfl, HS8.out.below⟩
end Go.Proofs.YtcllocdhbicpkaaGreatDoor
