/-
PlanSearch: the law walked (printed by gen_pln14.py).
-/
import Derived.Test.YtcllocdhbicpkaaGreatDoorPloA
import Derived.Test.YtcllocdhbicpkaaGreatDoorPlnY
namespace Go.Proofs.YtcllocdhbicpkaaGreatDoor
open Go.RowKit

theorem ref_SearchS (vn : Bool) (va vb : List UInt8) (v : Value) (l : List Blc) (w : World) (h : BlocsL w v l) (hok : SmallBl 1000 l) (lva : va.length ≤ 1000) (lvb : vb.length ≤ 1000) :
  Calls Tryz.prog 22 #[.agg #[.bool vn, .string (bs va), .string (bs vb), v]] w fun e w' => ∃ A c, e = .returned (.tuple #[.slice A (searchR (decR vn va vb) l).1.length c, .bool (searchR (decR vn va vb) l).2.1, .int .i64 (searchR (decR vn va vb) l).2.2]) ∧ RatsL w' (.slice A (searchR (decR vn va vb) l).1.length c) ((searchR (decR vn va vb) l).1.map rtrOf) ∧ Below w.heap.size w w' :=
 (ref_Search vn va vb v l w h hok lva lvb).mono fun e w' ⟨rv, he, hr, hb⟩ => by
  obtain ⟨A, c, hv, _, _⟩ := hr.slice
  rw [List.length_map] at hv
  subst hv
  exact ⟨A, c, he, hr, hb⟩

set_option maxRecDepth 100000 in
set_option maxHeartbeats 4000000 in
theorem law_PlanSearch (m : Int) (v1 : Value) (ts : List Qua) (a b : Int) (vn : Bool) (va vb : List UInt8) (v4 : Value) (l : List Blc) (w : World) (hm : 0 ≤ m ∧ m ≤ 65535) (h1 : Quas w v1 ts) (hok : ∀ t ∈ ts, t.ok) (ha : 0 ≤ a ∧ a ≤ 255) (hb : 0 ≤ b ∧ b ≤ 255) (h4 : BlocsL w v4 l) :
  Calls Tryz.prog 6 #[.int .u16 m, v1, .int .u8 a, .int .u8 b, .agg #[.bool vn, .string (bs va), .string (bs vb), v4]] w fun e w' => e = .returned (.bool true) ∧ Below w.heap.size w w' := by
 obtain ⟨x, rfl⟩ : ∃ x : Nat, m = (x : Int) := ⟨m.toNat, by omega⟩
 have hS := fun W (hbw : Below w.heap.size w W) => law32_spoiltS x v1 ts a b W (by omega) (h1.below hbw) hok ha hb
 have HSP := Lib.hid hS
 have HAW := Lib.hid (fun W => law32_awake W)
 clear hS h1 hok ha hb hm
 have hF := fun W (hb : Below w.heap.size w W) => law32_few vn va vb v4 l W (h4.below hb)
 obtain ⟨fB, hfB⟩ : ∃ x, x = fewVn va vb l := ⟨_, rfl⟩
 rw [← hfB] at hF
 have HF := Lib.hid hF
 have H4 := Lib.hid h4
 have HFB := Lib.hid hfB.symm
 obtain ⟨A, c, rfl, hl, hc⟩ := h4.slice
 clear h4 hfB hF
 cases fB
 ·go_enter Tryz.func6, Tryz.ntmps6
  have HS := Lib.hid (St.start w)
  go_wp2_with fail
  have HS2 := Lib.hid (St.alloc (HS.out) #[.bool vn, .string (bs va), .string (bs vb), .slice A l.length c] 28 (w.heap.size) (by simp))
  refine (HF.out _ HS2.out.below).mono ?_
  rintro e w3 ⟨rfl, hb3⟩
  have HS3 := Lib.hid (HS2.out.call hb3)
  clear hb3 HS HS2
  go_wp2_with fail
  refine (HAW.out _).mono ?_
  rintro e w4 ⟨rfl, hb4⟩
  have HS4 := Lib.hid (HS3.out.call hb4)
  clear hb4 HS3
  go_wp2
  go_ret
  have HS5 := Lib.hid HS4.out
  exact ⟨rfl, HS5.out.below⟩
 ·obtain ⟨h20, ⟨hva, hvb⟩, hsm⟩ := fewVn_in HFB.out
  have hCP := fun W (hb : Below w.heap.size w W) => plan_SearchS vn va vb _ l W (H4.out.below hb) (hsm.mono (by decide)) (by omega) (by omega)
  have hCR := fun W (hb : Below w.heap.size w W) => ref_SearchS vn va vb _ l W (H4.out.below hb) (hsm.mono (by decide)) (by omega) (by omega)
  have z2 := searchR_small (value := decR vn va vb) ((sized_dec hva hvb (by decide)).mono (show 24 ≤ 1000 by decide)) (hsm.mono (by decide)) h20
  generalize searchR (decR vn va vb) l = r2 at *
  obtain ⟨x2, y2, n2⟩ := r2
  dsimp only at hCP hCR z2
  have hS2 := fun v1 v2 W (h1 : RatsL W v1 (x2.map rtrOf)) (h2 : RatsL W v2 (x2.map rtrOf)) => ref_SameRats v1 v2 _ W h1 h2 z2
  have HCP := Lib.hid hCP
  have HCR := Lib.hid hCR
  have HS2 := Lib.hid hS2
  have q3 : (y2 == y2) = true := by simp
  have q4 : (n2 == n2) = true := by simp
  clear hCP hCR hS2 z2 hsm hva hvb
  go_enter Tryz.func6, Tryz.ntmps6
  have HS := Lib.hid (St.start w)
  go_wp2_with fail
  have HS2 := Lib.hid (St.alloc (HS.out) #[.bool vn, .string (bs va), .string (bs vb), .slice A l.length c] 28 (w.heap.size) (by simp))
  refine (HF.out _ HS2.out.below).mono ?_
  rintro e w3 ⟨rfl, hb3⟩
  have HS3 := Lib.hid (HS2.out.call hb3)
  clear hb3 HS HS2
  go_wp2_with fail
  refine (HSP.out _ HS3.out.below).mono ?_
  rintro e w4 ⟨n4, a4, d4, A4, c4, l4, rfl, hl4, hs4, h174, hna4, hnb4, hb4⟩
  have HS4 := Lib.hid (HS3.out.call hb4)
  have Q_4 := Lib.hid hl4
  clear hl4
  clear hb4 HS3
  have hBP := fun W (h : BlocsL W (.slice A4 l4.length c4) l4) => plan_SearchS n4 a4 d4 _ l4 W h (hs4.mono (by decide)) (by omega) (by omega)
  have hBR := fun W (h : BlocsL W (.slice A4 l4.length c4) l4) => ref_SearchS n4 a4 d4 _ l4 W h (hs4.mono (by decide)) (by omega) (by omega)
  have z1 := searchR_small (value := decR n4 a4 d4) ((sized_dec hna4 hnb4 (by decide)).mono (show 24 ≤ 1000 by decide)) (hs4.mono (by decide)) (by omega)
  generalize searchR (decR n4 a4 d4) l4 = r1 at hBP hBR z1
  obtain ⟨x1, y1, n1⟩ := r1
  dsimp only at hBP hBR z1
  have hS1 := fun v1 v2 W (h1 : RatsL W v1 (x1.map rtrOf)) (h2 : RatsL W v2 (x1.map rtrOf)) => ref_SameRats v1 v2 _ W h1 h2 z1
  have HBP := Lib.hid hBP
  have HBR := Lib.hid hBR
  have HS1 := Lib.hid hS1
  have q1 : (y1 == y1) = true := by simp
  have q2 : (n1 == n1) = true := by simp
  clear hBP hBR hS1 z1 hs4 hna4 hnb4
  go_wp2_with fail
  have HS5 := Lib.hid (St.alloc (HS4.out) #[.bool n4, .string (bs a4), .string (bs d4), .slice A4 l4.length c4] 28 (w4.heap.size) (by simp))
  refine (HBP.out _ (Q_4.out.below (Ext.alloc (Below.refl w4.heap.size w4) (Obj.cells #[.bool n4, .string (bs a4), .string (bs d4), .slice A4 l4.length c4] 28)))).mono ?_
  rintro e w6 ⟨A6, c6, rfl, hl6, hb6⟩
  have HS6 := Lib.hid (HS5.out.call hb6)
  have Q_6 := Lib.hid (Q_4.out.below (Ext.trans (Ext.alloc (Below.refl w4.heap.size w4) (Obj.cells #[.bool n4, .string (bs a4), .string (bs d4), .slice A4 l4.length c4] 28)) hb6))
  clear Q_4
  have R1_6 := Lib.hid hl6
  clear hl6
  clear hb6 HS4 HS5
  obtain ⟨x1, x2, x3⟩ := HS6.out.k0 0 rfl rfl rfl rfl
  have x4 := HS6.out.cell 0 rfl 3 rfl
  go_wp2_with fail
  refine (HBR.out _ Q_6.out).mono ?_
  rintro e w7 ⟨A7, c7, rfl, hl7, hb7⟩
  have HS7 := Lib.hid (HS6.out.call hb7)
  have Q_7 := Lib.hid (Q_6.out.below hb7)
  clear Q_6
  have R1_7 := Lib.hid (R1_6.out.below hb7)
  clear R1_6
  have R2_7 := Lib.hid hl7
  clear hl7
  clear hb7 HS6
  clear x1 x2 x3 x4
  obtain ⟨x5, x6, x7⟩ := HS7.out.k0 1 rfl rfl rfl rfl
  have x8 := HS7.out.cell 1 rfl 3 rfl
  go_wp2_with fail
  refine (HCP.out _ HS7.out.below).mono ?_
  rintro e w8 ⟨A8, c8, rfl, hl8, hb8⟩
  have HS8 := Lib.hid (HS7.out.call hb8)
  have Q_8 := Lib.hid (Q_7.out.below hb8)
  clear Q_7
  have R1_8 := Lib.hid (R1_7.out.below hb8)
  clear R1_7
  have R2_8 := Lib.hid (R2_7.out.below hb8)
  clear R2_7
  have R3_8 := Lib.hid hl8
  clear hl8
  clear hb8 HS7
  clear x5 x6 x7 x8
  obtain ⟨x9, x10, x11⟩ := HS8.out.k0 1 rfl rfl rfl rfl
  have x12 := HS8.out.cell 1 rfl 3 rfl
  go_wp2_with fail
  refine (HCR.out _ HS8.out.below).mono ?_
  rintro e w9 ⟨A9, c9, rfl, hl9, hb9⟩
  have HS9 := Lib.hid (HS8.out.call hb9)
  have Q_9 := Lib.hid (Q_8.out.below hb9)
  clear Q_8
  have R1_9 := Lib.hid (R1_8.out.below hb9)
  clear R1_8
  have R2_9 := Lib.hid (R2_8.out.below hb9)
  clear R2_8
  have R3_9 := Lib.hid (R3_8.out.below hb9)
  clear R3_8
  have R4_9 := Lib.hid hl9
  clear hl9
  clear hb9 HS8
  clear x9 x10 x11 x12
  go_wp2_with fail
  refine (HAW.out _).mono ?_
  rintro e w10 ⟨rfl, hb10⟩
  have HS10 := Lib.hid (HS9.out.call hb10)
  have Q_10 := Lib.hid (Q_9.out.below hb10)
  clear Q_9
  have R1_10 := Lib.hid (R1_9.out.below hb10)
  clear R1_9
  have R2_10 := Lib.hid (R2_9.out.below hb10)
  clear R2_9
  have R3_10 := Lib.hid (R3_9.out.below hb10)
  clear R3_9
  have R4_10 := Lib.hid (R4_9.out.below hb10)
  clear R4_9
  clear hb10 HS9
  go_wp2_with fail
  refine (HS1.out _ _ _ R1_10.out R2_10.out).mono ?_
  rintro e w11 ⟨rfl, hb11⟩
  have HS11 := Lib.hid (HS10.out.call hb11)
  have Q_11 := Lib.hid (Q_10.out.below hb11)
  clear Q_10
  have R1_11 := Lib.hid (R1_10.out.below hb11)
  clear R1_10
  have R2_11 := Lib.hid (R2_10.out.below hb11)
  clear R2_10
  have R3_11 := Lib.hid (R3_10.out.below hb11)
  clear R3_10
  have R4_11 := Lib.hid (R4_10.out.below hb11)
  clear R4_10
  clear hb11 HS10
  go_wp2_with fail
  refine (HS2.out _ _ _ R3_11.out R4_11.out).mono ?_
  rintro e w12 ⟨rfl, hb12⟩
  have HS12 := Lib.hid (HS11.out.call hb12)
  have Q_12 := Lib.hid (Q_11.out.below hb12)
  clear Q_11
  have R1_12 := Lib.hid (R1_11.out.below hb12)
  clear R1_11
  have R2_12 := Lib.hid (R2_11.out.below hb12)
  clear R2_11
  have R3_12 := Lib.hid (R3_11.out.below hb12)
  clear R3_11
  have R4_12 := Lib.hid (R4_11.out.below hb12)
  clear R4_11
  clear hb12 HS11
  go_wp2
  go_ret
  have HS13 := Lib.hid HS12.out
  exact ⟨rfl, HS13.out.below⟩
end Go.Proofs.YtcllocdhbicpkaaGreatDoor
