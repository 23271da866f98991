/-
PlanConfirm: the law walked (printed by gen_pln14.py).
-/
import Derived.Test.YtcllocdhbicpkaaGreatDoorPloA
import Derived.Test.YtcllocdhbicpkaaGreatDoorPlnU
namespace Go.Proofs.YtcllocdhbicpkaaGreatDoor
open Go.RowKit

set_option maxRecDepth 100000 in
set_option maxHeartbeats 4000000 in
theorem law_PlanConfirm (m : Int) (v1 : Value) (ts : List Qua) (a b : Int) (v4 : Value) (ws : List Nat) (v5 : Value) (rs : List Rtr) (w : World) (hm : 0 ≤ m ∧ m ≤ 65535) (h1 : Quas w v1 ts) (hok : ∀ t ∈ ts, t.ok) (ha : 0 ≤ a ∧ a ≤ 255) (hb : 0 ≤ b ∧ b ≤ 255) (h4 : U16L w v4 ws) (h4ok : ∀ x ∈ ws, W16ok x) (h5 : RatsL w v5 rs) :
  Calls Tryz.prog 5 #[.int .u16 m, v1, .int .u8 a, .int .u8 b, v4, v5] w fun e w' => e = .returned (.bool true) ∧ Below w.heap.size w w' := by
 obtain ⟨x, rfl⟩ : ∃ x : Nat, m = (x : Int) := ⟨m.toNat, by omega⟩
 have hS := fun W (hbw : Below w.heap.size w W) => law32_spoiltS x v1 ts a b W (by omega) (h1.below hbw) hok ha hb
 have HSP := Lib.hid hS
 have HAW := Lib.hid (fun W => law32_awake W)
 clear hS h1 hok ha hb hm
 have hF := fun W (hb : Below w.heap.size w W) => law0_FewRats v5 rs 20 W (h5.below hb) (by decide)
 obtain ⟨fB, hfB⟩ : ∃ x, x = fewT rs 20 := ⟨_, rfl⟩
 rw [← hfB] at hF
 have HF := Lib.hid hF
 have HFB := Lib.hid hfB.symm
 have H5 := Lib.hid h5
 have HRT := Lib.hid (fun n (hn : n ≤ 1000) W (hb : Below w.heap.size w W) => law0_RatesS v4 ws n W (h4.below hb) h4ok hn)
 clear hfB hF h4 h4ok h5
 cases fB
 ·go_enter Tryz.func5, Tryz.ntmps5
  have HS := Lib.hid (St.start w)
  go_wp2_with fail
  refine (HF.out _ HS.out.below).mono ?_
  rintro e w2 ⟨rfl, hb2⟩
  have HS2 := Lib.hid (HS.out.call hb2)
  clear hb2 HS
  go_wp2_with fail
  refine (HAW.out _).mono ?_
  rintro e w3 ⟨rfl, hb3⟩
  have HS3 := Lib.hid (HS2.out.call hb3)
  clear hb3 HS2
  go_wp2
  go_ret
  have HS4 := Lib.hid HS3.out
  exact ⟨rfl, HS4.out.below⟩
 ·have HRS := Lib.hid (fewT_in HFB.out).2
  go_enter Tryz.func5, Tryz.ntmps5
  have HS := Lib.hid (St.start w)
  go_wp2_with fail
  refine (HF.out _ HS.out.below).mono ?_
  rintro e w2 ⟨rfl, hb2⟩
  have HS2 := Lib.hid (HS.out.call hb2)
  clear hb2 HS
  go_wp2_with fail
  refine (HSP.out _ HS2.out.below).mono ?_
  rintro e w3 ⟨n3, a3, d3, A3, c3, l3, rfl, hl3, hs3, h173, hna3, hnb3, hb3⟩
  have HS3 := Lib.hid (HS2.out.call hb3)
  have Q_3 := Lib.hid hl3
  clear hl3
  clear hb3 HS2
  go_wp2_with fail
  have HS4 := Lib.hid (St.alloc (HS3.out) #[.bool n3, .string (bs a3), .string (bs d3), .slice A3 l3.length c3] 28 (w3.heap.size) (by simp))
  refine (HRT.out l3.length (by omega) _ HS4.out.below).mono ?_
  rintro e w5 ⟨A5, c5, rfl, hl5, hb5⟩
  have HS5 := Lib.hid (HS4.out.call hb5)
  have Q_5 := Lib.hid (Q_3.out.below (Ext.trans (Ext.alloc (Below.refl w3.heap.size w3) (Obj.cells #[.bool n3, .string (bs a3), .string (bs d3), .slice A3 l3.length c3] 28)) hb5))
  clear Q_3
  have T_5 := Lib.hid hl5
  clear hl5
  clear hb5 HS3 HS4
  have hP1 := fun W (h : BlocsL W (.slice A3 l3.length c3) l3) (hr : RatsL W (.slice A5 l3.length c5) ((ratesW ws l3.length).map rtrOf)) => plan_Confirm n3 a3 d3 _ l3 _ _ W h hr (hs3.mono (by decide)) ((ratesW_small ws l3.length).mono (by decide)) (by omega) (by omega)
  have hP2 := fun W (h : BlocsL W (.slice A3 l3.length c3) l3) (hb : Below w.heap.size w W) => plan_Confirm n3 a3 d3 _ l3 v5 rs W h (H5.out.below hb) (hs3.mono (by decide)) (HRS.out.mono (by decide)) (by omega) (by omega)
  have hR1 := fun W (h : BlocsL W (.slice A3 l3.length c3) l3) (hr : RatsL W (.slice A5 l3.length c5) ((ratesW ws l3.length).map rtrOf)) => ref_Confirm n3 a3 d3 _ l3 _ _ W h hr (hs3.mono (by decide)) ((ratesW_small ws l3.length).mono (by decide)) (by omega) (by omega)
  have hR2 := fun W (h : BlocsL W (.slice A3 l3.length c3) l3) (hb : Below w.heap.size w W) => ref_Confirm n3 a3 d3 _ l3 v5 rs W h (H5.out.below hb) (hs3.mono (by decide)) (HRS.out.mono (by decide)) (by omega) (by omega)
  generalize confR (decR n3 a3 d3) l3 (((ratesW ws l3.length).map rtrOf).map Rtr.val) = r1 at hP1 hR1
  generalize confR (decR n3 a3 d3) l3 (rs.map Rtr.val) = r2 at hP2 hR2
  obtain ⟨t1, n1⟩ := r1
  obtain ⟨t2, n2⟩ := r2
  dsimp only at hP1 hP2 hR1 hR2
  have q1 : (t1 == t1) = true := by simp
  have q3 : (t2 == t2) = true := by simp
  have q2 : (n1 == n1) = true := by simp
  have q4 : (n2 == n2) = true := by simp
  have HP1 := Lib.hid hP1
  have HP2 := Lib.hid hP2
  have HR1 := Lib.hid hR1
  have HR2 := Lib.hid hR2
  clear hP1 hP2 hR1 hR2 hs3 hna3 hnb3
  obtain ⟨x1, x2, x3⟩ := HS5.out.k0 0 rfl rfl rfl rfl
  have x4 := HS5.out.cell 0 rfl 3 rfl
  go_wp2_with fail
  refine (HP1.out _ Q_5.out T_5.out).mono ?_
  rintro e w6 ⟨rfl, hb6⟩
  have HS6 := Lib.hid (HS5.out.call hb6)
  have Q_6 := Lib.hid (Q_5.out.below hb6)
  clear Q_5
  have T_6 := Lib.hid (T_5.out.below hb6)
  clear T_5
  clear hb6 HS5
  clear x1 x2 x3 x4
  obtain ⟨x5, x6, x7⟩ := HS6.out.k0 0 rfl rfl rfl rfl
  have x8 := HS6.out.cell 0 rfl 3 rfl
  go_wp2_with fail
  refine (HR1.out _ Q_6.out T_6.out).mono ?_
  rintro e w7 ⟨rfl, hb7⟩
  have HS7 := Lib.hid (HS6.out.call hb7)
  have Q_7 := Lib.hid (Q_6.out.below hb7)
  clear Q_6
  have T_7 := Lib.hid (T_6.out.below hb7)
  clear T_6
  clear hb7 HS6
  clear x5 x6 x7 x8
  obtain ⟨x9, x10, x11⟩ := HS7.out.k0 0 rfl rfl rfl rfl
  have x12 := HS7.out.cell 0 rfl 3 rfl
  go_wp2_with fail
  refine (HP2.out _ Q_7.out HS7.out.below).mono ?_
  rintro e w8 ⟨rfl, hb8⟩
  have HS8 := Lib.hid (HS7.out.call hb8)
  have Q_8 := Lib.hid (Q_7.out.below hb8)
  clear Q_7
  have T_8 := Lib.hid (T_7.out.below hb8)
  clear T_7
  clear hb8 HS7
  clear x9 x10 x11 x12
  obtain ⟨x13, x14, x15⟩ := HS8.out.k0 0 rfl rfl rfl rfl
  have x16 := HS8.out.cell 0 rfl 3 rfl
  go_wp2_with fail
  refine (HR2.out _ Q_8.out HS8.out.below).mono ?_
  rintro e w9 ⟨rfl, hb9⟩
  have HS9 := Lib.hid (HS8.out.call hb9)
  have Q_9 := Lib.hid (Q_8.out.below hb9)
  clear Q_8
  have T_9 := Lib.hid (T_8.out.below hb9)
  clear T_8
  clear hb9 HS8
  clear x13 x14 x15 x16
  go_wp2_with fail
  refine (HAW.out _).mono ?_
  rintro e w10 ⟨rfl, hb10⟩
  have HS10 := Lib.hid (HS9.out.call hb10)
  have Q_10 := Lib.hid (Q_9.out.below hb10)
  clear Q_9
  have T_10 := Lib.hid (T_9.out.below hb10)
  clear T_9
  clear hb10 HS9
  go_wp2
  go_ret
  have HS11 := Lib.hid HS10.out
  exact ⟨rfl, HS11.out.below⟩
end Go.Proofs.YtcllocdhbicpkaaGreatDoor
