/-
Part 49 of the base.
-/
import Derived.Test.YtgdhpghfojccaaaGreatDoorRd35
import Derived.Test.YtgdhpghfojccaaaGreatDoorRd47
set_option maxRecDepth 100000
set_option maxHeartbeats 4000000
namespace Go.Proofs.YtgdhpghfojccaaaGreatDoor
open Go.RowKit
theorem c4s {F : Nat -> Int} {i : Nat} (h : ∀ x, x < i -> F x = -1) : ∀ x, x < i + 1 -> putA F i (-1) x = -1 := fun x hx => by
 unfold putA
 by_cases e : x = i
 ·rw [if_pos e]
 rw [if_neg e]; exact h x (by omega)
theorem a9u (v1 : Value) (ts : List Duo) (v2 : Value) (xs : List Qua) (w : World) (h1 : Duos w v1 ts) (k1 : ∀ t ∈ ts, t.ok) (h2 : Quas w v2 xs) (k2 : ∀ t ∈ xs, t.ok) : Calls Tryz.prog 5 #[v1, v2] w fun e w' => e = .returned (.bool true) /\ Below w.heap.size w w' := by
 have dN := fun W (hb : Below w.heap.size w W) => c2h v1 ts W (h1.below hb) k1
 have dL := fun W (hb : Below w.heap.size w W) => b8h v2 xs W (h2.below hb) k2
 have hF := c5r k1 k2
 have dA := fun W => b9p W
 obtain ⟨A1, c1, rfl, _, _⟩ := Slc.slice h1
 obtain ⟨A2, c2, rfl, _, _⟩ := Slc.slice h2
 have hcl := b8a ts
 have hll := b3g xs
 generalize a6r ts = cl at *
 have hcam := c5m k2
 generalize a2u xs = l at *
 have dC := fun a b W (ha : NmdL W a cl) (hb : ClsL W b l) => a4h a b cl l W ha hb hF
 have DC := zh dC
 have DN := zh dN
 have DL := zh dL
 have DA := zh dA
 have LC := zh hcl
 have LL := zh hll
 have HFL := zh (fun c hc => (hF.cls c hc).2.2.1)
 have HNA := zh (fun c hc => (hF.nmd c hc).2)
 have HCM := zh hcam
 have hmk := b2j cl.length (by omega)
 clear hcam
 clear h1 k1 h2 k2 dN dL hF dA dC hcl hll
 go_enter Tryz.func5, Tryz.ntmps5
 have HS := zh (St.start w)
 go_wp2_with fail
 refine (DN.out _ HS.out.below).mono ?_
 rintro e w2 ⟨vn, rfl, hN, hb2⟩
 obtain ⟨An, cn, rfl, _, _⟩ := Slc.slice hN
 have HS2 := zh (HS.out.call hb2)
 have N_2 := zh hN
 clear hN
 clear hb2 HS
 go_wp2_with fail
 refine (DL.out _ HS2.out.below).mono ?_
 rintro e w3 ⟨vl, rfl, hL, hb3⟩
 obtain ⟨Al, dn, rfl, _, _⟩ := ClsL.slice hL
 have HS3 := zh (HS2.out.call hb3)
 have N_3 := zh (N_2.out.below hb3)
 clear N_2
 have L_3 := zh hL
 clear hL
 clear hb3 HS2
 go_wp2_with fail
 refine (((DC.out _ _ _ N_3.out L_3.out).mono fun _ _ h => h.open)).mono ?_
 rintro e w4 ⟨Ap, cp, Bp, dp, Rp, Gp, ip, ep, rfl, hPp, hCp, hb4⟩
 generalize hnR : Rp.length = nR at *
 have HNR := zh hnR
 clear hnR
 have HCp := zh hCp
 clear hCp
 have HS4 := zh (HS3.out.call hb4)
 obtain ⟨q, hq⟩ : ∃ q, q = (ep != 0) := ⟨_, rfl⟩
 have hq1 : (ep != 0) = q := hq.symm
 have HEQ := zh hq1
 clear hq
 have N_4 := zh (N_3.out.below hb4)
 clear N_3
 have L_4 := zh (L_3.out.below hb4)
 clear L_3
 have Pp_4 := zh hPp
 clear hPp
 clear hb4 HS3
 go_upto_if 35 with fail
 cases q
 ·have he0 : ep = 0 := by have h0 := HEQ.out; rwa [bne_eq_false_iff_eq] at h0
  subst he0
  obtain ⟨hck, _, hO, hR, hA⟩ := (HCp.out).okay
  have hrl : nR = cl.length := by rw [<- HNR.out]; exact hR.1
  subst hrl
  have HOK := zh (est_ok hck hO hR hA LC.out HNA.out HCM.out)
  have HPU : Hid (PU Gp cl.length) := zh (by obtain ⟨rb, cn, lev, h1, h2, h3, rfl⟩ := hA; exact b5e h1 h2 (fun _ _ h => h.lt) (a7j cl l))
  have HO := zh hO
  have HA := zh hA
  clear hO hR HEQ hck hA
  go_wp2_with fail
  have HS5 := zh (St.alloc (HS4.out) #[.slice Ap cl.length cp, .slice Bp Gp.length dp] 29 (w4.heap.size) (by simp))
  refine (b5s _ _ cl l _ (N_4.out.below (Ext.alloc (Below.refl w4.heap.size w4) (Obj.cells #[.slice Ap cl.length cp, .slice Bp Gp.length dp] 29))) (L_4.out.below (Ext.alloc (Below.refl w4.heap.size w4) (Obj.cells #[.slice Ap cl.length cp, .slice Bp Gp.length dp] 29))) ⟨HO.out, HFL.out⟩ (by have := LC.out; omega) (by have := LL.out; omega)).mono ?_
  rintro e w6 ⟨vm, M, rfl, hM, hMr, hb6⟩
  obtain ⟨Am, cm, rfl, _, _⟩ := MatB.slice hM
  have HMR := zh hMr
  clear hMr
  have HS6 := zh (HS5.out.call hb6)
  have N_6 := zh (N_4.out.below (Ext.trans (Ext.alloc (Below.refl w4.heap.size w4) (Obj.cells #[.slice Ap cl.length cp, .slice Bp Gp.length dp] 29)) hb6))
  clear N_4
  have L_6 := zh (L_4.out.below (Ext.trans (Ext.alloc (Below.refl w4.heap.size w4) (Obj.cells #[.slice Ap cl.length cp, .slice Bp Gp.length dp] 29)) hb6))
  clear L_4
  have Pp_6 := zh (Pp_4.out.below (Ext.trans (Ext.alloc (Below.refl w4.heap.size w4) (Obj.cells #[.slice Ap cl.length cp, .slice Bp Gp.length dp] 29)) hb6))
  clear Pp_4
  have M_6 := zh hM
  clear hM
  clear hb6 HS4 HS5
  have HP7 := zh (fun (W : World) (hb : Below w6.heap.size w6 W) (j : Nat) (v : Value) (hv : (#[.slice Ap cl.length cp, .slice Bp Gp.length dp] : Array Value)[j]? = some v) => ((HS6.out.blk 0 rfl).below hb (HS6.out.blk 0 rfl).lt).cell j v hv)
  have HP7L := zh (HS6.out.lt 0 rfl)
  have HB0 := zh HS6.out.below
  have HT := zh (St.start w6)
  clear HS6
  go_wp2
  have HT7 : Hid (St w6 [⟨w6.heap.size + 1, (rowE (.int .i64) cl.length (fun _ => 0)), 3⟩, ⟨w6.heap.size, (rowE (.int .i64) cl.length (fun _ => 0)), 3⟩] _) := zh (St.alloc ((St.alloc (HT.out) (rowE (.int .i64) cl.length (fun _ => 0)) 3 (w6.heap.size) (by simp))) (rowE (.int .i64) cl.length (fun _ => 0)) 3 (w6.heap.size + 1) (by simp))
  go_loopw [60] (fun i_ wr => ∃ (i : Nat) (F : Nat -> Int), i <= cl.length /\ i_ = .int .i64 i /\ Hid (∀ x, x < i -> F x = -1) /\ Hid (St w6 [⟨w6.heap.size + 1, rowE (.int .i64) cl.length (fun _ => 0), 3⟩, ⟨w6.heap.size, rowE (.int .i64) cl.length (F), 3⟩] wr)) (fun i_ _ => cl.length - (intOf i_).toNat)
  case atStart => exact ⟨0, fun _ => 0, Nat.zero_le _, rfl, fun x hx => absurd hx (Nat.not_lt_zero _), HT7.out⟩
  case round =>
   clear HT7 HT
   obtain ⟨i, F, hi, rfl, HI, HS⟩ := hrel
   by_cases hin : i < cl.length
   ·have e0 : (0 : Int) <= ((i : Nat) : Int) := by omega
    have e1 : ((i : Nat) : Int) < (cl.length : Int) := by omega
    have e2 : decide (((i : Nat) : Int) < (cl.length : Int)) = true := decide_eq_true e1
    have e5 : IntKind.i64.wrap ((i : Int) + 1) = ((i + 1 : Nat) : Int) := by have := LC.out; rw [IntWalk.i64_in _ (by omega)]; rfl
    have x1 := HS.out.cellE 1 rfl hin
    have x2 := HS.out.frozen 1 rfl i
    have x3 := HS.out.ne 1 0 rfl rfl (by decide)
    have x4 := HS.out.ne 0 1 rfl rfl (by decide)
    go_wp2
    have HS8 : Hid (St w6 [⟨w6.heap.size + 1, (rowE (.int .i64) cl.length fun _ => 0), 3⟩, ⟨w6.heap.size, (rowE (.int .i64) cl.length (putA F i (-1))), 3⟩] _) := zh (St.setE (HS.out) 1 rfl i ((-1)))
    go_roundw
    case rel => exact ⟨i + 1, putA F i (-1), by omega, by go_num, c4s HI.out, HS8.out⟩
    case measure => simp [intOf]; omega
   have hie : i = cl.length := by omega
   rw [hie] at HI ⊢
   have e2 : decide (((cl.length : Nat) : Int) < (cl.length : Int)) = false := decide_eq_false (by omega)
   clear hie hi hin
   have x1 := HP7.out _ HS.out.below 1 _ rfl
   go_wp2
   have HPI := zh (PInv.start Gp cl.length (G := fun _ => 0) HI.out)
   obtain ⟨_, _, _, lg1, lg2⟩ := NstL.slice Pp_6.out.2
   have LG := zh (Nat.le_trans lg1 lg2)
   clear lg1 lg2 HI e2
   go_loopw [70] (fun k_ wr => ∃ (k : Nat) (F G : Nat -> Int), k <= Gp.length /\ k_ = .int .i64 k /\ Hid (PInv Gp cl.length k 0 0 F G) /\ Hid (St w6 [⟨w6.heap.size + 1, rowE (.int .i64) cl.length (G), 3⟩, ⟨w6.heap.size, rowE (.int .i64) cl.length (F), 3⟩] wr)) (fun k_ _ => Gp.length - (intOf k_).toNat)
   case atStart => exact ⟨0, _, _, Nat.zero_le _, rfl, HPI.out, HS.out⟩
   case round =>
    clear HS HPI
    clear F
    obtain ⟨k, F, G, hk, rfl, HI, HS⟩ := hrel
    obtain ⟨wo, hwo⟩ : ∃ wo : World, wo = wr := ⟨_, rfl⟩
    subst hwo
    by_cases hkn : k < Gp.length
    ·obtain ⟨b1, o1, u, T, rfl, hb1, hqT, hT, hx1⟩ := NstL.at_ Pp_6.out.2 hkn
     obtain ⟨A3, c3, rfl, lt1, lt2⟩ := NstL.slice hT
     have HT3 := zh hT
     have HX1 := zh hx1
     have HQT := zh hqT
     have LT3 := zh (Nat.le_trans lt1 lt2)
     have e0 : (0 : Int) <= ((k : Nat) : Int) := by omega
     have e1 : ((k : Nat) : Int) < (Gp.length : Int) := by omega
     have e2 : decide (((k : Nat) : Int) < (Gp.length : Int)) = true := decide_eq_true e1
     have e5 : IntKind.i64.wrap ((k : Int) + 1) = ((k + 1 : Nat) : Int) := by have := LG.out; rw [IntWalk.i64_in _ (by omega)]; rfl
     clear hT hx1 hqT lt1 lt2
     have x2 : b1 < wo.heap.size := Nat.lt_of_lt_of_le hb1 HS.out.below.size
     have x3 : ¬ b1 = wo.heap.size := by omega
     have x4 := HX1.out _ HS.out.below 0 _ rfl
     rw [Nat.add_zero] at x4
     go_wp2
     have HS8 := zh (St.alloc (HS.out) #[.slice A3 T.length c3] 45 (wo.heap.size) (by simp))
     have HI1 : Hid (PInv Gp cl.length k 0 0 F G) := HI
     go_loopw [78] (fun t_ wr => ∃ (t : Nat) (F G : Nat -> Int), t <= T.length /\ t_ = .int .i64 t /\ Hid (PInv Gp cl.length k t 0 F G) /\ Hid (St w6 [⟨wo.heap.size, #[.slice A3 T.length c3], 45⟩, ⟨w6.heap.size + 1, rowE (.int .i64) cl.length (G), 3⟩, ⟨w6.heap.size, rowE (.int .i64) cl.length (F), 3⟩] wr)) (fun t_ _ => T.length - (intOf t_).toNat)
     case atStart => exact ⟨0, F, G, Nat.zero_le _, rfl, HI.out, HS8.out⟩
     case round =>
      clear HS8 HI HI1 HS
      clear F G
      obtain ⟨t, F, G, ht, rfl, HI, HS⟩ := hrel
      by_cases htn : t < T.length
      ·obtain ⟨b2, o2, u, P, rfl, hb2, hqP, hP, hx2⟩ := NstL.at_ HT3.out htn
       obtain ⟨A4, c4, rfl, lp1, lp2⟩ := Slc.slice hP
       have HP4 := zh hP
       have HX2 := zh hx2
       have HQP := zh hqP
       have LP := zh (Nat.le_trans lp1 lp2)
       have f0 : (0 : Int) <= ((t : Nat) : Int) := by omega
       have f1 : ((t : Nat) : Int) < (T.length : Int) := by omega
       have f2 : decide (((t : Nat) : Int) < (T.length : Int)) = true := decide_eq_true f1
       have f5 : IntKind.i64.wrap ((t : Int) + 1) = ((t + 1 : Nat) : Int) := by have := LT3.out; rw [IntWalk.i64_in _ (by omega)]; rfl
       clear hP hx2 hqP lp1 lp2
       have x5 := HX2.out _ HS.out.below 0 _ rfl
       rw [Nat.add_zero] at x5
       go_wp2
       go_loopw [85] (fun q_ wr => ∃ (q : Nat) (F G : Nat -> Int), q <= P.length /\ q_ = .int .i64 q /\ Hid (PInv Gp cl.length k t q F G) /\ Hid (St w6 [⟨wo.heap.size, #[.slice (some ⟨b2, o2, none⟩) T.length c3], 45⟩, ⟨w6.heap.size + 1, rowE (.int .i64) cl.length (G), 3⟩, ⟨w6.heap.size, rowE (.int .i64) cl.length (F), 3⟩] wr)) (fun q_ _ => P.length - (intOf q_).toNat)
       case atStart => exact ⟨0, F, G, Nat.zero_le _, rfl, HI.out, HS.out⟩
       case round =>
        clear HS HI
        clear F G
        obtain ⟨q, F, G, hq, rfl, HI, HS⟩ := hrel
        obtain ⟨wp, hwp⟩ : ∃ wp : World, wp = wr := ⟨_, rfl⟩
        subst hwp
        by_cases hqn : q < P.length
        ·obtain ⟨b3, o3, x, rfl, hb3, hqx, hx3⟩ := Slc.at_ HP4.out hqn
         have hpl : Plc Gp k t q x := ⟨T, P, HQT.out, HQP.out, hqx⟩
         obtain ⟨i, hin, hxi⟩ := HPU.out.1 k t q x hpl
         obtain ⟨hFi, hPI⟩ := PInv.put HPU.out HI.out hpl hxi hin
         have HPI := zh hPI
         unfold Prt.enc at hx3
         rw [hxi] at hx3
         have HX3 := zh hx3
         have HIN := zh hin
         have HFI := zh hFi
         have g0 : (0 : Int) <= ((i : Nat) : Int) := by omega
         have g1 : ((i : Nat) : Int) < (cl.length : Int) := by omega
         have g2 : decide (((i : Nat) : Int) < 0) = false := decide_eq_false (by omega)
         have g3 : decide ((cl.length : Int) <= ((i : Nat) : Int)) = false := decide_eq_false (by omega)
         have g3' : decide (cl.length <= i) = false := decide_eq_false (by omega)
         have j0 : (0 : Int) <= ((q : Nat) : Int) := by omega
         have j1 : ((q : Nat) : Int) < (P.length : Int) := by omega
         have j2 : decide (((q : Nat) : Int) < (P.length : Int)) = true := decide_eq_true j1
         have j5 : IntKind.i64.wrap ((q : Int) + 1) = ((q + 1 : Nat) : Int) := by have := LP.out; rw [IntWalk.i64_in _ (by omega)]; rfl
         clear hx3 hqx hpl hPI hxi hFi
         have g4 : decide ((0 : Int) <= -1) = false := rfl
         have x6 := HS.out.cellE 2 rfl HIN.out
         rw [HFI.out] at x6
         have x7 := HS.out.lt 2 rfl
         have x8 : ¬ w6.heap.size = wp.heap.size := by omega
         have x9 : ¬ wp.heap.size = w6.heap.size := by omega
         have x10 : b3 < wp.heap.size := Nat.lt_of_lt_of_le hb3 HS.out.below.size
         have x11 : ¬ b3 = wp.heap.size := by omega
         obtain ⟨x12, x13, x14⟩ := kE0 (HX3.out _ HS.out.below) rfl rfl rfl
         have x15 := HX3.out _ HS.out.below 3 _ rfl
         have x16 := HX3.out _ HS.out.below 4 _ rfl
         go_wp2
         clear x6 x7 x8 x9 x10 x11 x12 x13 x14 x15 x16
         refine b1p (R := [⟨wp.heap.size, #[.int .i64 (i : Nat), .bool x.capped, .bool x.cap.n, .string (bs x.cap.a), .string (bs x.cap.b)], 50⟩, ⟨wo.heap.size, #[.slice (some ⟨b2, o2, none⟩) T.length c3], 45⟩, ⟨w6.heap.size + 1, (rowE (.int .i64) cl.length G), 3⟩, ⟨w6.heap.size, (rowE (.int .i64) cl.length F), 3⟩]) (St.alloc (HS.out) #[.int .i64 (i : Nat), .bool x.capped, .bool x.cap.n, .string (bs x.cap.a), .string (bs x.cap.b)] 50 (wp.heap.size) (by simp)) ?_
         intro wg9 hb
         have HS9 := zh hb
         clear hb HS
         refine b0h 11 [9] [.slice (some ⟨w6.heap.size, 0, none⟩) cl.length cl.length, .pointer (some ⟨wp.heap.size, 0, none⟩), .int .i64 (i : Nat), .slice (some ⟨w6.heap.size + 1, 0, none⟩) cl.length cl.length, .pointer (some ⟨wp.heap.size, 0, none⟩), .int .i64 (i : Nat), .int .i64 (k : Nat), .int .i64 (t : Nat), .pointer (some ⟨w6.heap.size, i, none⟩), undef, .pointer (some ⟨w6.heap.size + 1, i, none⟩)] (fun ks wv _ => Hid (St w6 [⟨wp.heap.size, #[.int .i64 (i : Nat), .bool x.capped, .bool x.cap.n, .string (bs x.cap.a), .string (bs x.cap.b)], 50⟩, ⟨wo.heap.size, #[.slice (some ⟨b2, o2, none⟩) T.length c3], 45⟩, ⟨w6.heap.size + 1, (rowE (.int .i64) cl.length G), 3⟩, ⟨w6.heap.size, (rowE (.int .i64) cl.length (([F, (putA F i (k : Nat))] : List (Nat -> Int)).getD ks (fun _ => 0))), 3⟩] wv)) rfl (by kernel_rfl) (by kernel_rfl) (by kernel_rfl) (by kernel_rfl) (by decide) (by decide) (zh HS9.out.drew) ?_ ?_
         refine ⟨?_, ?_, ?_, ?_, ?_, ?_, ?_, ?_, ?_, ?_, ?_, trivial⟩
         ·intro xx af wv ks hks hI hev hev0 hd; have e11 : af.tmps[11]?.getD undef = .slice (some ⟨w6.heap.size, 0, none⟩) cl.length cl.length := hev0 11 rfl; clear hev hev0 hd hI; rw [if_neg (by decide)]; go_wp2; exact StepW.mk _
         ·intro xx af wv ks hks hI hev hev0 hd; have e19 : af.tmps[19]?.getD undef = .pointer (some ⟨wp.heap.size, 0, none⟩) := hev0 19 rfl; clear hev hev0 hd hI; rw [if_neg (by decide)]; go_wp2; exact StepW.mk _
         ·intro xx af wv ks hks hI hev hev0 hd; have e108 := (hev 1 _ 108 rfl rfl).trans (hd ⟨1, .data⟩ (by simp) rfl (by decide)); clear hev hev0 hd; have y0 := hI.out.cell 0 rfl 0 rfl; clear hI; rw [if_neg (by decide)]; go_wp2; exact StepW.mk _
         ·intro xx af wv ks hks hI hev hev0 hd; have e12 : af.tmps[12]?.getD undef = .slice (some ⟨w6.heap.size + 1, 0, none⟩) cl.length cl.length := hev0 12 rfl; clear hev hev0 hd hI; rw [if_neg (by decide)]; go_wp2; exact StepW.mk _
         ·intro xx af wv ks hks hI hev hev0 hd; have e19 : af.tmps[19]?.getD undef = .pointer (some ⟨wp.heap.size, 0, none⟩) := hev0 19 rfl; clear hev hev0 hd hI; rw [if_neg (by decide)]; go_wp2; exact StepW.mk _
         ·intro xx af wv ks hks hI hev hev0 hd; have e111 := (hev 4 _ 111 rfl rfl).trans (hd ⟨4, .data⟩ (by simp) rfl (by decide)); clear hev hev0 hd; have y0 := hI.out.cell 0 rfl 0 rfl; clear hI; rw [if_neg (by decide)]; go_wp2; exact StepW.mk _
         ·intro xx af wv ks hks hI hev hev0 hd; have e14 : af.tmps[14]?.getD undef = .int .i64 (k : Nat) := hev0 14 rfl; clear hev hev0 hd hI; rw [if_neg (by decide)]; go_wp2; exact StepW.mk _
         ·intro xx af wv ks hks hI hev hev0 hd; have e16 : af.tmps[16]?.getD undef = .int .i64 (t : Nat) := hev0 16 rfl; clear hev hev0 hd hI; rw [if_neg (by decide)]; go_wp2; exact StepW.mk _
         ·intro xx af wv ks hks hI hev hev0 hd; have e107 := (hev 0 _ 107 rfl rfl).trans (hd ⟨0, .data⟩ (by simp) rfl (by decide)); have e109 := (hev 2 _ 109 rfl rfl).trans (hd ⟨2, .data⟩ (by simp) rfl (by decide)); clear hev hev0 hd hI; rw [if_neg (by decide)]; go_wp2; exact StepW.mk _
         ·intro xx af wv ks hks hI hev hev0 hd; have e115 := (hev 8 _ 115 rfl rfl).trans (hd ⟨8, .data⟩ (by simp) rfl (by decide)); have e113 := (hev 6 _ 113 rfl rfl).trans (hd ⟨6, .data⟩ (by simp) rfl (by decide)); clear hev hev0 hd; rw [if_pos (by decide)]; intro hk0; obtain rfl : ks = 0 := hk0; have yc0 := hI.out.cellE 3 rfl HIN.out; have yf0 := hI.out.frozen 3 rfl i; go_wp2; exact StepI.mk (zh (St.setE (hI.out) 3 rfl i ((k : Nat))))
         ·intro xx af wv ks hks hI hev hev0 hd; have e110 := (hev 3 _ 110 rfl rfl).trans (hd ⟨3, .data⟩ (by simp) rfl (by decide)); have e112 := (hev 5 _ 112 rfl rfl).trans (hd ⟨5, .data⟩ (by simp) rfl (by decide)); clear hev hev0 hd hI; rw [if_neg (by decide)]; go_wp2; exact StepW.mk _
         intro xx w11 hI hv
         simp only [List.take, List.drop, a0h, Act.put]
         simp only [show xx 0 = _ from hv 0 (by decide) (by decide), show xx 1 = _ from hv 1 (by decide) (by decide), show xx 2 = _ from hv 2 (by decide) (by decide), show xx 3 = _ from hv 3 (by decide) (by decide), show xx 4 = _ from hv 4 (by decide) (by decide), show xx 5 = _ from hv 5 (by decide) (by decide), show xx 6 = _ from hv 6 (by decide) (by decide), show xx 7 = _ from hv 7 (by decide) (by decide), show xx 8 = _ from hv 8 (by decide) (by decide), show xx 10 = _ from hv 10 (by decide) (by decide)]
         have HS11 : Hid (St w6 [⟨wp.heap.size, #[.int .i64 (i : Nat), .bool x.capped, .bool x.cap.n, .string (bs x.cap.a), .string (bs x.cap.b)], 50⟩, ⟨wo.heap.size, #[.slice (some ⟨b2, o2, none⟩) T.length c3], 45⟩, ⟨w6.heap.size + 1, (rowE (.int .i64) cl.length G), 3⟩, ⟨w6.heap.size, (rowE (.int .i64) cl.length (putA F i (k : Nat))), 3⟩] w11) := hI
         clear hv hI HS9
         have x17 := HS11.out.cellE 2 rfl HIN.out
         have x18 := HS11.out.frozen 2 rfl i
         have x19 := HS11.out.ne 2 0 rfl rfl (by decide)
         have x20 := HS11.out.ne 0 2 rfl rfl (by decide)
         have x21 := HS11.out.ne 2 1 rfl rfl (by decide)
         have x22 := HS11.out.ne 1 2 rfl rfl (by decide)
         have x23 := HS11.out.ne 2 3 rfl rfl (by decide)
         have x24 := HS11.out.ne 3 2 rfl rfl (by decide)
         go_wp2
         have HS12 : Hid (St w6 [⟨wp.heap.size, #[.int .i64 (i : Nat), .bool x.capped, .bool x.cap.n, .string (bs x.cap.a), .string (bs x.cap.b)], 50⟩, ⟨wo.heap.size, #[.slice (some ⟨b2, o2, none⟩) T.length c3], 45⟩, ⟨w6.heap.size + 1, (rowE (.int .i64) cl.length (putA G i (t : Nat))), 3⟩, ⟨w6.heap.size, (rowE (.int .i64) cl.length (putA F i (k : Nat))), 3⟩] _) := zh (St.setE (HS11.out) 2 rfl i ((t : Nat)))
         go_roundw
         case rel => exact ⟨q + 1, _, _, by omega, by go_num, HPI.out, HS12.out.sub (List.sublist_cons_self ..)⟩
         case measure => simp [intOf]; omega
        have hqe : q = P.length := by omega
        rw [hqe] at HI ⊢
        have j2 : decide (((P.length : Nat) : Int) < (P.length : Int)) = false := decide_eq_false (by omega)
        clear hqe hq hqn
        go_wp2
        go_roundw
        case rel => exact ⟨t + 1, F, G, by omega, by go_num, PInv.tier HQT.out HQP.out HI.out, HS.out⟩
        case measure => simp [intOf]; omega
      have hte : t = T.length := by omega
      rw [hte] at HI ⊢
      have f2 : decide (((T.length : Nat) : Int) < (T.length : Int)) = false := decide_eq_false (by omega)
      clear hte ht htn
      go_wp2
      go_roundw
      case rel => exact ⟨k + 1, F, G, by omega, by go_num, PInv.agr HQT.out HI.out, HS.out.sub (List.sublist_cons_self ..)⟩
      case measure => simp [intOf]; omega
    have hke : k = Gp.length := by omega
    rw [hke] at HI ⊢
    have e2 : decide (((Gp.length : Nat) : Int) < (Gp.length : Int)) = false := decide_eq_false (by omega)
    clear hke hk hkn
    go_wp2_with fail
    refine (b1z _ cl.length M (Rel cl l l.length) _ (M_6.out.below HS.out.below) HMR.out (fun _ _ h => h.lt) (by have := LC.out; omega)).mono ?_
    rintro e w8 ⟨gc, c, rfl, hBc, hcm, hcs, hge, hb8⟩
    have hst8 := HS.out.fill hb8 hge hBc
    have HFN := zh (fun i j hi hj => c2f (i := i) (j := j) HA.out HO.out HI.out hcm hcs hi hj)
    clear hb8 hge hBc hcm hcs
    have HS8 : Hid (St w6 [⟨gc, (rowE (.int .i64) cl.length c), 3⟩, ⟨w6.heap.size + 1, (rowE (.int .i64) cl.length G), 3⟩, ⟨w6.heap.size, (rowE (.int .i64) cl.length F), 3⟩] w8) := zh hst8
    clear hst8 HS
    go_wp2
    go_loopw [124] (fun i_ wr => ∃ i : Nat, i <= cl.length /\ i_ = .int .i64 i /\ Hid (St w6 [⟨gc, rowE (.int .i64) cl.length (c), 3⟩, ⟨w6.heap.size + 1, rowE (.int .i64) cl.length (G), 3⟩, ⟨w6.heap.size, rowE (.int .i64) cl.length (F), 3⟩] wr)) (fun i_ _ => cl.length - (intOf i_).toNat)
    case atStart => exact ⟨0, Nat.zero_le _, rfl, HS8.out⟩
    case round =>
     clear HS8 e2 HI
     obtain ⟨i, hi, rfl, HS⟩ := hrel
     by_cases hin : i < cl.length
     ·have e0 : (0 : Int) <= ((i : Nat) : Int) := by omega
      have e1 : ((i : Nat) : Int) < (cl.length : Int) := by omega
      have e2 : decide (((i : Nat) : Int) < (cl.length : Int)) = true := decide_eq_true e1
      have e5 : IntKind.i64.wrap ((i : Int) + 1) = ((i + 1 : Nat) : Int) := by have := LC.out; rw [IntWalk.i64_in _ (by omega)]; rfl
      go_wp2
      go_loopw [129] (fun j_ wr => ∃ j : Nat, j <= cl.length /\ j_ = .int .i64 j /\ Hid (St w6 [⟨gc, rowE (.int .i64) cl.length (c), 3⟩, ⟨w6.heap.size + 1, rowE (.int .i64) cl.length (G), 3⟩, ⟨w6.heap.size, rowE (.int .i64) cl.length (F), 3⟩] wr)) (fun j_ _ => cl.length - (intOf j_).toNat)
      case atStart => exact ⟨0, Nat.zero_le _, rfl, HS.out⟩
      case round =>
       clear HS
       obtain ⟨j, hj, rfl, HV⟩ := hrel
       by_cases hjn : j < cl.length
       ·obtain ⟨b0, o0, gr, rfl, hb0, hgr, h1, h2⟩ := M_6.out.at_ hin
        have HX := zh (a3h h1)
        have hy := a3h (fun w' hw => h2 w' hw j hjn)
        obtain ⟨hrel, hiff⟩ := HFN.out i j hin hjn
        have hii := (HFN.out i i hin hin).2
        have hmr := (HMR.out i j hin hjn).1
        obtain ⟨fi, hfi⟩ : ∃ y, y = F i := ⟨_, rfl⟩
        obtain ⟨fj, hfj⟩ : ∃ y, y = F j := ⟨_, rfl⟩
        obtain ⟨gi, hgi⟩ : ∃ y, y = G i := ⟨_, rfl⟩
        obtain ⟨gj, hgj⟩ : ∃ y, y = G j := ⟨_, rfl⟩
        obtain ⟨ci, hci⟩ : ∃ y, y = c i := ⟨_, rfl⟩
        obtain ⟨cj, hcj⟩ : ∃ y, y = c j := ⟨_, rfl⟩
        rw [<- hfi, <- hci] at hii
        rw [<- hfi, <- hfj, <- hci, <- hcj] at hiff
        rw [<- hfi, <- hfj, <- hgi, <- hgj] at hrel
        have HFI : Hid (F i = fi) := zh hfi.symm
        have HFJ : Hid (F j = fj) := zh hfj.symm
        have HGI : Hid (G i = gi) := zh hgi.symm
        have HGJ : Hid (G j = gj) := zh hgj.symm
        have HCI : Hid (c i = ci) := zh hci.symm
        have HCJ : Hid (c j = cj) := zh hcj.symm
        have g0 : (0 : Int) <= ((j : Nat) : Int) := by omega
        have g1 : ((j : Nat) : Int) < (cl.length : Int) := by omega
        have g2 : decide (((j : Nat) : Int) < (cl.length : Int)) = true := decide_eq_true g1
        have g5 : IntKind.i64.wrap ((j : Int) + 1) = ((j + 1 : Nat) : Int) := by have := LC.out; rw [IntWalk.i64_in _ (by omega)]; rfl
        clear h1 h2 hfi hfj hgi hgj hci hcj
        have HJN := zh hjn
        have HIN := zh hin
        cases hm : M i j
        ·by_cases hf0 : 0 <= fi
         ·by_cases hfe : fi = fj
          ·rw [hm] at hy
           have HY := zh hy
           have n0 : decide (fi < 0) = false := decide_eq_false (by omega)
           have n1 : decide ((0 : Int) <= fi) = true := decide_eq_true (by omega)
           have n2 : decide ((0 : Int) <= ci) = true := decide_eq_true (by omega)
           have n3 : (fi == fj) = true := beq_iff_eq.2 (by omega)
           have n4 : (ci == cj) = true := beq_iff_eq.2 (by omega)
           clear hf0 hfe
           clear hy hrel hiff hii hmr hm
           go_wp2
           refine a0g 35 [.slice (some ⟨b0, o0, none⟩) cl.length cm, .int .i64 (i : Nat), .pointer (some ⟨b0, o0 + i, none⟩), .slice (some ⟨gr, 0, none⟩) cl.length cl.length, .int .i64 (j : Nat), .pointer (some ⟨gr, j, none⟩), .bool false, .bool false, undef, undef, undef, undef, undef, undef, undef, undef, undef, undef, undef, undef, undef, undef, undef, undef, undef, undef, undef, undef, undef, undef, undef, undef, undef, undef, undef] rfl (by kernel_rfl) (by kernel_rfl) (by kernel_rfl) ?_ ?_
           refine ⟨?_, ?_, ?_, ?_, ?_, ?_, ?_, ?_, ?_, ?_, ?_, ?_, ?_, ?_, ?_, ?_, ?_, ?_, ?_, ?_, ?_, ?_, ?_, ?_, ?_, ?_, ?_, ?_, ?_, ?_, ?_, ?_, ?_, ?_, ?_, trivial⟩
           ·intro xx af wv hbx hev hev0 hd; have e10 : af.tmps[10]?.getD undef = .slice (some ⟨b0, o0, none⟩) cl.length cm := hev0 10 rfl; clear hev hev0 hd; go_wp2; exact sQ rfl
           ·intro xx af wv hbx hev hev0 hd; have e21 : af.tmps[21]?.getD undef = .int .i64 (i : Nat) := hev0 21 rfl; clear hev hev0 hd; go_wp2; exact sQ rfl
           ·intro xx af wv hbx hev hev0 hd; have e132 := (hev 0 _ 132 rfl rfl).trans (hd ⟨0, .data⟩ (by simp) rfl); have e133 := (hev 1 _ 133 rfl rfl).trans (hd ⟨1, .data⟩ (by simp) rfl); clear hev hev0 hd; go_wp2; exact sQ rfl
           ·intro xx af wv hbx hev hev0 hd; have e134 := (hev 2 _ 134 rfl rfl).trans (hd ⟨2, .data⟩ (by simp) rfl); clear hev hev0 hd; have hs1 := zh (HV.out.call hbx); have y0 := HX.out _ hs1.out.below 0 _ rfl; rw [Nat.add_zero] at y0; go_wp2; exact sQ rfl
           ·intro xx af wv hbx hev hev0 hd; have e22 : af.tmps[22]?.getD undef = .int .i64 (j : Nat) := hev0 22 rfl; clear hev hev0 hd; go_wp2; exact sQ rfl
           ·intro xx af wv hbx hev hev0 hd; have e135 := (hev 3 _ 135 rfl rfl).trans (hd ⟨3, .data⟩ (by simp) rfl); have e136 := (hev 4 _ 136 rfl rfl).trans (hd ⟨4, .data⟩ (by simp) rfl); clear hev hev0 hd; go_wp2; exact sQ rfl
           ·intro xx af wv hbx hev hev0 hd; have e137 := (hev 5 _ 137 rfl rfl).trans (hd ⟨5, .data⟩ (by simp) rfl); clear hev hev0 hd; have hs1 := zh (HV.out.call hbx); have y0 := HY.out _ hs1.out.below 0 _ rfl; rw [Nat.add_zero] at y0; go_wp2; exact sQ rfl
           ·intro xx af wv hbx hev hev0 hd; have e138 := (hev 6 _ 138 rfl rfl).trans (hd ⟨6, .data⟩ (by simp) rfl); clear hev hev0 hd; go_wp2; exact sQ rfl
           ·intro xx af wv hbx hev hev0 hd; have e139 := (hev 7 _ 139 rfl rfl).trans (hd ⟨7, .guard⟩ (by simp) rfl); have q139 := a0a e139; clear hev hev0 hd; go_wp2; exact sQ rfl
           ·intro xx af wv hbx hev hev0 hd; have e139 := (hev 7 _ 139 rfl rfl).trans (hd ⟨7, .guard⟩ (by simp) rfl); have q139 := a0a e139; clear hev hev0 hd; go_wp2; exact sQ rfl
           ·intro xx af wv hbx hev hev0 hd; have e139 := (hev 7 _ 139 rfl rfl).trans (hd ⟨7, .guard⟩ (by simp) rfl); have q139 := a0a e139; clear hev hev0 hd; go_wp2; exact sQ rfl
           ·intro xx af wv hbx hev hev0 hd; have e139 := (hev 7 _ 139 rfl rfl).trans (hd ⟨7, .guard⟩ (by simp) rfl); have q139 := a0a e139; clear hev hev0 hd; go_wp2; exact sQ rfl
           ·intro xx af wv hbx hev hev0 hd; have e139 := (hev 7 _ 139 rfl rfl).trans (hd ⟨7, .guard⟩ (by simp) rfl); have q139 := a0a e139; clear hev hev0 hd; go_wp2; exact sQ rfl
           ·intro xx af wv hbx hev hev0 hd; have e139 := (hev 7 _ 139 rfl rfl).trans (hd ⟨7, .chain⟩ (by simp) rfl); have q139 := a0a e139; clear hev hev0 hd; go_wp2; exact sQ rfl
           ·intro xx af wv hbx hev hev0 hd
            have e145 := (hev 13 _ 145 rfl rfl).trans (hd ⟨13, .guard⟩ (by simp) rfl)
            clear hev hev0 hd
            rcases a0c e145 with q145 | q145
            ·go_wp2
             exact sQ rfl
            go_wp2
            exact sQ rfl
           ·intro xx af wv hbx hev hev0 hd
            have e145 := (hev 13 _ 145 rfl rfl).trans (hd ⟨13, .guard⟩ (by simp) rfl)
            clear hev hev0 hd
            rcases a0c e145 with q145 | q145
            ·go_wp2
             exact sQ rfl
            go_wp2
            exact sQ rfl
           ·intro xx af wv hbx hev hev0 hd
            have e145 := (hev 13 _ 145 rfl rfl).trans (hd ⟨13, .guard⟩ (by simp) rfl)
            clear hev hev0 hd
            rcases a0c e145 with q145 | q145
            ·go_wp2
             exact sQ rfl
            go_wp2
            exact sQ rfl
           ·intro xx af wv hbx hev hev0 hd
            have e145 := (hev 13 _ 145 rfl rfl).trans (hd ⟨13, .guard⟩ (by simp) rfl)
            clear hev hev0 hd
            rcases a0c e145 with q145 | q145
            ·go_wp2
             exact sQ rfl
            go_wp2
            exact sQ rfl
           ·intro xx af wv hbx hev hev0 hd
            have e145 := (hev 13 _ 145 rfl rfl).trans (hd ⟨13, .guard⟩ (by simp) rfl)
            clear hev hev0 hd
            rcases a0c e145 with q145 | q145
            ·go_wp2
             exact sQ rfl
            go_wp2
            exact sQ rfl
           ·intro xx af wv hbx hev hev0 hd
            have e145 := (hev 13 _ 145 rfl rfl).trans (hd ⟨13, .guard⟩ (by simp) rfl)
            clear hev hev0 hd
            rcases a0c e145 with q145 | q145
            ·go_wp2
             exact sQ rfl
            go_wp2
            exact sQ rfl
           ·intro xx af wv hbx hev hev0 hd
            have e145 := (hev 13 _ 145 rfl rfl).trans (hd ⟨13, .guard⟩ (by simp) rfl)
            clear hev hev0 hd
            rcases a0c e145 with q145 | q145
            ·go_wp2
             exact sQ rfl
            go_wp2
            exact sQ rfl
           ·intro xx af wv hbx hev hev0 hd
            have e145 := (hev 13 _ 145 rfl rfl).trans (hd ⟨13, .guard⟩ (by simp) rfl)
            clear hev hev0 hd
            rcases a0c e145 with q145 | q145
            ·go_wp2
             exact sQ rfl
            go_wp2
            exact sQ rfl
           ·intro xx af wv hbx hev hev0 hd
            have e145 := (hev 13 _ 145 rfl rfl).trans (hd ⟨13, .guard⟩ (by simp) rfl)
            clear hev hev0 hd
            rcases a0c e145 with q145 | q145
            ·go_wp2
             exact sQ rfl
            go_wp2
            exact sQ rfl
           ·intro xx af wv hbx hev hev0 hd; have e139 := (hev 7 _ 139 rfl rfl).trans (hd ⟨7, .guard⟩ (by simp) rfl); have q139 := a0a e139; clear hev hev0 hd; go_wp2; exact sQ rfl
           ·intro xx af wv hbx hev hev0 hd; have e139 := (hev 7 _ 139 rfl rfl).trans (hd ⟨7, .guard⟩ (by simp) rfl); have q139 := a0a e139; clear hev hev0 hd; go_wp2; exact sQ rfl
           ·intro xx af wv hbx hev hev0 hd
            have e156 := (hev 24 _ 156 rfl rfl).trans (hd ⟨24, .guard⟩ (by simp) rfl)
            clear hev hev0 hd
            rcases a0c e156 with q156 | q156
            ·go_wp2
             exact sQ rfl
            go_wp2
            exact sQ rfl
           ·intro xx af wv hbx hev hev0 hd
            have e156 := (hev 24 _ 156 rfl rfl).trans (hd ⟨24, .guard⟩ (by simp) rfl)
            clear hev hev0 hd
            rcases a0c e156 with q156 | q156
            ·go_wp2
             exact sQ rfl
            go_wp2
            exact sQ rfl
           ·intro xx af wv hbx hev hev0 hd
            have e156 := (hev 24 _ 156 rfl rfl).trans (hd ⟨24, .guard⟩ (by simp) rfl)
            clear hev hev0 hd
            rcases a0c e156 with q156 | q156
            ·go_wp2
             exact sQ rfl
            go_wp2
            exact sQ rfl
           ·intro xx af wv hbx hev hev0 hd
            have e156 := (hev 24 _ 156 rfl rfl).trans (hd ⟨24, .guard⟩ (by simp) rfl)
            clear hev hev0 hd
            rcases a0c e156 with q156 | q156
            ·go_wp2
             exact sQ rfl
            go_wp2
            exact sQ rfl
           ·intro xx af wv hbx hev hev0 hd
            have e156 := (hev 24 _ 156 rfl rfl).trans (hd ⟨24, .guard⟩ (by simp) rfl)
            clear hev hev0 hd
            rcases a0c e156 with q156 | q156
            ·go_wp2
             exact sQ rfl
            go_wp2
            exact sQ rfl
           ·intro xx af wv hbx hev hev0 hd
            have e156 := (hev 24 _ 156 rfl rfl).trans (hd ⟨24, .guard⟩ (by simp) rfl)
            clear hev hev0 hd
            rcases a0c e156 with q156 | q156
            ·go_wp2
             exact sQ rfl
            go_wp2
            exact sQ rfl
           ·intro xx af wv hbx hev hev0 hd
            have e156 := (hev 24 _ 156 rfl rfl).trans (hd ⟨24, .guard⟩ (by simp) rfl)
            clear hev hev0 hd
            rcases a0c e156 with q156 | q156
            ·go_wp2
             exact sQ rfl
            go_wp2
            exact sQ rfl
           ·intro xx af wv hbx hev hev0 hd
            have e156 := (hev 24 _ 156 rfl rfl).trans (hd ⟨24, .guard⟩ (by simp) rfl)
            clear hev hev0 hd
            rcases a0c e156 with q156 | q156
            ·go_wp2
             exact sQ rfl
            go_wp2
            exact sQ rfl
           ·intro xx af wv hbx hev hev0 hd
            have e156 := (hev 24 _ 156 rfl rfl).trans (hd ⟨24, .guard⟩ (by simp) rfl)
            clear hev hev0 hd
            rcases a0c e156 with q156 | q156
            ·go_wp2
             exact sQ rfl
            go_wp2
            exact sQ rfl
           ·intro xx af wv hbx hev hev0 hd; have e139 := (hev 7 _ 139 rfl rfl).trans (hd ⟨7, .guard⟩ (by simp) rfl); have q139 := a0a e139; clear hev hev0 hd; go_wp2; exact sQ rfl
           intro xx w9 hb9 hv
           simp only [List.take, List.drop, a0h, Act.put]
           simp only [show xx 0 = _ from hv 0 (by decide), show xx 1 = _ from hv 1 (by decide), show xx 2 = _ from hv 2 (by decide), show xx 3 = _ from hv 3 (by decide), show xx 4 = _ from hv 4 (by decide), show xx 5 = _ from hv 5 (by decide), show xx 6 = _ from hv 6 (by decide), show xx 7 = _ from hv 7 (by decide), show xx 8 = _ from hv 8 (by decide), show xx 9 = _ from hv 9 (by decide), show xx 10 = _ from hv 10 (by decide), show xx 11 = _ from hv 11 (by decide), show xx 12 = _ from hv 12 (by decide), show xx 13 = _ from hv 13 (by decide), show xx 14 = _ from hv 14 (by decide), show xx 15 = _ from hv 15 (by decide), show xx 16 = _ from hv 16 (by decide), show xx 17 = _ from hv 17 (by decide), show xx 18 = _ from hv 18 (by decide), show xx 19 = _ from hv 19 (by decide), show xx 20 = _ from hv 20 (by decide), show xx 21 = _ from hv 21 (by decide), show xx 22 = _ from hv 22 (by decide), show xx 23 = _ from hv 23 (by decide), show xx 24 = _ from hv 24 (by decide), show xx 25 = _ from hv 25 (by decide), show xx 26 = _ from hv 26 (by decide), show xx 27 = _ from hv 27 (by decide), show xx 28 = _ from hv 28 (by decide), show xx 29 = _ from hv 29 (by decide), show xx 30 = _ from hv 30 (by decide), show xx 31 = _ from hv 31 (by decide), show xx 32 = _ from hv 32 (by decide), show xx 33 = _ from hv 33 (by decide), show xx 34 = _ from hv 34 (by decide)]
           clear hv
           have HV9 := zh (HV.out.call hb9)
           clear hb9 HV
           go_wp2
           refine a0g 32 [.slice (some ⟨w6.heap.size, 0, none⟩) cl.length cl.length, .int .i64 (i : Nat), .pointer (some ⟨w6.heap.size, i, none⟩), .int .i64 fi, .bool true, .bool true, .slice (some ⟨w6.heap.size, 0, none⟩) cl.length cl.length, .int .i64 (i : Nat), .pointer (some ⟨w6.heap.size, i, none⟩), .int .i64 fi, .slice (some ⟨w6.heap.size, 0, none⟩) cl.length cl.length, .int .i64 (j : Nat), .pointer (some ⟨w6.heap.size, j, none⟩), .int .i64 fj, .bool true, .bool true, .slice (some ⟨gc, 0, none⟩) cl.length cl.length, .int .i64 (i : Nat), .pointer (some ⟨gc, i, none⟩), .int .i64 ci, .bool true, .bool true, .slice (some ⟨gc, 0, none⟩) cl.length cl.length, .int .i64 (i : Nat), .pointer (some ⟨gc, i, none⟩), .int .i64 ci, .slice (some ⟨gc, 0, none⟩) cl.length cl.length, .int .i64 (j : Nat), .pointer (some ⟨gc, j, none⟩), .int .i64 cj, .bool true, .bool true] rfl (by kernel_rfl) (by kernel_rfl) (by kernel_rfl) ?_ ?_
           refine ⟨?_, ?_, ?_, ?_, ?_, ?_, ?_, ?_, ?_, ?_, ?_, ?_, ?_, ?_, ?_, ?_, ?_, ?_, ?_, ?_, ?_, ?_, ?_, ?_, ?_, ?_, ?_, ?_, ?_, ?_, ?_, ?_, trivial⟩
           ·intro xx af wv hbx hev hev0 hd; have e11 : af.tmps[11]?.getD undef = .slice (some ⟨w6.heap.size, 0, none⟩) cl.length cl.length := hev0 11 rfl; clear hev hev0 hd; go_wp2; exact sQ rfl
           ·intro xx af wv hbx hev hev0 hd; have e21 : af.tmps[21]?.getD undef = .int .i64 (i : Nat) := hev0 21 rfl; clear hev hev0 hd; go_wp2; exact sQ rfl
           ·intro xx af wv hbx hev hev0 hd; have e168 := (hev 0 _ 168 rfl rfl).trans (hd ⟨0, .data⟩ (by simp) rfl); have e169 := (hev 1 _ 169 rfl rfl).trans (hd ⟨1, .data⟩ (by simp) rfl); clear hev hev0 hd; go_wp2; exact sQ rfl
           ·intro xx af wv hbx hev hev0 hd; have e170 := (hev 2 _ 170 rfl rfl).trans (hd ⟨2, .data⟩ (by simp) rfl); clear hev hev0 hd; have hs1 := zh (HV9.out.call hbx); have yf0 := hs1.out.cellE 2 rfl HIN.out; rw [HFI.out] at yf0; go_wp2; exact sQ rfl
           ·intro xx af wv hbx hev hev0 hd; have e171 := (hev 3 _ 171 rfl rfl).trans (hd ⟨3, .data⟩ (by simp) rfl); clear hev hev0 hd; go_wp2; exact sQ rfl
           ·intro xx af wv hbx hev hev0 hd; have e172 := (hev 4 _ 172 rfl rfl).trans (hd ⟨4, .data⟩ (by simp) rfl); clear hev hev0 hd; go_wp2; exact sQ rfl
           ·intro xx af wv hbx hev hev0 hd; have e173 := (hev 5 _ 173 rfl rfl).trans (hd ⟨5, .guard⟩ (by simp) rfl); have e11 : af.tmps[11]?.getD undef = .slice (some ⟨w6.heap.size, 0, none⟩) cl.length cl.length := hev0 11 rfl; have q173 := a0a e173; clear hev hev0 hd; go_wp2; exact sQ rfl
           ·intro xx af wv hbx hev hev0 hd; have e173 := (hev 5 _ 173 rfl rfl).trans (hd ⟨5, .guard⟩ (by simp) rfl); have e21 : af.tmps[21]?.getD undef = .int .i64 (i : Nat) := hev0 21 rfl; have q173 := a0a e173; clear hev hev0 hd; go_wp2; exact sQ rfl
           ·intro xx af wv hbx hev hev0 hd; have e173 := (hev 5 _ 173 rfl rfl).trans (hd ⟨5, .guard⟩ (by simp) rfl); have e174 := (hev 6 _ 174 rfl rfl).trans (hd ⟨6, .data⟩ (by simp) rfl); have e175 := (hev 7 _ 175 rfl rfl).trans (hd ⟨7, .data⟩ (by simp) rfl); have q173 := a0a e173; clear hev hev0 hd; go_wp2; exact sQ rfl
           ·intro xx af wv hbx hev hev0 hd; have e173 := (hev 5 _ 173 rfl rfl).trans (hd ⟨5, .guard⟩ (by simp) rfl); have e176 := (hev 8 _ 176 rfl rfl).trans (hd ⟨8, .data⟩ (by simp) rfl); have q173 := a0a e173; clear hev hev0 hd; have hs1 := zh (HV9.out.call hbx); have yf0 := hs1.out.cellE 2 rfl HIN.out; rw [HFI.out] at yf0; go_wp2; exact sQ rfl
           ·intro xx af wv hbx hev hev0 hd; have e173 := (hev 5 _ 173 rfl rfl).trans (hd ⟨5, .guard⟩ (by simp) rfl); have e11 : af.tmps[11]?.getD undef = .slice (some ⟨w6.heap.size, 0, none⟩) cl.length cl.length := hev0 11 rfl; have q173 := a0a e173; clear hev hev0 hd; go_wp2; exact sQ rfl
           ·intro xx af wv hbx hev hev0 hd; have e173 := (hev 5 _ 173 rfl rfl).trans (hd ⟨5, .guard⟩ (by simp) rfl); have e22 : af.tmps[22]?.getD undef = .int .i64 (j : Nat) := hev0 22 rfl; have q173 := a0a e173; clear hev hev0 hd; go_wp2; exact sQ rfl
           ·intro xx af wv hbx hev hev0 hd; have e173 := (hev 5 _ 173 rfl rfl).trans (hd ⟨5, .guard⟩ (by simp) rfl); have e178 := (hev 10 _ 178 rfl rfl).trans (hd ⟨10, .data⟩ (by simp) rfl); have e179 := (hev 11 _ 179 rfl rfl).trans (hd ⟨11, .data⟩ (by simp) rfl); have q173 := a0a e173; clear hev hev0 hd; go_wp2; exact sQ rfl
           ·intro xx af wv hbx hev hev0 hd; have e173 := (hev 5 _ 173 rfl rfl).trans (hd ⟨5, .guard⟩ (by simp) rfl); have e180 := (hev 12 _ 180 rfl rfl).trans (hd ⟨12, .data⟩ (by simp) rfl); have q173 := a0a e173; clear hev hev0 hd; have hs1 := zh (HV9.out.call hbx); have yf0 := hs1.out.cellE 2 rfl HJN.out; rw [HFJ.out] at yf0; go_wp2; exact sQ rfl
           ·intro xx af wv hbx hev hev0 hd; have e173 := (hev 5 _ 173 rfl rfl).trans (hd ⟨5, .guard⟩ (by simp) rfl); have e177 := (hev 9 _ 177 rfl rfl).trans (hd ⟨9, .data⟩ (by simp) rfl); have e181 := (hev 13 _ 181 rfl rfl).trans (hd ⟨13, .data⟩ (by simp) rfl); have q173 := a0a e173; clear hev hev0 hd; go_wp2; exact sQ rfl
           ·intro xx af wv hbx hev hev0 hd; have e173 := (hev 5 _ 173 rfl rfl).trans (hd ⟨5, .data⟩ (by simp) rfl); have e182 := (hev 14 _ 182 rfl rfl).trans (hd ⟨14, .data⟩ (by simp) rfl); clear hev hev0 hd; go_wp2; exact sQ rfl
           ·intro xx af wv hbx hev hev0 hd; have e20 : af.tmps[20]?.getD undef = .slice (some ⟨gc, 0, none⟩) cl.length cl.length := hev0 20 rfl; clear hev hev0 hd; go_wp2; exact sQ rfl
           ·intro xx af wv hbx hev hev0 hd; have e21 : af.tmps[21]?.getD undef = .int .i64 (i : Nat) := hev0 21 rfl; clear hev hev0 hd; go_wp2; exact sQ rfl
           ·intro xx af wv hbx hev hev0 hd; have e184 := (hev 16 _ 184 rfl rfl).trans (hd ⟨16, .data⟩ (by simp) rfl); have e185 := (hev 17 _ 185 rfl rfl).trans (hd ⟨17, .data⟩ (by simp) rfl); clear hev hev0 hd; go_wp2; exact sQ rfl
           ·intro xx af wv hbx hev hev0 hd; have e186 := (hev 18 _ 186 rfl rfl).trans (hd ⟨18, .data⟩ (by simp) rfl); clear hev hev0 hd; have hs1 := zh (HV9.out.call hbx); have yf0 := hs1.out.cellE 0 rfl HIN.out; rw [HCI.out] at yf0; go_wp2; exact sQ rfl
           ·intro xx af wv hbx hev hev0 hd; have e187 := (hev 19 _ 187 rfl rfl).trans (hd ⟨19, .data⟩ (by simp) rfl); clear hev hev0 hd; go_wp2; exact sQ rfl
           ·intro xx af wv hbx hev hev0 hd; have e188 := (hev 20 _ 188 rfl rfl).trans (hd ⟨20, .data⟩ (by simp) rfl); clear hev hev0 hd; go_wp2; exact sQ rfl
           ·intro xx af wv hbx hev hev0 hd; have e189 := (hev 21 _ 189 rfl rfl).trans (hd ⟨21, .guard⟩ (by simp) rfl); have e20 : af.tmps[20]?.getD undef = .slice (some ⟨gc, 0, none⟩) cl.length cl.length := hev0 20 rfl; have q189 := a0a e189; clear hev hev0 hd; go_wp2; exact sQ rfl
           ·intro xx af wv hbx hev hev0 hd; have e189 := (hev 21 _ 189 rfl rfl).trans (hd ⟨21, .guard⟩ (by simp) rfl); have e21 : af.tmps[21]?.getD undef = .int .i64 (i : Nat) := hev0 21 rfl; have q189 := a0a e189; clear hev hev0 hd; go_wp2; exact sQ rfl
           ·intro xx af wv hbx hev hev0 hd; have e189 := (hev 21 _ 189 rfl rfl).trans (hd ⟨21, .guard⟩ (by simp) rfl); have e190 := (hev 22 _ 190 rfl rfl).trans (hd ⟨22, .data⟩ (by simp) rfl); have e191 := (hev 23 _ 191 rfl rfl).trans (hd ⟨23, .data⟩ (by simp) rfl); have q189 := a0a e189; clear hev hev0 hd; go_wp2; exact sQ rfl
           ·intro xx af wv hbx hev hev0 hd; have e189 := (hev 21 _ 189 rfl rfl).trans (hd ⟨21, .guard⟩ (by simp) rfl); have e192 := (hev 24 _ 192 rfl rfl).trans (hd ⟨24, .data⟩ (by simp) rfl); have q189 := a0a e189; clear hev hev0 hd; have hs1 := zh (HV9.out.call hbx); have yf0 := hs1.out.cellE 0 rfl HIN.out; rw [HCI.out] at yf0; go_wp2; exact sQ rfl
           ·intro xx af wv hbx hev hev0 hd; have e189 := (hev 21 _ 189 rfl rfl).trans (hd ⟨21, .guard⟩ (by simp) rfl); have e20 : af.tmps[20]?.getD undef = .slice (some ⟨gc, 0, none⟩) cl.length cl.length := hev0 20 rfl; have q189 := a0a e189; clear hev hev0 hd; go_wp2; exact sQ rfl
           ·intro xx af wv hbx hev hev0 hd; have e189 := (hev 21 _ 189 rfl rfl).trans (hd ⟨21, .guard⟩ (by simp) rfl); have e22 : af.tmps[22]?.getD undef = .int .i64 (j : Nat) := hev0 22 rfl; have q189 := a0a e189; clear hev hev0 hd; go_wp2; exact sQ rfl
           ·intro xx af wv hbx hev hev0 hd; have e189 := (hev 21 _ 189 rfl rfl).trans (hd ⟨21, .guard⟩ (by simp) rfl); have e194 := (hev 26 _ 194 rfl rfl).trans (hd ⟨26, .data⟩ (by simp) rfl); have e195 := (hev 27 _ 195 rfl rfl).trans (hd ⟨27, .data⟩ (by simp) rfl); have q189 := a0a e189; clear hev hev0 hd; go_wp2; exact sQ rfl
           ·intro xx af wv hbx hev hev0 hd; have e189 := (hev 21 _ 189 rfl rfl).trans (hd ⟨21, .guard⟩ (by simp) rfl); have e196 := (hev 28 _ 196 rfl rfl).trans (hd ⟨28, .data⟩ (by simp) rfl); have q189 := a0a e189; clear hev hev0 hd; have hs1 := zh (HV9.out.call hbx); have yf0 := hs1.out.cellE 0 rfl HJN.out; rw [HCJ.out] at yf0; go_wp2; exact sQ rfl
           ·intro xx af wv hbx hev hev0 hd; have e189 := (hev 21 _ 189 rfl rfl).trans (hd ⟨21, .guard⟩ (by simp) rfl); have e193 := (hev 25 _ 193 rfl rfl).trans (hd ⟨25, .data⟩ (by simp) rfl); have e197 := (hev 29 _ 197 rfl rfl).trans (hd ⟨29, .data⟩ (by simp) rfl); have q189 := a0a e189; clear hev hev0 hd; go_wp2; exact sQ rfl
           ·intro xx af wv hbx hev hev0 hd; have e189 := (hev 21 _ 189 rfl rfl).trans (hd ⟨21, .data⟩ (by simp) rfl); have e198 := (hev 30 _ 198 rfl rfl).trans (hd ⟨30, .data⟩ (by simp) rfl); clear hev hev0 hd; go_wp2; exact sQ rfl
           intro xx w10 hb9 hv
           simp only [List.take, List.drop, a0h, Act.put]
           simp only [show xx 0 = _ from hv 0 (by decide), show xx 1 = _ from hv 1 (by decide), show xx 2 = _ from hv 2 (by decide), show xx 3 = _ from hv 3 (by decide), show xx 4 = _ from hv 4 (by decide), show xx 5 = _ from hv 5 (by decide), show xx 6 = _ from hv 6 (by decide), show xx 7 = _ from hv 7 (by decide), show xx 8 = _ from hv 8 (by decide), show xx 9 = _ from hv 9 (by decide), show xx 10 = _ from hv 10 (by decide), show xx 11 = _ from hv 11 (by decide), show xx 12 = _ from hv 12 (by decide), show xx 13 = _ from hv 13 (by decide), show xx 14 = _ from hv 14 (by decide), show xx 15 = _ from hv 15 (by decide), show xx 16 = _ from hv 16 (by decide), show xx 17 = _ from hv 17 (by decide), show xx 18 = _ from hv 18 (by decide), show xx 19 = _ from hv 19 (by decide), show xx 20 = _ from hv 20 (by decide), show xx 21 = _ from hv 21 (by decide), show xx 22 = _ from hv 22 (by decide), show xx 23 = _ from hv 23 (by decide), show xx 24 = _ from hv 24 (by decide), show xx 25 = _ from hv 25 (by decide), show xx 26 = _ from hv 26 (by decide), show xx 27 = _ from hv 27 (by decide), show xx 28 = _ from hv 28 (by decide), show xx 29 = _ from hv 29 (by decide), show xx 30 = _ from hv 30 (by decide), show xx 31 = _ from hv 31 (by decide)]
           clear hv
           have HV10 := zh (HV9.out.call hb9)
           clear hb9 HV9
           go_wp2
           go_roundw
           case rel => exact ⟨j + 1, by omega, by go_num, HV10.out⟩
           case measure => simp [intOf]; omega
          rw [hm] at hy
          have HY := zh hy
          have n0 : decide (fi < 0) = false := decide_eq_false (by omega)
          have n1 : decide ((0 : Int) <= fi) = true := decide_eq_true (by omega)
          have n2 : decide ((0 : Int) <= ci) = true := decide_eq_true (by omega)
          have n3 : (fi == fj) = false := beq_eq_false_iff_ne.2 (by omega)
          have n4 : (ci == cj) = false := beq_eq_false_iff_ne.2 (by omega)
          clear hf0 hfe
          clear hy hrel hiff hii hmr hm
          go_wp2
          refine a0g 35 [.slice (some ⟨b0, o0, none⟩) cl.length cm, .int .i64 (i : Nat), .pointer (some ⟨b0, o0 + i, none⟩), .slice (some ⟨gr, 0, none⟩) cl.length cl.length, .int .i64 (j : Nat), .pointer (some ⟨gr, j, none⟩), .bool false, .bool false, undef, undef, undef, undef, undef, undef, undef, undef, undef, undef, undef, undef, undef, undef, undef, undef, undef, undef, undef, undef, undef, undef, undef, undef, undef, undef, undef] rfl (by kernel_rfl) (by kernel_rfl) (by kernel_rfl) ?_ ?_
          refine ⟨?_, ?_, ?_, ?_, ?_, ?_, ?_, ?_, ?_, ?_, ?_, ?_, ?_, ?_, ?_, ?_, ?_, ?_, ?_, ?_, ?_, ?_, ?_, ?_, ?_, ?_, ?_, ?_, ?_, ?_, ?_, ?_, ?_, ?_, ?_, trivial⟩
          ·intro xx af wv hbx hev hev0 hd; have e10 : af.tmps[10]?.getD undef = .slice (some ⟨b0, o0, none⟩) cl.length cm := hev0 10 rfl; clear hev hev0 hd; go_wp2; exact sQ rfl
          ·intro xx af wv hbx hev hev0 hd; have e21 : af.tmps[21]?.getD undef = .int .i64 (i : Nat) := hev0 21 rfl; clear hev hev0 hd; go_wp2; exact sQ rfl
          ·intro xx af wv hbx hev hev0 hd; have e132 := (hev 0 _ 132 rfl rfl).trans (hd ⟨0, .data⟩ (by simp) rfl); have e133 := (hev 1 _ 133 rfl rfl).trans (hd ⟨1, .data⟩ (by simp) rfl); clear hev hev0 hd; go_wp2; exact sQ rfl
          ·intro xx af wv hbx hev hev0 hd; have e134 := (hev 2 _ 134 rfl rfl).trans (hd ⟨2, .data⟩ (by simp) rfl); clear hev hev0 hd; have hs1 := zh (HV.out.call hbx); have y0 := HX.out _ hs1.out.below 0 _ rfl; rw [Nat.add_zero] at y0; go_wp2; exact sQ rfl
          ·intro xx af wv hbx hev hev0 hd; have e22 : af.tmps[22]?.getD undef = .int .i64 (j : Nat) := hev0 22 rfl; clear hev hev0 hd; go_wp2; exact sQ rfl
          ·intro xx af wv hbx hev hev0 hd; have e135 := (hev 3 _ 135 rfl rfl).trans (hd ⟨3, .data⟩ (by simp) rfl); have e136 := (hev 4 _ 136 rfl rfl).trans (hd ⟨4, .data⟩ (by simp) rfl); clear hev hev0 hd; go_wp2; exact sQ rfl
          ·intro xx af wv hbx hev hev0 hd; have e137 := (hev 5 _ 137 rfl rfl).trans (hd ⟨5, .data⟩ (by simp) rfl); clear hev hev0 hd; have hs1 := zh (HV.out.call hbx); have y0 := HY.out _ hs1.out.below 0 _ rfl; rw [Nat.add_zero] at y0; go_wp2; exact sQ rfl
          ·intro xx af wv hbx hev hev0 hd; have e138 := (hev 6 _ 138 rfl rfl).trans (hd ⟨6, .data⟩ (by simp) rfl); clear hev hev0 hd; go_wp2; exact sQ rfl
          ·intro xx af wv hbx hev hev0 hd; have e139 := (hev 7 _ 139 rfl rfl).trans (hd ⟨7, .guard⟩ (by simp) rfl); have q139 := a0a e139; clear hev hev0 hd; go_wp2; exact sQ rfl
          ·intro xx af wv hbx hev hev0 hd; have e139 := (hev 7 _ 139 rfl rfl).trans (hd ⟨7, .guard⟩ (by simp) rfl); have q139 := a0a e139; clear hev hev0 hd; go_wp2; exact sQ rfl
          ·intro xx af wv hbx hev hev0 hd; have e139 := (hev 7 _ 139 rfl rfl).trans (hd ⟨7, .guard⟩ (by simp) rfl); have q139 := a0a e139; clear hev hev0 hd; go_wp2; exact sQ rfl
          ·intro xx af wv hbx hev hev0 hd; have e139 := (hev 7 _ 139 rfl rfl).trans (hd ⟨7, .guard⟩ (by simp) rfl); have q139 := a0a e139; clear hev hev0 hd; go_wp2; exact sQ rfl
          ·intro xx af wv hbx hev hev0 hd; have e139 := (hev 7 _ 139 rfl rfl).trans (hd ⟨7, .guard⟩ (by simp) rfl); have q139 := a0a e139; clear hev hev0 hd; go_wp2; exact sQ rfl
          ·intro xx af wv hbx hev hev0 hd; have e139 := (hev 7 _ 139 rfl rfl).trans (hd ⟨7, .chain⟩ (by simp) rfl); have q139 := a0a e139; clear hev hev0 hd; go_wp2; exact sQ rfl
          ·intro xx af wv hbx hev hev0 hd
           have e145 := (hev 13 _ 145 rfl rfl).trans (hd ⟨13, .guard⟩ (by simp) rfl)
           clear hev hev0 hd
           rcases a0c e145 with q145 | q145
           ·go_wp2
            exact sQ rfl
           go_wp2
           exact sQ rfl
          ·intro xx af wv hbx hev hev0 hd
           have e145 := (hev 13 _ 145 rfl rfl).trans (hd ⟨13, .guard⟩ (by simp) rfl)
           clear hev hev0 hd
           rcases a0c e145 with q145 | q145
           ·go_wp2
            exact sQ rfl
           go_wp2
           exact sQ rfl
          ·intro xx af wv hbx hev hev0 hd
           have e145 := (hev 13 _ 145 rfl rfl).trans (hd ⟨13, .guard⟩ (by simp) rfl)
           clear hev hev0 hd
           rcases a0c e145 with q145 | q145
           ·go_wp2
            exact sQ rfl
           go_wp2
           exact sQ rfl
          ·intro xx af wv hbx hev hev0 hd
           have e145 := (hev 13 _ 145 rfl rfl).trans (hd ⟨13, .guard⟩ (by simp) rfl)
           clear hev hev0 hd
           rcases a0c e145 with q145 | q145
           ·go_wp2
            exact sQ rfl
           go_wp2
           exact sQ rfl
          ·intro xx af wv hbx hev hev0 hd
           have e145 := (hev 13 _ 145 rfl rfl).trans (hd ⟨13, .guard⟩ (by simp) rfl)
           clear hev hev0 hd
           rcases a0c e145 with q145 | q145
           ·go_wp2
            exact sQ rfl
           go_wp2
           exact sQ rfl
          ·intro xx af wv hbx hev hev0 hd
           have e145 := (hev 13 _ 145 rfl rfl).trans (hd ⟨13, .guard⟩ (by simp) rfl)
           clear hev hev0 hd
           rcases a0c e145 with q145 | q145
           ·go_wp2
            exact sQ rfl
           go_wp2
           exact sQ rfl
          ·intro xx af wv hbx hev hev0 hd
           have e145 := (hev 13 _ 145 rfl rfl).trans (hd ⟨13, .guard⟩ (by simp) rfl)
           clear hev hev0 hd
           rcases a0c e145 with q145 | q145
           ·go_wp2
            exact sQ rfl
           go_wp2
           exact sQ rfl
          ·intro xx af wv hbx hev hev0 hd
           have e145 := (hev 13 _ 145 rfl rfl).trans (hd ⟨13, .guard⟩ (by simp) rfl)
           clear hev hev0 hd
           rcases a0c e145 with q145 | q145
           ·go_wp2
            exact sQ rfl
           go_wp2
           exact sQ rfl
          ·intro xx af wv hbx hev hev0 hd
           have e145 := (hev 13 _ 145 rfl rfl).trans (hd ⟨13, .guard⟩ (by simp) rfl)
           clear hev hev0 hd
           rcases a0c e145 with q145 | q145
           ·go_wp2
            exact sQ rfl
           go_wp2
           exact sQ rfl
          ·intro xx af wv hbx hev hev0 hd; have e139 := (hev 7 _ 139 rfl rfl).trans (hd ⟨7, .guard⟩ (by simp) rfl); have q139 := a0a e139; clear hev hev0 hd; go_wp2; exact sQ rfl
          ·intro xx af wv hbx hev hev0 hd; have e139 := (hev 7 _ 139 rfl rfl).trans (hd ⟨7, .guard⟩ (by simp) rfl); have q139 := a0a e139; clear hev hev0 hd; go_wp2; exact sQ rfl
          ·intro xx af wv hbx hev hev0 hd
           have e156 := (hev 24 _ 156 rfl rfl).trans (hd ⟨24, .guard⟩ (by simp) rfl)
           clear hev hev0 hd
           rcases a0c e156 with q156 | q156
           ·go_wp2
            exact sQ rfl
           go_wp2
           exact sQ rfl
          ·intro xx af wv hbx hev hev0 hd
           have e156 := (hev 24 _ 156 rfl rfl).trans (hd ⟨24, .guard⟩ (by simp) rfl)
           clear hev hev0 hd
           rcases a0c e156 with q156 | q156
           ·go_wp2
            exact sQ rfl
           go_wp2
           exact sQ rfl
          ·intro xx af wv hbx hev hev0 hd
           have e156 := (hev 24 _ 156 rfl rfl).trans (hd ⟨24, .guard⟩ (by simp) rfl)
           clear hev hev0 hd
           rcases a0c e156 with q156 | q156
           ·go_wp2
            exact sQ rfl
           go_wp2
           exact sQ rfl
          ·intro xx af wv hbx hev hev0 hd
           have e156 := (hev 24 _ 156 rfl rfl).trans (hd ⟨24, .guard⟩ (by simp) rfl)
           clear hev hev0 hd
           rcases a0c e156 with q156 | q156
           ·go_wp2
            exact sQ rfl
           go_wp2
           exact sQ rfl
          ·intro xx af wv hbx hev hev0 hd
           have e156 := (hev 24 _ 156 rfl rfl).trans (hd ⟨24, .guard⟩ (by simp) rfl)
           clear hev hev0 hd
           rcases a0c e156 with q156 | q156
           ·go_wp2
            exact sQ rfl
           go_wp2
           exact sQ rfl
          ·intro xx af wv hbx hev hev0 hd
           have e156 := (hev 24 _ 156 rfl rfl).trans (hd ⟨24, .guard⟩ (by simp) rfl)
           clear hev hev0 hd
           rcases a0c e156 with q156 | q156
           ·go_wp2
            exact sQ rfl
           go_wp2
           exact sQ rfl
          ·intro xx af wv hbx hev hev0 hd
           have e156 := (hev 24 _ 156 rfl rfl).trans (hd ⟨24, .guard⟩ (by simp) rfl)
           clear hev hev0 hd
           rcases a0c e156 with q156 | q156
           ·go_wp2
            exact sQ rfl
           go_wp2
           exact sQ rfl
          ·intro xx af wv hbx hev hev0 hd
           have e156 := (hev 24 _ 156 rfl rfl).trans (hd ⟨24, .guard⟩ (by simp) rfl)
           clear hev hev0 hd
           rcases a0c e156 with q156 | q156
           ·go_wp2
            exact sQ rfl
           go_wp2
           exact sQ rfl
          ·intro xx af wv hbx hev hev0 hd
           have e156 := (hev 24 _ 156 rfl rfl).trans (hd ⟨24, .guard⟩ (by simp) rfl)
           clear hev hev0 hd
           rcases a0c e156 with q156 | q156
           ·go_wp2
            exact sQ rfl
           go_wp2
           exact sQ rfl
          ·intro xx af wv hbx hev hev0 hd; have e139 := (hev 7 _ 139 rfl rfl).trans (hd ⟨7, .guard⟩ (by simp) rfl); have q139 := a0a e139; clear hev hev0 hd; go_wp2; exact sQ rfl
          intro xx w9 hb9 hv
          simp only [List.take, List.drop, a0h, Act.put]
          simp only [show xx 0 = _ from hv 0 (by decide), show xx 1 = _ from hv 1 (by decide), show xx 2 = _ from hv 2 (by decide), show xx 3 = _ from hv 3 (by decide), show xx 4 = _ from hv 4 (by decide), show xx 5 = _ from hv 5 (by decide), show xx 6 = _ from hv 6 (by decide), show xx 7 = _ from hv 7 (by decide), show xx 8 = _ from hv 8 (by decide), show xx 9 = _ from hv 9 (by decide), show xx 10 = _ from hv 10 (by decide), show xx 11 = _ from hv 11 (by decide), show xx 12 = _ from hv 12 (by decide), show xx 13 = _ from hv 13 (by decide), show xx 14 = _ from hv 14 (by decide), show xx 15 = _ from hv 15 (by decide), show xx 16 = _ from hv 16 (by decide), show xx 17 = _ from hv 17 (by decide), show xx 18 = _ from hv 18 (by decide), show xx 19 = _ from hv 19 (by decide), show xx 20 = _ from hv 20 (by decide), show xx 21 = _ from hv 21 (by decide), show xx 22 = _ from hv 22 (by decide), show xx 23 = _ from hv 23 (by decide), show xx 24 = _ from hv 24 (by decide), show xx 25 = _ from hv 25 (by decide), show xx 26 = _ from hv 26 (by decide), show xx 27 = _ from hv 27 (by decide), show xx 28 = _ from hv 28 (by decide), show xx 29 = _ from hv 29 (by decide), show xx 30 = _ from hv 30 (by decide), show xx 31 = _ from hv 31 (by decide), show xx 32 = _ from hv 32 (by decide), show xx 33 = _ from hv 33 (by decide), show xx 34 = _ from hv 34 (by decide)]
          clear hv
          have HV9 := zh (HV.out.call hb9)
          clear hb9 HV
          go_wp2
          refine a0g 32 [.slice (some ⟨w6.heap.size, 0, none⟩) cl.length cl.length, .int .i64 (i : Nat), .pointer (some ⟨w6.heap.size, i, none⟩), .int .i64 fi, .bool true, .bool true, .slice (some ⟨w6.heap.size, 0, none⟩) cl.length cl.length, .int .i64 (i : Nat), .pointer (some ⟨w6.heap.size, i, none⟩), .int .i64 fi, .slice (some ⟨w6.heap.size, 0, none⟩) cl.length cl.length, .int .i64 (j : Nat), .pointer (some ⟨w6.heap.size, j, none⟩), .int .i64 fj, .bool false, .bool false, .slice (some ⟨gc, 0, none⟩) cl.length cl.length, .int .i64 (i : Nat), .pointer (some ⟨gc, i, none⟩), .int .i64 ci, .bool true, .bool true, .slice (some ⟨gc, 0, none⟩) cl.length cl.length, .int .i64 (i : Nat), .pointer (some ⟨gc, i, none⟩), .int .i64 ci, .slice (some ⟨gc, 0, none⟩) cl.length cl.length, .int .i64 (j : Nat), .pointer (some ⟨gc, j, none⟩), .int .i64 cj, .bool false, .bool false] rfl (by kernel_rfl) (by kernel_rfl) (by kernel_rfl) ?_ ?_
          refine ⟨?_, ?_, ?_, ?_, ?_, ?_, ?_, ?_, ?_, ?_, ?_, ?_, ?_, ?_, ?_, ?_, ?_, ?_, ?_, ?_, ?_, ?_, ?_, ?_, ?_, ?_, ?_, ?_, ?_, ?_, ?_, ?_, trivial⟩
          ·intro xx af wv hbx hev hev0 hd; have e11 : af.tmps[11]?.getD undef = .slice (some ⟨w6.heap.size, 0, none⟩) cl.length cl.length := hev0 11 rfl; clear hev hev0 hd; go_wp2; exact sQ rfl
          ·intro xx af wv hbx hev hev0 hd; have e21 : af.tmps[21]?.getD undef = .int .i64 (i : Nat) := hev0 21 rfl; clear hev hev0 hd; go_wp2; exact sQ rfl
          ·intro xx af wv hbx hev hev0 hd; have e168 := (hev 0 _ 168 rfl rfl).trans (hd ⟨0, .data⟩ (by simp) rfl); have e169 := (hev 1 _ 169 rfl rfl).trans (hd ⟨1, .data⟩ (by simp) rfl); clear hev hev0 hd; go_wp2; exact sQ rfl
          ·intro xx af wv hbx hev hev0 hd; have e170 := (hev 2 _ 170 rfl rfl).trans (hd ⟨2, .data⟩ (by simp) rfl); clear hev hev0 hd; have hs1 := zh (HV9.out.call hbx); have yf0 := hs1.out.cellE 2 rfl HIN.out; rw [HFI.out] at yf0; go_wp2; exact sQ rfl
          ·intro xx af wv hbx hev hev0 hd; have e171 := (hev 3 _ 171 rfl rfl).trans (hd ⟨3, .data⟩ (by simp) rfl); clear hev hev0 hd; go_wp2; exact sQ rfl
          ·intro xx af wv hbx hev hev0 hd; have e172 := (hev 4 _ 172 rfl rfl).trans (hd ⟨4, .data⟩ (by simp) rfl); clear hev hev0 hd; go_wp2; exact sQ rfl
          ·intro xx af wv hbx hev hev0 hd; have e173 := (hev 5 _ 173 rfl rfl).trans (hd ⟨5, .guard⟩ (by simp) rfl); have e11 : af.tmps[11]?.getD undef = .slice (some ⟨w6.heap.size, 0, none⟩) cl.length cl.length := hev0 11 rfl; have q173 := a0a e173; clear hev hev0 hd; go_wp2; exact sQ rfl
          ·intro xx af wv hbx hev hev0 hd; have e173 := (hev 5 _ 173 rfl rfl).trans (hd ⟨5, .guard⟩ (by simp) rfl); have e21 : af.tmps[21]?.getD undef = .int .i64 (i : Nat) := hev0 21 rfl; have q173 := a0a e173; clear hev hev0 hd; go_wp2; exact sQ rfl
          ·intro xx af wv hbx hev hev0 hd; have e173 := (hev 5 _ 173 rfl rfl).trans (hd ⟨5, .guard⟩ (by simp) rfl); have e174 := (hev 6 _ 174 rfl rfl).trans (hd ⟨6, .data⟩ (by simp) rfl); have e175 := (hev 7 _ 175 rfl rfl).trans (hd ⟨7, .data⟩ (by simp) rfl); have q173 := a0a e173; clear hev hev0 hd; go_wp2; exact sQ rfl
          ·intro xx af wv hbx hev hev0 hd; have e173 := (hev 5 _ 173 rfl rfl).trans (hd ⟨5, .guard⟩ (by simp) rfl); have e176 := (hev 8 _ 176 rfl rfl).trans (hd ⟨8, .data⟩ (by simp) rfl); have q173 := a0a e173; clear hev hev0 hd; have hs1 := zh (HV9.out.call hbx); have yf0 := hs1.out.cellE 2 rfl HIN.out; rw [HFI.out] at yf0; go_wp2; exact sQ rfl
          ·intro xx af wv hbx hev hev0 hd; have e173 := (hev 5 _ 173 rfl rfl).trans (hd ⟨5, .guard⟩ (by simp) rfl); have e11 : af.tmps[11]?.getD undef = .slice (some ⟨w6.heap.size, 0, none⟩) cl.length cl.length := hev0 11 rfl; have q173 := a0a e173; clear hev hev0 hd; go_wp2; exact sQ rfl
          ·intro xx af wv hbx hev hev0 hd; have e173 := (hev 5 _ 173 rfl rfl).trans (hd ⟨5, .guard⟩ (by simp) rfl); have e22 : af.tmps[22]?.getD undef = .int .i64 (j : Nat) := hev0 22 rfl; have q173 := a0a e173; clear hev hev0 hd; go_wp2; exact sQ rfl
          ·intro xx af wv hbx hev hev0 hd; have e173 := (hev 5 _ 173 rfl rfl).trans (hd ⟨5, .guard⟩ (by simp) rfl); have e178 := (hev 10 _ 178 rfl rfl).trans (hd ⟨10, .data⟩ (by simp) rfl); have e179 := (hev 11 _ 179 rfl rfl).trans (hd ⟨11, .data⟩ (by simp) rfl); have q173 := a0a e173; clear hev hev0 hd; go_wp2; exact sQ rfl
          ·intro xx af wv hbx hev hev0 hd; have e173 := (hev 5 _ 173 rfl rfl).trans (hd ⟨5, .guard⟩ (by simp) rfl); have e180 := (hev 12 _ 180 rfl rfl).trans (hd ⟨12, .data⟩ (by simp) rfl); have q173 := a0a e173; clear hev hev0 hd; have hs1 := zh (HV9.out.call hbx); have yf0 := hs1.out.cellE 2 rfl HJN.out; rw [HFJ.out] at yf0; go_wp2; exact sQ rfl
          ·intro xx af wv hbx hev hev0 hd; have e173 := (hev 5 _ 173 rfl rfl).trans (hd ⟨5, .guard⟩ (by simp) rfl); have e177 := (hev 9 _ 177 rfl rfl).trans (hd ⟨9, .data⟩ (by simp) rfl); have e181 := (hev 13 _ 181 rfl rfl).trans (hd ⟨13, .data⟩ (by simp) rfl); have q173 := a0a e173; clear hev hev0 hd; go_wp2; exact sQ rfl
          ·intro xx af wv hbx hev hev0 hd; have e173 := (hev 5 _ 173 rfl rfl).trans (hd ⟨5, .data⟩ (by simp) rfl); have e182 := (hev 14 _ 182 rfl rfl).trans (hd ⟨14, .data⟩ (by simp) rfl); clear hev hev0 hd; go_wp2; exact sQ rfl
          ·intro xx af wv hbx hev hev0 hd; have e20 : af.tmps[20]?.getD undef = .slice (some ⟨gc, 0, none⟩) cl.length cl.length := hev0 20 rfl; clear hev hev0 hd; go_wp2; exact sQ rfl
          ·intro xx af wv hbx hev hev0 hd; have e21 : af.tmps[21]?.getD undef = .int .i64 (i : Nat) := hev0 21 rfl; clear hev hev0 hd; go_wp2; exact sQ rfl
          ·intro xx af wv hbx hev hev0 hd; have e184 := (hev 16 _ 184 rfl rfl).trans (hd ⟨16, .data⟩ (by simp) rfl); have e185 := (hev 17 _ 185 rfl rfl).trans (hd ⟨17, .data⟩ (by simp) rfl); clear hev hev0 hd; go_wp2; exact sQ rfl
          ·intro xx af wv hbx hev hev0 hd; have e186 := (hev 18 _ 186 rfl rfl).trans (hd ⟨18, .data⟩ (by simp) rfl); clear hev hev0 hd; have hs1 := zh (HV9.out.call hbx); have yf0 := hs1.out.cellE 0 rfl HIN.out; rw [HCI.out] at yf0; go_wp2; exact sQ rfl
          ·intro xx af wv hbx hev hev0 hd; have e187 := (hev 19 _ 187 rfl rfl).trans (hd ⟨19, .data⟩ (by simp) rfl); clear hev hev0 hd; go_wp2; exact sQ rfl
          ·intro xx af wv hbx hev hev0 hd; have e188 := (hev 20 _ 188 rfl rfl).trans (hd ⟨20, .data⟩ (by simp) rfl); clear hev hev0 hd; go_wp2; exact sQ rfl
          ·intro xx af wv hbx hev hev0 hd; have e189 := (hev 21 _ 189 rfl rfl).trans (hd ⟨21, .guard⟩ (by simp) rfl); have e20 : af.tmps[20]?.getD undef = .slice (some ⟨gc, 0, none⟩) cl.length cl.length := hev0 20 rfl; have q189 := a0a e189; clear hev hev0 hd; go_wp2; exact sQ rfl
          ·intro xx af wv hbx hev hev0 hd; have e189 := (hev 21 _ 189 rfl rfl).trans (hd ⟨21, .guard⟩ (by simp) rfl); have e21 : af.tmps[21]?.getD undef = .int .i64 (i : Nat) := hev0 21 rfl; have q189 := a0a e189; clear hev hev0 hd; go_wp2; exact sQ rfl
          ·intro xx af wv hbx hev hev0 hd; have e189 := (hev 21 _ 189 rfl rfl).trans (hd ⟨21, .guard⟩ (by simp) rfl); have e190 := (hev 22 _ 190 rfl rfl).trans (hd ⟨22, .data⟩ (by simp) rfl); have e191 := (hev 23 _ 191 rfl rfl).trans (hd ⟨23, .data⟩ (by simp) rfl); have q189 := a0a e189; clear hev hev0 hd; go_wp2; exact sQ rfl
          ·intro xx af wv hbx hev hev0 hd; have e189 := (hev 21 _ 189 rfl rfl).trans (hd ⟨21, .guard⟩ (by simp) rfl); have e192 := (hev 24 _ 192 rfl rfl).trans (hd ⟨24, .data⟩ (by simp) rfl); have q189 := a0a e189; clear hev hev0 hd; have hs1 := zh (HV9.out.call hbx); have yf0 := hs1.out.cellE 0 rfl HIN.out; rw [HCI.out] at yf0; go_wp2; exact sQ rfl
          ·intro xx af wv hbx hev hev0 hd; have e189 := (hev 21 _ 189 rfl rfl).trans (hd ⟨21, .guard⟩ (by simp) rfl); have e20 : af.tmps[20]?.getD undef = .slice (some ⟨gc, 0, none⟩) cl.length cl.length := hev0 20 rfl; have q189 := a0a e189; clear hev hev0 hd; go_wp2; exact sQ rfl
          ·intro xx af wv hbx hev hev0 hd; have e189 := (hev 21 _ 189 rfl rfl).trans (hd ⟨21, .guard⟩ (by simp) rfl); have e22 : af.tmps[22]?.getD undef = .int .i64 (j : Nat) := hev0 22 rfl; have q189 := a0a e189; clear hev hev0 hd; go_wp2; exact sQ rfl
          ·intro xx af wv hbx hev hev0 hd; have e189 := (hev 21 _ 189 rfl rfl).trans (hd ⟨21, .guard⟩ (by simp) rfl); have e194 := (hev 26 _ 194 rfl rfl).trans (hd ⟨26, .data⟩ (by simp) rfl); have e195 := (hev 27 _ 195 rfl rfl).trans (hd ⟨27, .data⟩ (by simp) rfl); have q189 := a0a e189; clear hev hev0 hd; go_wp2; exact sQ rfl
          ·intro xx af wv hbx hev hev0 hd; have e189 := (hev 21 _ 189 rfl rfl).trans (hd ⟨21, .guard⟩ (by simp) rfl); have e196 := (hev 28 _ 196 rfl rfl).trans (hd ⟨28, .data⟩ (by simp) rfl); have q189 := a0a e189; clear hev hev0 hd; have hs1 := zh (HV9.out.call hbx); have yf0 := hs1.out.cellE 0 rfl HJN.out; rw [HCJ.out] at yf0; go_wp2; exact sQ rfl
          ·intro xx af wv hbx hev hev0 hd; have e189 := (hev 21 _ 189 rfl rfl).trans (hd ⟨21, .guard⟩ (by simp) rfl); have e193 := (hev 25 _ 193 rfl rfl).trans (hd ⟨25, .data⟩ (by simp) rfl); have e197 := (hev 29 _ 197 rfl rfl).trans (hd ⟨29, .data⟩ (by simp) rfl); have q189 := a0a e189; clear hev hev0 hd; go_wp2; exact sQ rfl
          ·intro xx af wv hbx hev hev0 hd; have e189 := (hev 21 _ 189 rfl rfl).trans (hd ⟨21, .data⟩ (by simp) rfl); have e198 := (hev 30 _ 198 rfl rfl).trans (hd ⟨30, .data⟩ (by simp) rfl); clear hev hev0 hd; go_wp2; exact sQ rfl
          intro xx w10 hb9 hv
          simp only [List.take, List.drop, a0h, Act.put]
          simp only [show xx 0 = _ from hv 0 (by decide), show xx 1 = _ from hv 1 (by decide), show xx 2 = _ from hv 2 (by decide), show xx 3 = _ from hv 3 (by decide), show xx 4 = _ from hv 4 (by decide), show xx 5 = _ from hv 5 (by decide), show xx 6 = _ from hv 6 (by decide), show xx 7 = _ from hv 7 (by decide), show xx 8 = _ from hv 8 (by decide), show xx 9 = _ from hv 9 (by decide), show xx 10 = _ from hv 10 (by decide), show xx 11 = _ from hv 11 (by decide), show xx 12 = _ from hv 12 (by decide), show xx 13 = _ from hv 13 (by decide), show xx 14 = _ from hv 14 (by decide), show xx 15 = _ from hv 15 (by decide), show xx 16 = _ from hv 16 (by decide), show xx 17 = _ from hv 17 (by decide), show xx 18 = _ from hv 18 (by decide), show xx 19 = _ from hv 19 (by decide), show xx 20 = _ from hv 20 (by decide), show xx 21 = _ from hv 21 (by decide), show xx 22 = _ from hv 22 (by decide), show xx 23 = _ from hv 23 (by decide), show xx 24 = _ from hv 24 (by decide), show xx 25 = _ from hv 25 (by decide), show xx 26 = _ from hv 26 (by decide), show xx 27 = _ from hv 27 (by decide), show xx 28 = _ from hv 28 (by decide), show xx 29 = _ from hv 29 (by decide), show xx 30 = _ from hv 30 (by decide), show xx 31 = _ from hv 31 (by decide)]
          clear hv
          have HV10 := zh (HV9.out.call hb9)
          clear hb9 HV9
          go_wp2
          go_roundw
          case rel => exact ⟨j + 1, by omega, by go_num, HV10.out⟩
          case measure => simp [intOf]; omega
         rw [hm] at hy
         have HY := zh hy
         have n1 : decide ((0 : Int) <= fi) = false := decide_eq_false (by omega)
         have n2 : decide ((0 : Int) <= ci) = false := decide_eq_false (by omega)
         clear hf0
         clear hy hrel hiff hii hmr hm
         go_wp2
         refine a0g 35 [.slice (some ⟨b0, o0, none⟩) cl.length cm, .int .i64 (i : Nat), .pointer (some ⟨b0, o0 + i, none⟩), .slice (some ⟨gr, 0, none⟩) cl.length cl.length, .int .i64 (j : Nat), .pointer (some ⟨gr, j, none⟩), .bool false, .bool false, undef, undef, undef, undef, undef, undef, undef, undef, undef, undef, undef, undef, undef, undef, undef, undef, undef, undef, undef, undef, undef, undef, undef, undef, undef, undef, undef] rfl (by kernel_rfl) (by kernel_rfl) (by kernel_rfl) ?_ ?_
         refine ⟨?_, ?_, ?_, ?_, ?_, ?_, ?_, ?_, ?_, ?_, ?_, ?_, ?_, ?_, ?_, ?_, ?_, ?_, ?_, ?_, ?_, ?_, ?_, ?_, ?_, ?_, ?_, ?_, ?_, ?_, ?_, ?_, ?_, ?_, ?_, trivial⟩
         ·intro xx af wv hbx hev hev0 hd; have e10 : af.tmps[10]?.getD undef = .slice (some ⟨b0, o0, none⟩) cl.length cm := hev0 10 rfl; clear hev hev0 hd; go_wp2; exact sQ rfl
         ·intro xx af wv hbx hev hev0 hd; have e21 : af.tmps[21]?.getD undef = .int .i64 (i : Nat) := hev0 21 rfl; clear hev hev0 hd; go_wp2; exact sQ rfl
         ·intro xx af wv hbx hev hev0 hd; have e132 := (hev 0 _ 132 rfl rfl).trans (hd ⟨0, .data⟩ (by simp) rfl); have e133 := (hev 1 _ 133 rfl rfl).trans (hd ⟨1, .data⟩ (by simp) rfl); clear hev hev0 hd; go_wp2; exact sQ rfl
         ·intro xx af wv hbx hev hev0 hd; have e134 := (hev 2 _ 134 rfl rfl).trans (hd ⟨2, .data⟩ (by simp) rfl); clear hev hev0 hd; have hs1 := zh (HV.out.call hbx); have y0 := HX.out _ hs1.out.below 0 _ rfl; rw [Nat.add_zero] at y0; go_wp2; exact sQ rfl
         ·intro xx af wv hbx hev hev0 hd; have e22 : af.tmps[22]?.getD undef = .int .i64 (j : Nat) := hev0 22 rfl; clear hev hev0 hd; go_wp2; exact sQ rfl
         ·intro xx af wv hbx hev hev0 hd; have e135 := (hev 3 _ 135 rfl rfl).trans (hd ⟨3, .data⟩ (by simp) rfl); have e136 := (hev 4 _ 136 rfl rfl).trans (hd ⟨4, .data⟩ (by simp) rfl); clear hev hev0 hd; go_wp2; exact sQ rfl
         ·intro xx af wv hbx hev hev0 hd; have e137 := (hev 5 _ 137 rfl rfl).trans (hd ⟨5, .data⟩ (by simp) rfl); clear hev hev0 hd; have hs1 := zh (HV.out.call hbx); have y0 := HY.out _ hs1.out.below 0 _ rfl; rw [Nat.add_zero] at y0; go_wp2; exact sQ rfl
         ·intro xx af wv hbx hev hev0 hd; have e138 := (hev 6 _ 138 rfl rfl).trans (hd ⟨6, .data⟩ (by simp) rfl); clear hev hev0 hd; go_wp2; exact sQ rfl
         ·intro xx af wv hbx hev hev0 hd; have e139 := (hev 7 _ 139 rfl rfl).trans (hd ⟨7, .guard⟩ (by simp) rfl); have q139 := a0a e139; clear hev hev0 hd; go_wp2; exact sQ rfl
         ·intro xx af wv hbx hev hev0 hd; have e139 := (hev 7 _ 139 rfl rfl).trans (hd ⟨7, .guard⟩ (by simp) rfl); have q139 := a0a e139; clear hev hev0 hd; go_wp2; exact sQ rfl
         ·intro xx af wv hbx hev hev0 hd; have e139 := (hev 7 _ 139 rfl rfl).trans (hd ⟨7, .guard⟩ (by simp) rfl); have q139 := a0a e139; clear hev hev0 hd; go_wp2; exact sQ rfl
         ·intro xx af wv hbx hev hev0 hd; have e139 := (hev 7 _ 139 rfl rfl).trans (hd ⟨7, .guard⟩ (by simp) rfl); have q139 := a0a e139; clear hev hev0 hd; go_wp2; exact sQ rfl
         ·intro xx af wv hbx hev hev0 hd; have e139 := (hev 7 _ 139 rfl rfl).trans (hd ⟨7, .guard⟩ (by simp) rfl); have q139 := a0a e139; clear hev hev0 hd; go_wp2; exact sQ rfl
         ·intro xx af wv hbx hev hev0 hd; have e139 := (hev 7 _ 139 rfl rfl).trans (hd ⟨7, .chain⟩ (by simp) rfl); have q139 := a0a e139; clear hev hev0 hd; go_wp2; exact sQ rfl
         ·intro xx af wv hbx hev hev0 hd
          have e145 := (hev 13 _ 145 rfl rfl).trans (hd ⟨13, .guard⟩ (by simp) rfl)
          clear hev hev0 hd
          rcases a0c e145 with q145 | q145
          ·go_wp2
           exact sQ rfl
          go_wp2
          exact sQ rfl
         ·intro xx af wv hbx hev hev0 hd
          have e145 := (hev 13 _ 145 rfl rfl).trans (hd ⟨13, .guard⟩ (by simp) rfl)
          clear hev hev0 hd
          rcases a0c e145 with q145 | q145
          ·go_wp2
           exact sQ rfl
          go_wp2
          exact sQ rfl
         ·intro xx af wv hbx hev hev0 hd
          have e145 := (hev 13 _ 145 rfl rfl).trans (hd ⟨13, .guard⟩ (by simp) rfl)
          clear hev hev0 hd
          rcases a0c e145 with q145 | q145
          ·go_wp2
           exact sQ rfl
          go_wp2
          exact sQ rfl
         ·intro xx af wv hbx hev hev0 hd
          have e145 := (hev 13 _ 145 rfl rfl).trans (hd ⟨13, .guard⟩ (by simp) rfl)
          clear hev hev0 hd
          rcases a0c e145 with q145 | q145
          ·go_wp2
           exact sQ rfl
          go_wp2
          exact sQ rfl
         ·intro xx af wv hbx hev hev0 hd
          have e145 := (hev 13 _ 145 rfl rfl).trans (hd ⟨13, .guard⟩ (by simp) rfl)
          clear hev hev0 hd
          rcases a0c e145 with q145 | q145
          ·go_wp2
           exact sQ rfl
          go_wp2
          exact sQ rfl
         ·intro xx af wv hbx hev hev0 hd
          have e145 := (hev 13 _ 145 rfl rfl).trans (hd ⟨13, .guard⟩ (by simp) rfl)
          clear hev hev0 hd
          rcases a0c e145 with q145 | q145
          ·go_wp2
           exact sQ rfl
          go_wp2
          exact sQ rfl
         ·intro xx af wv hbx hev hev0 hd
          have e145 := (hev 13 _ 145 rfl rfl).trans (hd ⟨13, .guard⟩ (by simp) rfl)
          clear hev hev0 hd
          rcases a0c e145 with q145 | q145
          ·go_wp2
           exact sQ rfl
          go_wp2
          exact sQ rfl
         ·intro xx af wv hbx hev hev0 hd
          have e145 := (hev 13 _ 145 rfl rfl).trans (hd ⟨13, .guard⟩ (by simp) rfl)
          clear hev hev0 hd
          rcases a0c e145 with q145 | q145
          ·go_wp2
           exact sQ rfl
          go_wp2
          exact sQ rfl
         ·intro xx af wv hbx hev hev0 hd
          have e145 := (hev 13 _ 145 rfl rfl).trans (hd ⟨13, .guard⟩ (by simp) rfl)
          clear hev hev0 hd
          rcases a0c e145 with q145 | q145
          ·go_wp2
           exact sQ rfl
          go_wp2
          exact sQ rfl
         ·intro xx af wv hbx hev hev0 hd; have e139 := (hev 7 _ 139 rfl rfl).trans (hd ⟨7, .guard⟩ (by simp) rfl); have q139 := a0a e139; clear hev hev0 hd; go_wp2; exact sQ rfl
         ·intro xx af wv hbx hev hev0 hd; have e139 := (hev 7 _ 139 rfl rfl).trans (hd ⟨7, .guard⟩ (by simp) rfl); have q139 := a0a e139; clear hev hev0 hd; go_wp2; exact sQ rfl
         ·intro xx af wv hbx hev hev0 hd
          have e156 := (hev 24 _ 156 rfl rfl).trans (hd ⟨24, .guard⟩ (by simp) rfl)
          clear hev hev0 hd
          rcases a0c e156 with q156 | q156
          ·go_wp2
           exact sQ rfl
          go_wp2
          exact sQ rfl
         ·intro xx af wv hbx hev hev0 hd
          have e156 := (hev 24 _ 156 rfl rfl).trans (hd ⟨24, .guard⟩ (by simp) rfl)
          clear hev hev0 hd
          rcases a0c e156 with q156 | q156
          ·go_wp2
           exact sQ rfl
          go_wp2
          exact sQ rfl
         ·intro xx af wv hbx hev hev0 hd
          have e156 := (hev 24 _ 156 rfl rfl).trans (hd ⟨24, .guard⟩ (by simp) rfl)
          clear hev hev0 hd
          rcases a0c e156 with q156 | q156
          ·go_wp2
           exact sQ rfl
          go_wp2
          exact sQ rfl
         ·intro xx af wv hbx hev hev0 hd
          have e156 := (hev 24 _ 156 rfl rfl).trans (hd ⟨24, .guard⟩ (by simp) rfl)
          clear hev hev0 hd
          rcases a0c e156 with q156 | q156
          ·go_wp2
           exact sQ rfl
          go_wp2
          exact sQ rfl
         ·intro xx af wv hbx hev hev0 hd
          have e156 := (hev 24 _ 156 rfl rfl).trans (hd ⟨24, .guard⟩ (by simp) rfl)
          clear hev hev0 hd
          rcases a0c e156 with q156 | q156
          ·go_wp2
           exact sQ rfl
          go_wp2
          exact sQ rfl
         ·intro xx af wv hbx hev hev0 hd
          have e156 := (hev 24 _ 156 rfl rfl).trans (hd ⟨24, .guard⟩ (by simp) rfl)
          clear hev hev0 hd
          rcases a0c e156 with q156 | q156
          ·go_wp2
           exact sQ rfl
          go_wp2
          exact sQ rfl
         ·intro xx af wv hbx hev hev0 hd
          have e156 := (hev 24 _ 156 rfl rfl).trans (hd ⟨24, .guard⟩ (by simp) rfl)
          clear hev hev0 hd
          rcases a0c e156 with q156 | q156
          ·go_wp2
           exact sQ rfl
          go_wp2
          exact sQ rfl
         ·intro xx af wv hbx hev hev0 hd
          have e156 := (hev 24 _ 156 rfl rfl).trans (hd ⟨24, .guard⟩ (by simp) rfl)
          clear hev hev0 hd
          rcases a0c e156 with q156 | q156
          ·go_wp2
           exact sQ rfl
          go_wp2
          exact sQ rfl
         ·intro xx af wv hbx hev hev0 hd
          have e156 := (hev 24 _ 156 rfl rfl).trans (hd ⟨24, .guard⟩ (by simp) rfl)
          clear hev hev0 hd
          rcases a0c e156 with q156 | q156
          ·go_wp2
           exact sQ rfl
          go_wp2
          exact sQ rfl
         ·intro xx af wv hbx hev hev0 hd; have e139 := (hev 7 _ 139 rfl rfl).trans (hd ⟨7, .guard⟩ (by simp) rfl); have q139 := a0a e139; clear hev hev0 hd; go_wp2; exact sQ rfl
         intro xx w9 hb9 hv
         simp only [List.take, List.drop, a0h, Act.put]
         simp only [show xx 0 = _ from hv 0 (by decide), show xx 1 = _ from hv 1 (by decide), show xx 2 = _ from hv 2 (by decide), show xx 3 = _ from hv 3 (by decide), show xx 4 = _ from hv 4 (by decide), show xx 5 = _ from hv 5 (by decide), show xx 6 = _ from hv 6 (by decide), show xx 7 = _ from hv 7 (by decide), show xx 8 = _ from hv 8 (by decide), show xx 9 = _ from hv 9 (by decide), show xx 10 = _ from hv 10 (by decide), show xx 11 = _ from hv 11 (by decide), show xx 12 = _ from hv 12 (by decide), show xx 13 = _ from hv 13 (by decide), show xx 14 = _ from hv 14 (by decide), show xx 15 = _ from hv 15 (by decide), show xx 16 = _ from hv 16 (by decide), show xx 17 = _ from hv 17 (by decide), show xx 18 = _ from hv 18 (by decide), show xx 19 = _ from hv 19 (by decide), show xx 20 = _ from hv 20 (by decide), show xx 21 = _ from hv 21 (by decide), show xx 22 = _ from hv 22 (by decide), show xx 23 = _ from hv 23 (by decide), show xx 24 = _ from hv 24 (by decide), show xx 25 = _ from hv 25 (by decide), show xx 26 = _ from hv 26 (by decide), show xx 27 = _ from hv 27 (by decide), show xx 28 = _ from hv 28 (by decide), show xx 29 = _ from hv 29 (by decide), show xx 30 = _ from hv 30 (by decide), show xx 31 = _ from hv 31 (by decide), show xx 32 = _ from hv 32 (by decide), show xx 33 = _ from hv 33 (by decide), show xx 34 = _ from hv 34 (by decide)]
         clear hv
         have HV9 := zh (HV.out.call hb9)
         clear hb9 HV
         go_wp2
         refine a0g 32 [.slice (some ⟨w6.heap.size, 0, none⟩) cl.length cl.length, .int .i64 (i : Nat), .pointer (some ⟨w6.heap.size, i, none⟩), .int .i64 fi, .bool false, .bool false, undef, undef, undef, undef, undef, undef, undef, undef, undef, .bool false, .slice (some ⟨gc, 0, none⟩) cl.length cl.length, .int .i64 (i : Nat), .pointer (some ⟨gc, i, none⟩), .int .i64 ci, .bool false, .bool false, undef, undef, undef, undef, undef, undef, undef, undef, undef, .bool false] rfl (by kernel_rfl) (by kernel_rfl) (by kernel_rfl) ?_ ?_
         refine ⟨?_, ?_, ?_, ?_, ?_, ?_, ?_, ?_, ?_, ?_, ?_, ?_, ?_, ?_, ?_, ?_, ?_, ?_, ?_, ?_, ?_, ?_, ?_, ?_, ?_, ?_, ?_, ?_, ?_, ?_, ?_, ?_, trivial⟩
         ·intro xx af wv hbx hev hev0 hd; have e11 : af.tmps[11]?.getD undef = .slice (some ⟨w6.heap.size, 0, none⟩) cl.length cl.length := hev0 11 rfl; clear hev hev0 hd; go_wp2; exact sQ rfl
         ·intro xx af wv hbx hev hev0 hd; have e21 : af.tmps[21]?.getD undef = .int .i64 (i : Nat) := hev0 21 rfl; clear hev hev0 hd; go_wp2; exact sQ rfl
         ·intro xx af wv hbx hev hev0 hd; have e168 := (hev 0 _ 168 rfl rfl).trans (hd ⟨0, .data⟩ (by simp) rfl); have e169 := (hev 1 _ 169 rfl rfl).trans (hd ⟨1, .data⟩ (by simp) rfl); clear hev hev0 hd; go_wp2; exact sQ rfl
         ·intro xx af wv hbx hev hev0 hd; have e170 := (hev 2 _ 170 rfl rfl).trans (hd ⟨2, .data⟩ (by simp) rfl); clear hev hev0 hd; have hs1 := zh (HV9.out.call hbx); have yf0 := hs1.out.cellE 2 rfl HIN.out; rw [HFI.out] at yf0; go_wp2; exact sQ rfl
         ·intro xx af wv hbx hev hev0 hd; have e171 := (hev 3 _ 171 rfl rfl).trans (hd ⟨3, .data⟩ (by simp) rfl); clear hev hev0 hd; go_wp2; exact sQ rfl
         ·intro xx af wv hbx hev hev0 hd; have e172 := (hev 4 _ 172 rfl rfl).trans (hd ⟨4, .data⟩ (by simp) rfl); clear hev hev0 hd; go_wp2; exact sQ rfl
         ·intro xx af wv hbx hev hev0 hd; have e173 := (hev 5 _ 173 rfl rfl).trans (hd ⟨5, .guard⟩ (by simp) rfl); have q173 := a0a e173; clear hev hev0 hd; go_wp2; exact sQ rfl
         ·intro xx af wv hbx hev hev0 hd; have e173 := (hev 5 _ 173 rfl rfl).trans (hd ⟨5, .guard⟩ (by simp) rfl); have q173 := a0a e173; clear hev hev0 hd; go_wp2; exact sQ rfl
         ·intro xx af wv hbx hev hev0 hd; have e173 := (hev 5 _ 173 rfl rfl).trans (hd ⟨5, .guard⟩ (by simp) rfl); have q173 := a0a e173; clear hev hev0 hd; go_wp2; exact sQ rfl
         ·intro xx af wv hbx hev hev0 hd; have e173 := (hev 5 _ 173 rfl rfl).trans (hd ⟨5, .guard⟩ (by simp) rfl); have q173 := a0a e173; clear hev hev0 hd; go_wp2; exact sQ rfl
         ·intro xx af wv hbx hev hev0 hd; have e173 := (hev 5 _ 173 rfl rfl).trans (hd ⟨5, .guard⟩ (by simp) rfl); have q173 := a0a e173; clear hev hev0 hd; go_wp2; exact sQ rfl
         ·intro xx af wv hbx hev hev0 hd; have e173 := (hev 5 _ 173 rfl rfl).trans (hd ⟨5, .guard⟩ (by simp) rfl); have q173 := a0a e173; clear hev hev0 hd; go_wp2; exact sQ rfl
         ·intro xx af wv hbx hev hev0 hd; have e173 := (hev 5 _ 173 rfl rfl).trans (hd ⟨5, .guard⟩ (by simp) rfl); have q173 := a0a e173; clear hev hev0 hd; go_wp2; exact sQ rfl
         ·intro xx af wv hbx hev hev0 hd; have e173 := (hev 5 _ 173 rfl rfl).trans (hd ⟨5, .guard⟩ (by simp) rfl); have q173 := a0a e173; clear hev hev0 hd; go_wp2; exact sQ rfl
         ·intro xx af wv hbx hev hev0 hd; have e173 := (hev 5 _ 173 rfl rfl).trans (hd ⟨5, .guard⟩ (by simp) rfl); have q173 := a0a e173; clear hev hev0 hd; go_wp2; exact sQ rfl
         ·intro xx af wv hbx hev hev0 hd; have e173 := (hev 5 _ 173 rfl rfl).trans (hd ⟨5, .data⟩ (by simp) rfl); have e182 := (hev 14 _ 182 rfl rfl).trans (hd ⟨14, .data⟩ (by simp) rfl); clear hev hev0 hd; go_wp2; exact sQ rfl
         ·intro xx af wv hbx hev hev0 hd; have e20 : af.tmps[20]?.getD undef = .slice (some ⟨gc, 0, none⟩) cl.length cl.length := hev0 20 rfl; clear hev hev0 hd; go_wp2; exact sQ rfl
         ·intro xx af wv hbx hev hev0 hd; have e21 : af.tmps[21]?.getD undef = .int .i64 (i : Nat) := hev0 21 rfl; clear hev hev0 hd; go_wp2; exact sQ rfl
         ·intro xx af wv hbx hev hev0 hd; have e184 := (hev 16 _ 184 rfl rfl).trans (hd ⟨16, .data⟩ (by simp) rfl); have e185 := (hev 17 _ 185 rfl rfl).trans (hd ⟨17, .data⟩ (by simp) rfl); clear hev hev0 hd; go_wp2; exact sQ rfl
         ·intro xx af wv hbx hev hev0 hd; have e186 := (hev 18 _ 186 rfl rfl).trans (hd ⟨18, .data⟩ (by simp) rfl); clear hev hev0 hd; have hs1 := zh (HV9.out.call hbx); have yf0 := hs1.out.cellE 0 rfl HIN.out; rw [HCI.out] at yf0; go_wp2; exact sQ rfl
         ·intro xx af wv hbx hev hev0 hd; have e187 := (hev 19 _ 187 rfl rfl).trans (hd ⟨19, .data⟩ (by simp) rfl); clear hev hev0 hd; go_wp2; exact sQ rfl
         ·intro xx af wv hbx hev hev0 hd; have e188 := (hev 20 _ 188 rfl rfl).trans (hd ⟨20, .data⟩ (by simp) rfl); clear hev hev0 hd; go_wp2; exact sQ rfl
         ·intro xx af wv hbx hev hev0 hd; have e189 := (hev 21 _ 189 rfl rfl).trans (hd ⟨21, .guard⟩ (by simp) rfl); have q189 := a0a e189; clear hev hev0 hd; go_wp2; exact sQ rfl
         ·intro xx af wv hbx hev hev0 hd; have e189 := (hev 21 _ 189 rfl rfl).trans (hd ⟨21, .guard⟩ (by simp) rfl); have q189 := a0a e189; clear hev hev0 hd; go_wp2; exact sQ rfl
         ·intro xx af wv hbx hev hev0 hd; have e189 := (hev 21 _ 189 rfl rfl).trans (hd ⟨21, .guard⟩ (by simp) rfl); have q189 := a0a e189; clear hev hev0 hd; go_wp2; exact sQ rfl
         ·intro xx af wv hbx hev hev0 hd; have e189 := (hev 21 _ 189 rfl rfl).trans (hd ⟨21, .guard⟩ (by simp) rfl); have q189 := a0a e189; clear hev hev0 hd; go_wp2; exact sQ rfl
         ·intro xx af wv hbx hev hev0 hd; have e189 := (hev 21 _ 189 rfl rfl).trans (hd ⟨21, .guard⟩ (by simp) rfl); have q189 := a0a e189; clear hev hev0 hd; go_wp2; exact sQ rfl
         ·intro xx af wv hbx hev hev0 hd; have e189 := (hev 21 _ 189 rfl rfl).trans (hd ⟨21, .guard⟩ (by simp) rfl); have q189 := a0a e189; clear hev hev0 hd; go_wp2; exact sQ rfl
         ·intro xx af wv hbx hev hev0 hd; have e189 := (hev 21 _ 189 rfl rfl).trans (hd ⟨21, .guard⟩ (by simp) rfl); have q189 := a0a e189; clear hev hev0 hd; go_wp2; exact sQ rfl
         ·intro xx af wv hbx hev hev0 hd; have e189 := (hev 21 _ 189 rfl rfl).trans (hd ⟨21, .guard⟩ (by simp) rfl); have q189 := a0a e189; clear hev hev0 hd; go_wp2; exact sQ rfl
         ·intro xx af wv hbx hev hev0 hd; have e189 := (hev 21 _ 189 rfl rfl).trans (hd ⟨21, .guard⟩ (by simp) rfl); have q189 := a0a e189; clear hev hev0 hd; go_wp2; exact sQ rfl
         ·intro xx af wv hbx hev hev0 hd; have e189 := (hev 21 _ 189 rfl rfl).trans (hd ⟨21, .data⟩ (by simp) rfl); have e198 := (hev 30 _ 198 rfl rfl).trans (hd ⟨30, .data⟩ (by simp) rfl); clear hev hev0 hd; go_wp2; exact sQ rfl
         intro xx w10 hb9 hv
         simp only [List.take, List.drop, a0h, Act.put]
         simp only [show xx 0 = _ from hv 0 (by decide), show xx 1 = _ from hv 1 (by decide), show xx 2 = _ from hv 2 (by decide), show xx 3 = _ from hv 3 (by decide), show xx 4 = _ from hv 4 (by decide), show xx 5 = _ from hv 5 (by decide), show xx 6 = _ from hv 6 (by decide), show xx 7 = _ from hv 7 (by decide), show xx 8 = _ from hv 8 (by decide), show xx 9 = _ from hv 9 (by decide), show xx 10 = _ from hv 10 (by decide), show xx 11 = _ from hv 11 (by decide), show xx 12 = _ from hv 12 (by decide), show xx 13 = _ from hv 13 (by decide), show xx 14 = _ from hv 14 (by decide), show xx 15 = _ from hv 15 (by decide), show xx 16 = _ from hv 16 (by decide), show xx 17 = _ from hv 17 (by decide), show xx 18 = _ from hv 18 (by decide), show xx 19 = _ from hv 19 (by decide), show xx 20 = _ from hv 20 (by decide), show xx 21 = _ from hv 21 (by decide), show xx 22 = _ from hv 22 (by decide), show xx 23 = _ from hv 23 (by decide), show xx 24 = _ from hv 24 (by decide), show xx 25 = _ from hv 25 (by decide), show xx 26 = _ from hv 26 (by decide), show xx 27 = _ from hv 27 (by decide), show xx 28 = _ from hv 28 (by decide), show xx 29 = _ from hv 29 (by decide), show xx 30 = _ from hv 30 (by decide), show xx 31 = _ from hv 31 (by decide)]
         clear hv
         have HV10 := zh (HV9.out.call hb9)
         clear hb9 HV9
         go_wp2
         go_roundw
         case rel => exact ⟨j + 1, by omega, by go_num, HV10.out⟩
         case measure => simp [intOf]; omega
        rw [hm] at hy
        have HY := zh hy
        obtain ⟨ha, hb, hc⟩ := hrel (hmr hm)
        have n0 : decide (fi < 0) = false := decide_eq_false (by omega)
        have n1 : decide ((0 : Int) <= fi) = true := decide_eq_true (by omega)
        have n2 : decide ((0 : Int) <= ci) = true := decide_eq_true (by omega)
        have n3 : (fi == fj) = true := beq_iff_eq.2 (by omega)
        have n4 : (ci == cj) = true := beq_iff_eq.2 (by omega)
        have n5 : (fi != fj) = false := by rw [bne_eq_false_iff_eq]; exact hb
        have n6 : decide (gj <= gi) = false := decide_eq_false (by omega)
        clear ha hb hc
        clear hy hrel hiff hii hmr hm
        go_wp2
        refine a0g 35 [.slice (some ⟨b0, o0, none⟩) cl.length cm, .int .i64 (i : Nat), .pointer (some ⟨b0, o0 + i, none⟩), .slice (some ⟨gr, 0, none⟩) cl.length cl.length, .int .i64 (j : Nat), .pointer (some ⟨gr, j, none⟩), .bool true, .bool true, .slice (some ⟨w6.heap.size, 0, none⟩) cl.length cl.length, .int .i64 (i : Nat), .pointer (some ⟨w6.heap.size, i, none⟩), .int .i64 fi, .bool false, .bool false, .slice (some ⟨w6.heap.size, 0, none⟩) cl.length cl.length, .int .i64 (i : Nat), .pointer (some ⟨w6.heap.size, i, none⟩), .int .i64 fi, .slice (some ⟨w6.heap.size, 0, none⟩) cl.length cl.length, .int .i64 (j : Nat), .pointer (some ⟨w6.heap.size, j, none⟩), .int .i64 fj, .bool false, .bool false, .bool false, .slice (some ⟨w6.heap.size + 1, 0, none⟩) cl.length cl.length, .int .i64 (i : Nat), .pointer (some ⟨w6.heap.size + 1, i, none⟩), .int .i64 gi, .slice (some ⟨w6.heap.size + 1, 0, none⟩) cl.length cl.length, .int .i64 (j : Nat), .pointer (some ⟨w6.heap.size + 1, j, none⟩), .int .i64 gj, .bool false, .bool false] rfl (by kernel_rfl) (by kernel_rfl) (by kernel_rfl) ?_ ?_
        refine ⟨?_, ?_, ?_, ?_, ?_, ?_, ?_, ?_, ?_, ?_, ?_, ?_, ?_, ?_, ?_, ?_, ?_, ?_, ?_, ?_, ?_, ?_, ?_, ?_, ?_, ?_, ?_, ?_, ?_, ?_, ?_, ?_, ?_, ?_, ?_, trivial⟩
        ·intro xx af wv hbx hev hev0 hd; have e10 : af.tmps[10]?.getD undef = .slice (some ⟨b0, o0, none⟩) cl.length cm := hev0 10 rfl; clear hev hev0 hd; go_wp2; exact sQ rfl
        ·intro xx af wv hbx hev hev0 hd; have e21 : af.tmps[21]?.getD undef = .int .i64 (i : Nat) := hev0 21 rfl; clear hev hev0 hd; go_wp2; exact sQ rfl
        ·intro xx af wv hbx hev hev0 hd; have e132 := (hev 0 _ 132 rfl rfl).trans (hd ⟨0, .data⟩ (by simp) rfl); have e133 := (hev 1 _ 133 rfl rfl).trans (hd ⟨1, .data⟩ (by simp) rfl); clear hev hev0 hd; go_wp2; exact sQ rfl
        ·intro xx af wv hbx hev hev0 hd; have e134 := (hev 2 _ 134 rfl rfl).trans (hd ⟨2, .data⟩ (by simp) rfl); clear hev hev0 hd; have hs1 := zh (HV.out.call hbx); have y0 := HX.out _ hs1.out.below 0 _ rfl; rw [Nat.add_zero] at y0; go_wp2; exact sQ rfl
        ·intro xx af wv hbx hev hev0 hd; have e22 : af.tmps[22]?.getD undef = .int .i64 (j : Nat) := hev0 22 rfl; clear hev hev0 hd; go_wp2; exact sQ rfl
        ·intro xx af wv hbx hev hev0 hd; have e135 := (hev 3 _ 135 rfl rfl).trans (hd ⟨3, .data⟩ (by simp) rfl); have e136 := (hev 4 _ 136 rfl rfl).trans (hd ⟨4, .data⟩ (by simp) rfl); clear hev hev0 hd; go_wp2; exact sQ rfl
        ·intro xx af wv hbx hev hev0 hd; have e137 := (hev 5 _ 137 rfl rfl).trans (hd ⟨5, .data⟩ (by simp) rfl); clear hev hev0 hd; have hs1 := zh (HV.out.call hbx); have y0 := HY.out _ hs1.out.below 0 _ rfl; rw [Nat.add_zero] at y0; go_wp2; exact sQ rfl
        ·intro xx af wv hbx hev hev0 hd; have e138 := (hev 6 _ 138 rfl rfl).trans (hd ⟨6, .data⟩ (by simp) rfl); clear hev hev0 hd; go_wp2; exact sQ rfl
        ·intro xx af wv hbx hev hev0 hd; have e139 := (hev 7 _ 139 rfl rfl).trans (hd ⟨7, .guard⟩ (by simp) rfl); have e11 : af.tmps[11]?.getD undef = .slice (some ⟨w6.heap.size, 0, none⟩) cl.length cl.length := hev0 11 rfl; have q139 := a0a e139; clear hev hev0 hd; go_wp2; exact sQ rfl
        ·intro xx af wv hbx hev hev0 hd; have e139 := (hev 7 _ 139 rfl rfl).trans (hd ⟨7, .guard⟩ (by simp) rfl); have e21 : af.tmps[21]?.getD undef = .int .i64 (i : Nat) := hev0 21 rfl; have q139 := a0a e139; clear hev hev0 hd; go_wp2; exact sQ rfl
        ·intro xx af wv hbx hev hev0 hd; have e139 := (hev 7 _ 139 rfl rfl).trans (hd ⟨7, .guard⟩ (by simp) rfl); have e140 := (hev 8 _ 140 rfl rfl).trans (hd ⟨8, .data⟩ (by simp) rfl); have e141 := (hev 9 _ 141 rfl rfl).trans (hd ⟨9, .data⟩ (by simp) rfl); have q139 := a0a e139; clear hev hev0 hd; go_wp2; exact sQ rfl
        ·intro xx af wv hbx hev hev0 hd; have e139 := (hev 7 _ 139 rfl rfl).trans (hd ⟨7, .guard⟩ (by simp) rfl); have e142 := (hev 10 _ 142 rfl rfl).trans (hd ⟨10, .data⟩ (by simp) rfl); have q139 := a0a e139; clear hev hev0 hd; have hs1 := zh (HV.out.call hbx); have yf0 := hs1.out.cellE 2 rfl HIN.out; rw [HFI.out] at yf0; go_wp2; exact sQ rfl
        ·intro xx af wv hbx hev hev0 hd; have e139 := (hev 7 _ 139 rfl rfl).trans (hd ⟨7, .guard⟩ (by simp) rfl); have e143 := (hev 11 _ 143 rfl rfl).trans (hd ⟨11, .data⟩ (by simp) rfl); have q139 := a0a e139; clear hev hev0 hd; go_wp2; exact sQ rfl
        ·intro xx af wv hbx hev hev0 hd; have e139 := (hev 7 _ 139 rfl rfl).trans (hd ⟨7, .chain⟩ (by simp) rfl); have e144 := (hev 12 _ 144 rfl rfl).trans (hd ⟨12, .data⟩ (by simp) rfl); have q139 := a0a e139; clear hev hev0 hd; go_wp2; exact sQ rfl
        ·intro xx af wv hbx hev hev0 hd; have e145 := (hev 13 _ 145 rfl rfl).trans (hd ⟨13, .guard⟩ (by simp) rfl); have e11 : af.tmps[11]?.getD undef = .slice (some ⟨w6.heap.size, 0, none⟩) cl.length cl.length := hev0 11 rfl; have q145 := a0a e145; clear hev hev0 hd; go_wp2; exact sQ rfl
        ·intro xx af wv hbx hev hev0 hd; have e145 := (hev 13 _ 145 rfl rfl).trans (hd ⟨13, .guard⟩ (by simp) rfl); have e21 : af.tmps[21]?.getD undef = .int .i64 (i : Nat) := hev0 21 rfl; have q145 := a0a e145; clear hev hev0 hd; go_wp2; exact sQ rfl
        ·intro xx af wv hbx hev hev0 hd; have e145 := (hev 13 _ 145 rfl rfl).trans (hd ⟨13, .guard⟩ (by simp) rfl); have e146 := (hev 14 _ 146 rfl rfl).trans (hd ⟨14, .data⟩ (by simp) rfl); have e147 := (hev 15 _ 147 rfl rfl).trans (hd ⟨15, .data⟩ (by simp) rfl); have q145 := a0a e145; clear hev hev0 hd; go_wp2; exact sQ rfl
        ·intro xx af wv hbx hev hev0 hd; have e145 := (hev 13 _ 145 rfl rfl).trans (hd ⟨13, .guard⟩ (by simp) rfl); have e148 := (hev 16 _ 148 rfl rfl).trans (hd ⟨16, .data⟩ (by simp) rfl); have q145 := a0a e145; clear hev hev0 hd; have hs1 := zh (HV.out.call hbx); have yf0 := hs1.out.cellE 2 rfl HIN.out; rw [HFI.out] at yf0; go_wp2; exact sQ rfl
        ·intro xx af wv hbx hev hev0 hd; have e145 := (hev 13 _ 145 rfl rfl).trans (hd ⟨13, .guard⟩ (by simp) rfl); have e11 : af.tmps[11]?.getD undef = .slice (some ⟨w6.heap.size, 0, none⟩) cl.length cl.length := hev0 11 rfl; have q145 := a0a e145; clear hev hev0 hd; go_wp2; exact sQ rfl
        ·intro xx af wv hbx hev hev0 hd; have e145 := (hev 13 _ 145 rfl rfl).trans (hd ⟨13, .guard⟩ (by simp) rfl); have e22 : af.tmps[22]?.getD undef = .int .i64 (j : Nat) := hev0 22 rfl; have q145 := a0a e145; clear hev hev0 hd; go_wp2; exact sQ rfl
        ·intro xx af wv hbx hev hev0 hd; have e145 := (hev 13 _ 145 rfl rfl).trans (hd ⟨13, .guard⟩ (by simp) rfl); have e150 := (hev 18 _ 150 rfl rfl).trans (hd ⟨18, .data⟩ (by simp) rfl); have e151 := (hev 19 _ 151 rfl rfl).trans (hd ⟨19, .data⟩ (by simp) rfl); have q145 := a0a e145; clear hev hev0 hd; go_wp2; exact sQ rfl
        ·intro xx af wv hbx hev hev0 hd; have e145 := (hev 13 _ 145 rfl rfl).trans (hd ⟨13, .guard⟩ (by simp) rfl); have e152 := (hev 20 _ 152 rfl rfl).trans (hd ⟨20, .data⟩ (by simp) rfl); have q145 := a0a e145; clear hev hev0 hd; have hs1 := zh (HV.out.call hbx); have yf0 := hs1.out.cellE 2 rfl HJN.out; rw [HFJ.out] at yf0; go_wp2; exact sQ rfl
        ·intro xx af wv hbx hev hev0 hd; have e145 := (hev 13 _ 145 rfl rfl).trans (hd ⟨13, .guard⟩ (by simp) rfl); have e149 := (hev 17 _ 149 rfl rfl).trans (hd ⟨17, .data⟩ (by simp) rfl); have e153 := (hev 21 _ 153 rfl rfl).trans (hd ⟨21, .data⟩ (by simp) rfl); have q145 := a0a e145; clear hev hev0 hd; go_wp2; exact sQ rfl
        ·intro xx af wv hbx hev hev0 hd; have e139 := (hev 7 _ 139 rfl rfl).trans (hd ⟨7, .guard⟩ (by simp) rfl); have e145 := (hev 13 _ 145 rfl rfl).trans (hd ⟨13, .data⟩ (by simp) rfl); have e154 := (hev 22 _ 154 rfl rfl).trans (hd ⟨22, .data⟩ (by simp) rfl); have q139 := a0a e139; clear hev hev0 hd; go_wp2; exact sQ rfl
        ·intro xx af wv hbx hev hev0 hd; have e139 := (hev 7 _ 139 rfl rfl).trans (hd ⟨7, .guard⟩ (by simp) rfl); have e155 := (hev 23 _ 155 rfl rfl).trans (hd ⟨23, .data⟩ (by simp) rfl); have q139 := a0a e139; clear hev hev0 hd; go_wp2; exact sQ rfl
        ·intro xx af wv hbx hev hev0 hd; have e156 := (hev 24 _ 156 rfl rfl).trans (hd ⟨24, .guard⟩ (by simp) rfl); have e12 : af.tmps[12]?.getD undef = .slice (some ⟨w6.heap.size + 1, 0, none⟩) cl.length cl.length := hev0 12 rfl; have q156 := a0a e156; clear hev hev0 hd; go_wp2; exact sQ rfl
        ·intro xx af wv hbx hev hev0 hd; have e156 := (hev 24 _ 156 rfl rfl).trans (hd ⟨24, .guard⟩ (by simp) rfl); have e21 : af.tmps[21]?.getD undef = .int .i64 (i : Nat) := hev0 21 rfl; have q156 := a0a e156; clear hev hev0 hd; go_wp2; exact sQ rfl
        ·intro xx af wv hbx hev hev0 hd; have e156 := (hev 24 _ 156 rfl rfl).trans (hd ⟨24, .guard⟩ (by simp) rfl); have e157 := (hev 25 _ 157 rfl rfl).trans (hd ⟨25, .data⟩ (by simp) rfl); have e158 := (hev 26 _ 158 rfl rfl).trans (hd ⟨26, .data⟩ (by simp) rfl); have q156 := a0a e156; clear hev hev0 hd; go_wp2; exact sQ rfl
        ·intro xx af wv hbx hev hev0 hd; have e156 := (hev 24 _ 156 rfl rfl).trans (hd ⟨24, .guard⟩ (by simp) rfl); have e159 := (hev 27 _ 159 rfl rfl).trans (hd ⟨27, .data⟩ (by simp) rfl); have q156 := a0a e156; clear hev hev0 hd; have hs1 := zh (HV.out.call hbx); have yf0 := hs1.out.cellE 1 rfl HIN.out; rw [HGI.out] at yf0; go_wp2; exact sQ rfl
        ·intro xx af wv hbx hev hev0 hd; have e156 := (hev 24 _ 156 rfl rfl).trans (hd ⟨24, .guard⟩ (by simp) rfl); have e12 : af.tmps[12]?.getD undef = .slice (some ⟨w6.heap.size + 1, 0, none⟩) cl.length cl.length := hev0 12 rfl; have q156 := a0a e156; clear hev hev0 hd; go_wp2; exact sQ rfl
        ·intro xx af wv hbx hev hev0 hd; have e156 := (hev 24 _ 156 rfl rfl).trans (hd ⟨24, .guard⟩ (by simp) rfl); have e22 : af.tmps[22]?.getD undef = .int .i64 (j : Nat) := hev0 22 rfl; have q156 := a0a e156; clear hev hev0 hd; go_wp2; exact sQ rfl
        ·intro xx af wv hbx hev hev0 hd; have e156 := (hev 24 _ 156 rfl rfl).trans (hd ⟨24, .guard⟩ (by simp) rfl); have e161 := (hev 29 _ 161 rfl rfl).trans (hd ⟨29, .data⟩ (by simp) rfl); have e162 := (hev 30 _ 162 rfl rfl).trans (hd ⟨30, .data⟩ (by simp) rfl); have q156 := a0a e156; clear hev hev0 hd; go_wp2; exact sQ rfl
        ·intro xx af wv hbx hev hev0 hd; have e156 := (hev 24 _ 156 rfl rfl).trans (hd ⟨24, .guard⟩ (by simp) rfl); have e163 := (hev 31 _ 163 rfl rfl).trans (hd ⟨31, .data⟩ (by simp) rfl); have q156 := a0a e156; clear hev hev0 hd; have hs1 := zh (HV.out.call hbx); have yf0 := hs1.out.cellE 1 rfl HJN.out; rw [HGJ.out] at yf0; go_wp2; exact sQ rfl
        ·intro xx af wv hbx hev hev0 hd; have e156 := (hev 24 _ 156 rfl rfl).trans (hd ⟨24, .guard⟩ (by simp) rfl); have e160 := (hev 28 _ 160 rfl rfl).trans (hd ⟨28, .data⟩ (by simp) rfl); have e164 := (hev 32 _ 164 rfl rfl).trans (hd ⟨32, .data⟩ (by simp) rfl); have q156 := a0a e156; clear hev hev0 hd; go_wp2; exact sQ rfl
        ·intro xx af wv hbx hev hev0 hd; have e139 := (hev 7 _ 139 rfl rfl).trans (hd ⟨7, .guard⟩ (by simp) rfl); have e156 := (hev 24 _ 156 rfl rfl).trans (hd ⟨24, .data⟩ (by simp) rfl); have e165 := (hev 33 _ 165 rfl rfl).trans (hd ⟨33, .data⟩ (by simp) rfl); have q139 := a0a e139; clear hev hev0 hd; go_wp2; exact sQ rfl
        intro xx w9 hb9 hv
        simp only [List.take, List.drop, a0h, Act.put]
        simp only [show xx 0 = _ from hv 0 (by decide), show xx 1 = _ from hv 1 (by decide), show xx 2 = _ from hv 2 (by decide), show xx 3 = _ from hv 3 (by decide), show xx 4 = _ from hv 4 (by decide), show xx 5 = _ from hv 5 (by decide), show xx 6 = _ from hv 6 (by decide), show xx 7 = _ from hv 7 (by decide), show xx 8 = _ from hv 8 (by decide), show xx 9 = _ from hv 9 (by decide), show xx 10 = _ from hv 10 (by decide), show xx 11 = _ from hv 11 (by decide), show xx 12 = _ from hv 12 (by decide), show xx 13 = _ from hv 13 (by decide), show xx 14 = _ from hv 14 (by decide), show xx 15 = _ from hv 15 (by decide), show xx 16 = _ from hv 16 (by decide), show xx 17 = _ from hv 17 (by decide), show xx 18 = _ from hv 18 (by decide), show xx 19 = _ from hv 19 (by decide), show xx 20 = _ from hv 20 (by decide), show xx 21 = _ from hv 21 (by decide), show xx 22 = _ from hv 22 (by decide), show xx 23 = _ from hv 23 (by decide), show xx 24 = _ from hv 24 (by decide), show xx 25 = _ from hv 25 (by decide), show xx 26 = _ from hv 26 (by decide), show xx 27 = _ from hv 27 (by decide), show xx 28 = _ from hv 28 (by decide), show xx 29 = _ from hv 29 (by decide), show xx 30 = _ from hv 30 (by decide), show xx 31 = _ from hv 31 (by decide), show xx 32 = _ from hv 32 (by decide), show xx 33 = _ from hv 33 (by decide), show xx 34 = _ from hv 34 (by decide)]
        clear hv
        have HV9 := zh (HV.out.call hb9)
        clear hb9 HV
        go_wp2
        refine a0g 32 [.slice (some ⟨w6.heap.size, 0, none⟩) cl.length cl.length, .int .i64 (i : Nat), .pointer (some ⟨w6.heap.size, i, none⟩), .int .i64 fi, .bool true, .bool true, .slice (some ⟨w6.heap.size, 0, none⟩) cl.length cl.length, .int .i64 (i : Nat), .pointer (some ⟨w6.heap.size, i, none⟩), .int .i64 fi, .slice (some ⟨w6.heap.size, 0, none⟩) cl.length cl.length, .int .i64 (j : Nat), .pointer (some ⟨w6.heap.size, j, none⟩), .int .i64 fj, .bool true, .bool true, .slice (some ⟨gc, 0, none⟩) cl.length cl.length, .int .i64 (i : Nat), .pointer (some ⟨gc, i, none⟩), .int .i64 ci, .bool true, .bool true, .slice (some ⟨gc, 0, none⟩) cl.length cl.length, .int .i64 (i : Nat), .pointer (some ⟨gc, i, none⟩), .int .i64 ci, .slice (some ⟨gc, 0, none⟩) cl.length cl.length, .int .i64 (j : Nat), .pointer (some ⟨gc, j, none⟩), .int .i64 cj, .bool true, .bool true] rfl (by kernel_rfl) (by kernel_rfl) (by kernel_rfl) ?_ ?_
        refine ⟨?_, ?_, ?_, ?_, ?_, ?_, ?_, ?_, ?_, ?_, ?_, ?_, ?_, ?_, ?_, ?_, ?_, ?_, ?_, ?_, ?_, ?_, ?_, ?_, ?_, ?_, ?_, ?_, ?_, ?_, ?_, ?_, trivial⟩
        ·intro xx af wv hbx hev hev0 hd; have e11 : af.tmps[11]?.getD undef = .slice (some ⟨w6.heap.size, 0, none⟩) cl.length cl.length := hev0 11 rfl; clear hev hev0 hd; go_wp2; exact sQ rfl
        ·intro xx af wv hbx hev hev0 hd; have e21 : af.tmps[21]?.getD undef = .int .i64 (i : Nat) := hev0 21 rfl; clear hev hev0 hd; go_wp2; exact sQ rfl
        ·intro xx af wv hbx hev hev0 hd; have e168 := (hev 0 _ 168 rfl rfl).trans (hd ⟨0, .data⟩ (by simp) rfl); have e169 := (hev 1 _ 169 rfl rfl).trans (hd ⟨1, .data⟩ (by simp) rfl); clear hev hev0 hd; go_wp2; exact sQ rfl
        ·intro xx af wv hbx hev hev0 hd; have e170 := (hev 2 _ 170 rfl rfl).trans (hd ⟨2, .data⟩ (by simp) rfl); clear hev hev0 hd; have hs1 := zh (HV9.out.call hbx); have yf0 := hs1.out.cellE 2 rfl HIN.out; rw [HFI.out] at yf0; go_wp2; exact sQ rfl
        ·intro xx af wv hbx hev hev0 hd; have e171 := (hev 3 _ 171 rfl rfl).trans (hd ⟨3, .data⟩ (by simp) rfl); clear hev hev0 hd; go_wp2; exact sQ rfl
        ·intro xx af wv hbx hev hev0 hd; have e172 := (hev 4 _ 172 rfl rfl).trans (hd ⟨4, .data⟩ (by simp) rfl); clear hev hev0 hd; go_wp2; exact sQ rfl
        ·intro xx af wv hbx hev hev0 hd; have e173 := (hev 5 _ 173 rfl rfl).trans (hd ⟨5, .guard⟩ (by simp) rfl); have e11 : af.tmps[11]?.getD undef = .slice (some ⟨w6.heap.size, 0, none⟩) cl.length cl.length := hev0 11 rfl; have q173 := a0a e173; clear hev hev0 hd; go_wp2; exact sQ rfl
        ·intro xx af wv hbx hev hev0 hd; have e173 := (hev 5 _ 173 rfl rfl).trans (hd ⟨5, .guard⟩ (by simp) rfl); have e21 : af.tmps[21]?.getD undef = .int .i64 (i : Nat) := hev0 21 rfl; have q173 := a0a e173; clear hev hev0 hd; go_wp2; exact sQ rfl
        ·intro xx af wv hbx hev hev0 hd; have e173 := (hev 5 _ 173 rfl rfl).trans (hd ⟨5, .guard⟩ (by simp) rfl); have e174 := (hev 6 _ 174 rfl rfl).trans (hd ⟨6, .data⟩ (by simp) rfl); have e175 := (hev 7 _ 175 rfl rfl).trans (hd ⟨7, .data⟩ (by simp) rfl); have q173 := a0a e173; clear hev hev0 hd; go_wp2; exact sQ rfl
        ·intro xx af wv hbx hev hev0 hd; have e173 := (hev 5 _ 173 rfl rfl).trans (hd ⟨5, .guard⟩ (by simp) rfl); have e176 := (hev 8 _ 176 rfl rfl).trans (hd ⟨8, .data⟩ (by simp) rfl); have q173 := a0a e173; clear hev hev0 hd; have hs1 := zh (HV9.out.call hbx); have yf0 := hs1.out.cellE 2 rfl HIN.out; rw [HFI.out] at yf0; go_wp2; exact sQ rfl
        ·intro xx af wv hbx hev hev0 hd; have e173 := (hev 5 _ 173 rfl rfl).trans (hd ⟨5, .guard⟩ (by simp) rfl); have e11 : af.tmps[11]?.getD undef = .slice (some ⟨w6.heap.size, 0, none⟩) cl.length cl.length := hev0 11 rfl; have q173 := a0a e173; clear hev hev0 hd; go_wp2; exact sQ rfl
        ·intro xx af wv hbx hev hev0 hd; have e173 := (hev 5 _ 173 rfl rfl).trans (hd ⟨5, .guard⟩ (by simp) rfl); have e22 : af.tmps[22]?.getD undef = .int .i64 (j : Nat) := hev0 22 rfl; have q173 := a0a e173; clear hev hev0 hd; go_wp2; exact sQ rfl
        ·intro xx af wv hbx hev hev0 hd; have e173 := (hev 5 _ 173 rfl rfl).trans (hd ⟨5, .guard⟩ (by simp) rfl); have e178 := (hev 10 _ 178 rfl rfl).trans (hd ⟨10, .data⟩ (by simp) rfl); have e179 := (hev 11 _ 179 rfl rfl).trans (hd ⟨11, .data⟩ (by simp) rfl); have q173 := a0a e173; clear hev hev0 hd; go_wp2; exact sQ rfl
        ·intro xx af wv hbx hev hev0 hd; have e173 := (hev 5 _ 173 rfl rfl).trans (hd ⟨5, .guard⟩ (by simp) rfl); have e180 := (hev 12 _ 180 rfl rfl).trans (hd ⟨12, .data⟩ (by simp) rfl); have q173 := a0a e173; clear hev hev0 hd; have hs1 := zh (HV9.out.call hbx); have yf0 := hs1.out.cellE 2 rfl HJN.out; rw [HFJ.out] at yf0; go_wp2; exact sQ rfl
        ·intro xx af wv hbx hev hev0 hd; have e173 := (hev 5 _ 173 rfl rfl).trans (hd ⟨5, .guard⟩ (by simp) rfl); have e177 := (hev 9 _ 177 rfl rfl).trans (hd ⟨9, .data⟩ (by simp) rfl); have e181 := (hev 13 _ 181 rfl rfl).trans (hd ⟨13, .data⟩ (by simp) rfl); have q173 := a0a e173; clear hev hev0 hd; go_wp2; exact sQ rfl
        ·intro xx af wv hbx hev hev0 hd; have e173 := (hev 5 _ 173 rfl rfl).trans (hd ⟨5, .data⟩ (by simp) rfl); have e182 := (hev 14 _ 182 rfl rfl).trans (hd ⟨14, .data⟩ (by simp) rfl); clear hev hev0 hd; go_wp2; exact sQ rfl
        ·intro xx af wv hbx hev hev0 hd; have e20 : af.tmps[20]?.getD undef = .slice (some ⟨gc, 0, none⟩) cl.length cl.length := hev0 20 rfl; clear hev hev0 hd; go_wp2; exact sQ rfl
        ·intro xx af wv hbx hev hev0 hd; have e21 : af.tmps[21]?.getD undef = .int .i64 (i : Nat) := hev0 21 rfl; clear hev hev0 hd; go_wp2; exact sQ rfl
        ·intro xx af wv hbx hev hev0 hd; have e184 := (hev 16 _ 184 rfl rfl).trans (hd ⟨16, .data⟩ (by simp) rfl); have e185 := (hev 17 _ 185 rfl rfl).trans (hd ⟨17, .data⟩ (by simp) rfl); clear hev hev0 hd; go_wp2; exact sQ rfl
        ·intro xx af wv hbx hev hev0 hd; have e186 := (hev 18 _ 186 rfl rfl).trans (hd ⟨18, .data⟩ (by simp) rfl); clear hev hev0 hd; have hs1 := zh (HV9.out.call hbx); have yf0 := hs1.out.cellE 0 rfl HIN.out; rw [HCI.out] at yf0; go_wp2; exact sQ rfl
        ·intro xx af wv hbx hev hev0 hd; have e187 := (hev 19 _ 187 rfl rfl).trans (hd ⟨19, .data⟩ (by simp) rfl); clear hev hev0 hd; go_wp2; exact sQ rfl
        ·intro xx af wv hbx hev hev0 hd; have e188 := (hev 20 _ 188 rfl rfl).trans (hd ⟨20, .data⟩ (by simp) rfl); clear hev hev0 hd; go_wp2; exact sQ rfl
        ·intro xx af wv hbx hev hev0 hd; have e189 := (hev 21 _ 189 rfl rfl).trans (hd ⟨21, .guard⟩ (by simp) rfl); have e20 : af.tmps[20]?.getD undef = .slice (some ⟨gc, 0, none⟩) cl.length cl.length := hev0 20 rfl; have q189 := a0a e189; clear hev hev0 hd; go_wp2; exact sQ rfl
        ·intro xx af wv hbx hev hev0 hd; have e189 := (hev 21 _ 189 rfl rfl).trans (hd ⟨21, .guard⟩ (by simp) rfl); have e21 : af.tmps[21]?.getD undef = .int .i64 (i : Nat) := hev0 21 rfl; have q189 := a0a e189; clear hev hev0 hd; go_wp2; exact sQ rfl
        ·intro xx af wv hbx hev hev0 hd; have e189 := (hev 21 _ 189 rfl rfl).trans (hd ⟨21, .guard⟩ (by simp) rfl); have e190 := (hev 22 _ 190 rfl rfl).trans (hd ⟨22, .data⟩ (by simp) rfl); have e191 := (hev 23 _ 191 rfl rfl).trans (hd ⟨23, .data⟩ (by simp) rfl); have q189 := a0a e189; clear hev hev0 hd; go_wp2; exact sQ rfl
        ·intro xx af wv hbx hev hev0 hd; have e189 := (hev 21 _ 189 rfl rfl).trans (hd ⟨21, .guard⟩ (by simp) rfl); have e192 := (hev 24 _ 192 rfl rfl).trans (hd ⟨24, .data⟩ (by simp) rfl); have q189 := a0a e189; clear hev hev0 hd; have hs1 := zh (HV9.out.call hbx); have yf0 := hs1.out.cellE 0 rfl HIN.out; rw [HCI.out] at yf0; go_wp2; exact sQ rfl
        ·intro xx af wv hbx hev hev0 hd; have e189 := (hev 21 _ 189 rfl rfl).trans (hd ⟨21, .guard⟩ (by simp) rfl); have e20 : af.tmps[20]?.getD undef = .slice (some ⟨gc, 0, none⟩) cl.length cl.length := hev0 20 rfl; have q189 := a0a e189; clear hev hev0 hd; go_wp2; exact sQ rfl
        ·intro xx af wv hbx hev hev0 hd; have e189 := (hev 21 _ 189 rfl rfl).trans (hd ⟨21, .guard⟩ (by simp) rfl); have e22 : af.tmps[22]?.getD undef = .int .i64 (j : Nat) := hev0 22 rfl; have q189 := a0a e189; clear hev hev0 hd; go_wp2; exact sQ rfl
        ·intro xx af wv hbx hev hev0 hd; have e189 := (hev 21 _ 189 rfl rfl).trans (hd ⟨21, .guard⟩ (by simp) rfl); have e194 := (hev 26 _ 194 rfl rfl).trans (hd ⟨26, .data⟩ (by simp) rfl); have e195 := (hev 27 _ 195 rfl rfl).trans (hd ⟨27, .data⟩ (by simp) rfl); have q189 := a0a e189; clear hev hev0 hd; go_wp2; exact sQ rfl
        ·intro xx af wv hbx hev hev0 hd; have e189 := (hev 21 _ 189 rfl rfl).trans (hd ⟨21, .guard⟩ (by simp) rfl); have e196 := (hev 28 _ 196 rfl rfl).trans (hd ⟨28, .data⟩ (by simp) rfl); have q189 := a0a e189; clear hev hev0 hd; have hs1 := zh (HV9.out.call hbx); have yf0 := hs1.out.cellE 0 rfl HJN.out; rw [HCJ.out] at yf0; go_wp2; exact sQ rfl
        ·intro xx af wv hbx hev hev0 hd; have e189 := (hev 21 _ 189 rfl rfl).trans (hd ⟨21, .guard⟩ (by simp) rfl); have e193 := (hev 25 _ 193 rfl rfl).trans (hd ⟨25, .data⟩ (by simp) rfl); have e197 := (hev 29 _ 197 rfl rfl).trans (hd ⟨29, .data⟩ (by simp) rfl); have q189 := a0a e189; clear hev hev0 hd; go_wp2; exact sQ rfl
        ·intro xx af wv hbx hev hev0 hd; have e189 := (hev 21 _ 189 rfl rfl).trans (hd ⟨21, .data⟩ (by simp) rfl); have e198 := (hev 30 _ 198 rfl rfl).trans (hd ⟨30, .data⟩ (by simp) rfl); clear hev hev0 hd; go_wp2; exact sQ rfl
        intro xx w10 hb9 hv
        simp only [List.take, List.drop, a0h, Act.put]
        simp only [show xx 0 = _ from hv 0 (by decide), show xx 1 = _ from hv 1 (by decide), show xx 2 = _ from hv 2 (by decide), show xx 3 = _ from hv 3 (by decide), show xx 4 = _ from hv 4 (by decide), show xx 5 = _ from hv 5 (by decide), show xx 6 = _ from hv 6 (by decide), show xx 7 = _ from hv 7 (by decide), show xx 8 = _ from hv 8 (by decide), show xx 9 = _ from hv 9 (by decide), show xx 10 = _ from hv 10 (by decide), show xx 11 = _ from hv 11 (by decide), show xx 12 = _ from hv 12 (by decide), show xx 13 = _ from hv 13 (by decide), show xx 14 = _ from hv 14 (by decide), show xx 15 = _ from hv 15 (by decide), show xx 16 = _ from hv 16 (by decide), show xx 17 = _ from hv 17 (by decide), show xx 18 = _ from hv 18 (by decide), show xx 19 = _ from hv 19 (by decide), show xx 20 = _ from hv 20 (by decide), show xx 21 = _ from hv 21 (by decide), show xx 22 = _ from hv 22 (by decide), show xx 23 = _ from hv 23 (by decide), show xx 24 = _ from hv 24 (by decide), show xx 25 = _ from hv 25 (by decide), show xx 26 = _ from hv 26 (by decide), show xx 27 = _ from hv 27 (by decide), show xx 28 = _ from hv 28 (by decide), show xx 29 = _ from hv 29 (by decide), show xx 30 = _ from hv 30 (by decide), show xx 31 = _ from hv 31 (by decide)]
        clear hv
        have HV10 := zh (HV9.out.call hb9)
        clear hb9 HV9
        go_wp2
        go_roundw
        case rel => exact ⟨j + 1, by omega, by go_num, HV10.out⟩
        case measure => simp [intOf]; omega
       have hje : j = cl.length := by omega
       rw [hje]
       have g2 : decide (((cl.length : Nat) : Int) < (cl.length : Int)) = false := decide_eq_false (by omega)
       clear hje hj hjn
       go_wp2
       go_roundw
       case rel => exact ⟨i + 1, by omega, by go_num, HV.out⟩
       case measure => simp [intOf]; omega
     have hie : i = cl.length := by omega
     rw [hie]
     have e2 : decide (((cl.length : Nat) : Int) < (cl.length : Int)) = false := decide_eq_false (by omega)
     clear hie hi hin
     go_wp2_with fail
     refine (DA.out _).mono ?_
     rintro e w9 ⟨rfl, hb9⟩
     have HS9 := zh (HS.out.call hb9)
     clear hb9 HS
     have x2 := HP7.out _ HS9.out.below 0 _ rfl
     have x3 := HP7.out _ HS9.out.below 1 _ rfl
     go_wp2_with fail
     refine (b8g _ cl _ _ Rp Gp _ (N_6.out.below HS9.out.below) (Pp_6.out.below HS9.out.below) HNR.out (by have := LC.out; omega)).mono ?_
     rintro e w10 ⟨ve, rfl, hE, hb10⟩
     obtain ⟨Ae, ce, rfl, _, _⟩ := Slc.slice hE
     have HS10 := zh (HS9.out.call hb10)
     have E_10 := zh hE
     clear hE
     clear hb10 HS9
     clear x2 x3
     go_wp2_with fail
     refine (a9k false [] [] _ _ (estC cl Rp) Gp _ E_10.out (Pp_6.out.2.below HS10.out.below) HOK.out (by decide +kernel) (Nat.zero_le _) (Nat.zero_le _)).mono ?_
     rintro e w11 ⟨rfl, hb11⟩
     have HS11 := zh (HS10.out.call hb11)
     have E_11 := zh (E_10.out.below hb11)
     clear E_10
     clear hb11 HS10
     go_wp2
     go_ret
     exact ⟨rfl, HB0.out.trans (HS11.out.below.mono HB0.out.size)⟩
 have hr0 : nR = 0 := by have h0 := HEQ.out; rw [bne_iff_ne] at h0; rw [<- HNR.out, ((HCp.out).bad h0).1]; rfl
 subst hr0
 go_wp2_with fail
 have HS5 := zh (St.alloc (HS4.out) #[.slice Ap 0 cp, .slice Bp Gp.length dp] 29 (w4.heap.size) (by simp))
 refine (DA.out _).mono ?_
 rintro e w6 ⟨rfl, hb6⟩
 have HS6 := zh (HS5.out.call hb6)
 have N_6 := zh (N_4.out.below (Ext.trans (Ext.alloc (Below.refl w4.heap.size w4) (Obj.cells #[.slice Ap 0 cp, .slice Bp Gp.length dp] 29)) hb6))
 clear N_4
 have L_6 := zh (L_4.out.below (Ext.trans (Ext.alloc (Below.refl w4.heap.size w4) (Obj.cells #[.slice Ap 0 cp, .slice Bp Gp.length dp] 29)) hb6))
 clear L_4
 have Pp_6 := zh (Pp_4.out.below (Ext.trans (Ext.alloc (Below.refl w4.heap.size w4) (Obj.cells #[.slice Ap 0 cp, .slice Bp Gp.length dp] 29)) hb6))
 clear Pp_4
 clear hb6 HS4 HS5
 have x1 := HS6.out.cell 0 rfl 0 rfl
 go_wp2
 go_ret
 exact ⟨rfl, HS6.out.below⟩
end Go.Proofs.YtgdhpghfojccaaaGreatDoor
