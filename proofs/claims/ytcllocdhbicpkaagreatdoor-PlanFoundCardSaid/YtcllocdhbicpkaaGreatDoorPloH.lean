/-
PlanFound: the law walked (printed by gen_pln16.py).
-/
import Derived.Test.YtcllocdhbicpkaaGreatDoorPloG
import Derived.Test.YtcllocdhbicpkaaGreatDoorPlnU
import Derived.OwnWalk
import Derived.Deep.DeepCutAuto
namespace Go.Proofs.YtcllocdhbicpkaaGreatDoor
open Go.RowKit

theorem map_set_rtr (rs : List Rat) (j : Nat) (z : Rat) : (rs.map rtrOf).set j ⟨negB z, numB z, denomB z⟩ = (rs.set j z).map rtrOf := by rw [List.map_set]; rfl
theorem set_sized {N : Nat} {rs : List Rat} (h : ∀ r ∈ rs, Sized N r) (j : Nat) {z : Rat} (hz : Sized N z) : ∀ r ∈ rs.set j z, Sized N r := fun r hr => by
 rcases List.mem_or_eq_of_mem_set hr with h1 | h1
 ·exact h r h1
 ·rw [h1]; exact hz
theorem start_rtr (n : Nat) : List.replicate n rtr0 = (List.replicate n (0 : Rat)).map rtrOf := by rw [List.map_replicate, rtrOf_zero]
theorem resid_sz {q : Rat} {l : List Blc} {rs : List Rat} (hq : Sized 8 q) (hl : SmallBl 8 l) (h3 : l.length ≤ 3) (hr : ∀ r ∈ rs, Sized 1000 r) : Sized 100000 (resid q (l.zip rs)) := by
 have hz : (l.zip rs).length ≤ 3 := by rw [List.length_zip]; omega
 have := residTo_sized (M := 8) (N := 8) (R := 1000) (zl := l.zip rs) hq (fun x hx => ⟨hl.total (by decide) (mem_zip hx).1, hr _ (mem_zip hx).2⟩) (l.zip rs).length (Nat.le_refl _)
 rw [residTo_end] at this
 exact this.mono (by omega)

set_option maxRecDepth 100000 in
set_option maxHeartbeats 8000000 in
theorem law_PlanFound (m : Int) (v1 : Value) (ts : List Qua) (w : World) (hm : 0 ≤ m ∧ m ≤ 65535) (h1 : Quas w v1 ts) (hok : ∀ t ∈ ts, t.ok) :
  Calls Tryz.prog 7 #[.int .u16 m, v1] w fun e w' => e = .returned (.bool true) ∧ Below w.heap.size w w' := by
 obtain ⟨x, rfl⟩ : ∃ x : Nat, m = (x : Int) := ⟨m.toNat, by omega⟩
 have hV := fun W (hb : Below w.heap.size w W) => law0_VentureS x v1 ts W (by omega) (h1.below hb) hok
 have HAW := Lib.hid (fun W => law32_awake W)
 obtain ⟨hsm, hl3⟩ := blocsOf_small hok
 have hq8 := valueOf_sized x
 have hch := blocsOf_check x ts
 have hse := @search_sized x ts hok
 have hn0 := searchR_err hch
 have hT := fun v W (h : BlocsL W v (blocsOf ts)) => plan_SearchS (negB (valueOf x)) (numB (valueOf x)) (denomB (valueOf x)) v (blocsOf ts) W h (hsm.mono (by decide)) (Nat.le_trans hq8.num (by decide)) (Nat.le_trans hq8.denom (by decide))
 rw [dec_enc] at hT
 have hfd := fun rs (h : (confR (valueOf x) (blocsOf ts) rs).2 = 0) => law_found h
 have hso := fun h => @searchR_ok (valueOf x) (blocsOf ts) h
 generalize searchR (valueOf x) (blocsOf ts) = sr at *
 generalize blocsOf ts = l at *
 generalize valueOf x = q at *
 obtain ⟨x1, y1, n1⟩ := sr
 dsimp only at hT hse hn0 hfd hso
 subst hn0
 have hbs : y1 = true → Sized 100000 (resid q (search q l)) := fun hy => by
  obtain ⟨_, he, _⟩ := hso hy
  have h2 := (hse hy).2
  rw [he] at h2
  rw [← ratesOf_zip]
  exact resid_sz hq8 hsm hl3 h2
 have hPR := fun (hy : y1 = true) v rv W (h : BlocsL W v l) (hr : RatsL W rv (x1.map rtrOf)) => plan_Residue (negB q) (numB q) (denomB q) v l rv (x1.map rtrOf) W h hr (hsm.mono (by decide)) ((rtrs_small (hse hy).2).mono (by decide)) (Nat.le_trans hq8.num (by decide)) (Nat.le_trans hq8.denom (by decide))
 have hPC := fun (hy : y1 = true) v rv W (h : BlocsL W v l) (hr : RatsL W rv (x1.map rtrOf)) => plan_Confirm (negB q) (numB q) (denomB q) v l rv (x1.map rtrOf) W h hr (hsm.mono (by decide)) ((rtrs_small (hse hy).2).mono (by decide)) (Nat.le_trans hq8.num (by decide)) (Nat.le_trans hq8.denom (by decide))
 rw [dec_enc, rtrs_val] at hPR hPC
 have hr1 : y1 = true → residR q l x1 = (resid q (search q l), 0) := fun hy => by
  obtain ⟨_, he, _, h4⟩ := hso hy
  rw [he]; exact h4
 have hc1 : y1 = true → confR q l x1 = (-1, 0) := fun hy => by
  obtain ⟨_, he, h4, _⟩ := hso hy
  rw [he]; exact h4
 have hPR2 := fun (hy : y1 = true) => by
  have := hPR hy
  rw [hr1 hy] at this
  exact this
 have hPC2 := fun (hy : y1 = true) => by
  have := hPC hy
  rw [hc1 hy] at this
  exact this
 generalize resid q (search q l) = b0 at *
 have HFD := Lib.hid hfd
 have HV := Lib.hid hV
 have HT := Lib.hid hT
 have HSM := Lib.hid hsm
 have HQ8 := Lib.hid hq8
 have HBS := Lib.hid hbs
 have HPR := Lib.hid hPR2
 have HPC := Lib.hid hPC2
 clear hV hT hsm hq8 hch hse h1 hok hm hPR hPC hPR2 hPC2 hr1 hc1 hso hfd hbs
 go_enter Tryz.func7, Tryz.ntmps7
 have HS := Lib.hid (St.start w)
 go_wp2_with fail
 refine (HV.out _ HS.out.below).mono ?_
 rintro e w2 ⟨A2, c2, rfl, hl2, hb2⟩
 have HS2 := Lib.hid (HS.out.call hb2)
 have Q_2 := Lib.hid hl2
 clear hl2
 clear hb2 HS
 go_wp2_with fail
 have HS3 := Lib.hid (St.alloc (HS2.out) #[.bool (negB (q)), .string (bs (numB (q))), .string (bs (denomB (q))), .slice A2 l.length c2] 28 (w2.heap.size) (by simp))
 refine (HT.out _ _ (Q_2.out.below (Ext.alloc (Below.refl w2.heap.size w2) (Obj.cells #[.bool (negB (q)), .string (bs (numB (q))), .string (bs (denomB (q))), .slice A2 l.length c2] 28)))).mono ?_
 rintro e w4 ⟨A4, c4, rfl, hl4, hb4⟩
 have HS4 := Lib.hid (HS3.out.call hb4)
 have Q_4 := Lib.hid (Q_2.out.below (Ext.trans (Ext.alloc (Below.refl w2.heap.size w2) (Obj.cells #[.bool (negB (q)), .string (bs (numB (q))), .string (bs (denomB (q))), .slice A2 l.length c2] 28)) hb4))
 clear Q_2
 have X_4 := Lib.hid hl4
 clear hl4
 clear hb4 HS2 HS3
 have HSW := Lib.hid HS4.out
 have hbv : w2.heap.size < w4.heap.size := HSW.out.lt 0 rfl
 have HV5 : Hid (∀ w', Below w4.heap.size w4 w' → ∀ i u, ([.bool (negB (q)), .string (bs (numB (q))), .string (bs (denomB (q))), .slice A2 l.length c2] : List Value)[i]? = some u → w'.cell? ⟨w2.heap.size, i, none⟩ = some u) := by
  show ∀ w', _
  intro w' hb i u hu
  exact (((HSW.out.blk 0 rfl).below hb hbv).cell i u (by rw [← Array.getElem?_toList]; exact hu))
 have HQB := Lib.hid (fun W (hb : Below w4.heap.size w4 W) => Q_4.out.below hb)
 have HXB := Lib.hid (fun W (hb : Below w4.heap.size w4 W) => X_4.out.below hb)
 have HTC := Lib.hid (St.start w4)
 clear HS4 Q_4 X_4
 go_upto_if 41 with fail
 go_cut [] (fun wx => ∃ best : Rat, Hid (y1 = true → best = b0) ∧ Hid (Sized 100000 best) ∧ Hid (St w4 [⟨w4.heap.size, #[.bool (negB (best)), .string (bs (numB (best))), .string (bs (denomB (best)))], 25⟩] wx))
 case first =>
  cases y1
  ·go_wp2
   have HTC5 := Lib.hid (St.alloc (HTC.out) #[.bool false, .string (bs []), .string (bs [])] 25 (w4.heap.size) (by simp))
   go_meet
   case rel => exact ⟨0, fun h => by first | cases h | exact h.elim, sized_zero.mono (by decide), by show St _ _ _; rw [enc00.1, enc00.2.1, enc00.2.2]; exact HTC5.out⟩
  ·have hPRx := Lib.hid (by first | exact HPR.out rfl | exact HPR.out trivial | exact HPR.out)
   have hPCx := Lib.hid (by first | exact HPC.out rfl | exact HPC.out trivial | exact HPC.out)
   have hPR1 := hPRx.out
   have hPC1 := hPCx.out
   unfold rat raw at hPR1
   unfold raw at hPC1
   have HPR1 := Lib.hid hPR1
   have HPC1 := Lib.hid hPC1
   clear hPR1 hPC1 hPRx hPCx
   have x1 : w2.heap.size < w4.heap.size := Nat.lt_of_lt_of_le hbv HTC.out.below.size
   have x2 : ¬ w2.heap.size = w4.heap.size := by omega
   have x3 := HV5.out _ HTC.out.below 0 _ rfl
   have x4 := HV5.out _ HTC.out.below 1 _ rfl
   have x5 := HV5.out _ HTC.out.below 2 _ rfl
   have x6 := HV5.out _ HTC.out.below 3 _ rfl
   go_wp2_with fail
   have HTC5 := Lib.hid (St.alloc (HTC.out) #[.bool false, .string (bs []), .string (bs [])] 25 (w4.heap.size) (by simp))
   refine (HPR1.out _ _ _ (HQB.out _ HTC5.out.below) (HXB.out _ HTC5.out.below)).mono ?_
   rintro e w6 ⟨rfl, hb6⟩
   have HTC6 := Lib.hid (HTC5.out.call hb6)
   clear hb6 HTC HTC5
   clear x1 x2 x3 x4 x5 x6
   have x7 : w2.heap.size < w6.heap.size := Nat.lt_of_lt_of_le hbv HTC6.out.below.size
   have x8 : ¬ w2.heap.size = w6.heap.size := by omega
   have x9 := HV5.out _ HTC6.out.below 0 _ rfl
   have x10 := HV5.out _ HTC6.out.below 1 _ rfl
   have x11 := HV5.out _ HTC6.out.below 2 _ rfl
   have x12 := HV5.out _ HTC6.out.below 3 _ rfl
   go_wp2_with fail
   have HTC7 := Lib.hid (St.alloc (HTC6.out) #[.bool (negB (b0)), .string (bs (numB (b0))), .string (bs (denomB (b0)))] 25 (w6.heap.size) (by simp))
   refine (HPC1.out _ _ _ (HQB.out _ HTC7.out.below) (HXB.out _ HTC7.out.below)).mono ?_
   rintro e w8 ⟨rfl, hb8⟩
   have HTC8 := Lib.hid (HTC7.out.call hb8)
   clear hb8 HTC6 HTC7
   clear x7 x8 x9 x10 x11 x12
   obtain ⟨x13, x14, x15⟩ := HTC8.out.k0 0 rfl rfl rfl rfl
   obtain ⟨x16, x17, x18⟩ := HTC8.out.k0 1 rfl rfl rfl rfl
   obtain ⟨x19, x20, x21⟩ := HTC8.out.f0 1 rfl
   have x22 := HTC8.out.ne 1 0 rfl rfl (by decide)
   have x23 := HTC8.out.ne 0 1 rfl rfl (by decide)
   go_wp2
   have HTC9 : Hid (St w4 [⟨w6.heap.size, #[.bool (negB (b0)), .string (bs (numB (b0))), .string (bs (denomB (b0)))], 25⟩, ⟨w4.heap.size, #[.bool (negB (b0)), .string (bs (numB (b0))), .string (bs (denomB (b0)))], 25⟩] _) := Lib.hid (St.set ((St.set ((St.set (HTC8.out) 1 rfl 0 _)) 1 rfl 1 _)) 1 rfl 2 _)
   go_meet
   case rel => exact ⟨b0, fun _ => rfl, (by first | exact HBS.out rfl | exact HBS.out trivial | exact HBS.out), HTC9.out.sub (by simp)⟩
 case rest =>
  obtain ⟨best, HBE, HBZ, HS1⟩ := hcut
  obtain ⟨wd, hwd⟩ : ∃ y : World, y = wc := ⟨_, rfl⟩
  subst hwd
  go_upto_if 62 with fail
  go_cut [15] (fun s15 wx => (∃ st : Nat, (st = 6 ∨ st = 12) ∧ s15 = .int .i64 st) ∧ wx = wd)
  case first =>
   by_cases h2 : 2 < l.length
   ·have d2 : decide ((2 : Int) < (l.length : Int)) = true := decide_eq_true (by omega)
    have d3 : decide (2 < l.length) = true := decide_eq_true (by omega)
    go_wp2
    go_meet
    case rel => exact ⟨⟨6, .inl rfl, rfl⟩, rfl⟩
   ·have d2 : decide ((2 : Int) < (l.length : Int)) = false := decide_eq_false (by omega)
    have d3 : decide (2 < l.length) = false := decide_eq_false (by omega)
    go_wp2
    go_meet
    case rel => exact ⟨⟨12, .inr rfl, rfl⟩, rfl⟩
  case rest =>
   obtain ⟨⟨st, hst, rfl⟩, hww⟩ := hcut
   have hww := hww.symm
   subst hww
   have HST := Lib.hid hst
   have t1 : IntKind.i64.wrap ((st : Int) + 1) = (st : Int) + 1 := IntWalk.i64_in _ (by omega)
   have t2 : ¬ ((st : Int) + 1 = 0) := by omega
   go_wp2
   go_loopw [16, 17] (fun p i wr => ∃ k a : Nat, k ≤ l.length ∧ i = .int .i64 k ∧ p = .int .i64 a ∧ Hid (a ≤ 13 ^ k) ∧ wr = wd) (fun _ i _ => l.length - (intOf i).toNat)
   case atStart => exact ⟨0, 1, Nat.zero_le _, rfl, rfl, Nat.le_refl _, rfl⟩
   case round =>
    obtain ⟨k, a, hk, rfl, rfl, HA, hwr⟩ := hrel
    have hwr := hwr.symm
    subst hwr
    by_cases hlt : k < l.length
    ·have f1 : decide (((k : Nat) : Int) < (l.length : Int)) = true := decide_eq_true (by omega)
     have hp : 13 ^ k ≤ 13 ^ 2 := Nat.pow_le_pow_right (by decide) (by omega)
     have ha := HA.out
     have hp1 : 13 ^ (k + 1) = 13 ^ k * 13 := Nat.pow_succ _ _
     obtain ⟨a2, ha2⟩ : ∃ a2 : Nat, a2 = a * (st + 1) := ⟨_, rfl⟩
     have hle : a2 ≤ 13 ^ (k + 1) := by
      rw [ha2, hp1]
      rcases HST.out with rfl | rfl
      ·exact Nat.le_trans (Nat.mul_le_mul_right _ ha) (Nat.mul_le_mul_left _ (by decide))
      ·exact Nat.mul_le_mul_right _ ha
     have hb2 : a2 ≤ 2197 := by
      have : 13 ^ (k + 1) ≤ 13 ^ 3 := Nat.pow_le_pow_right (by decide) (by omega)
      have h13 : 13 ^ 3 = 2197 := by decide
      omega
     have e1 : (a : Int) * ((st : Int) + 1) = (a2 : Int) := by rw [ha2]; simp
     have e2 : IntKind.i64.wrap (a2 : Int) = (a2 : Int) := IntWalk.i64_in _ (by omega)
     have HA2 := Lib.hid hle
     clear hle hp ha hp1 ha2 hb2
     go_wp2
     go_roundw
     case rel => exact ⟨k + 1, a2, by omega, by go_num, rfl, HA2.out, by first | rfl | trivial⟩
     case measure => simp [intOf]; omega
    ·obtain rfl : k = l.length := by omega
     have f1 : decide (((l.length : Nat) : Int) < (l.length : Int)) = false := decide_eq_false (by omega)
     have hab : a ≤ 2197 := by
      have h1 : 13 ^ l.length ≤ 13 ^ 3 := Nat.pow_le_pow_right (by decide) (by omega)
      have h2 := HA.out
      have h13 : 13 ^ 3 = 2197 := by decide
      omega
     clear HA
     go_wp2
     go_loopw [18] (fun i wr => ∃ kk : Nat, kk ≤ a ∧ i = .int .i64 kk ∧ Hid (St w4 [⟨w4.heap.size, #[.bool (negB (best)), .string (bs (numB (best))), .string (bs (denomB (best)))], 25⟩] wr)) (fun i _ => a - (intOf i).toNat)
     case atStart => exact ⟨0, Nat.zero_le _, rfl, HS1.out⟩
     case round =>
      clear HS1
      obtain ⟨kk, hkk, rfl, HS2⟩ := hrel
      obtain ⟨wo, hwo⟩ : ∃ wo : World, wo = wr := ⟨_, rfl⟩
      subst hwo
      by_cases hlk : kk < a
      ·have f2 : decide (((kk : Nat) : Int) < (a : Int)) = true := decide_eq_true (by omega)
       have hmk := make_rats l.length (by omega)
       have HR0 := Lib.hid (start_rtr l.length)
       go_wp2
       go_loopw [19, 82] (fun s i wr => ∃ (j mm : Nat) (rs : List Rat), j ≤ l.length ∧ mm ≤ 2197 ∧ s = .int .i64 mm ∧ i = .int .i64 j ∧ Hid (rs.length = l.length) ∧ Hid (∀ r ∈ rs, Sized 1000 r) ∧ Hid (St w4 [⟨wo.heap.size, (rowA (rs.map rtrOf)), 25⟩, ⟨w4.heap.size, #[.bool (negB (best)), .string (bs (numB (best))), .string (bs (denomB (best)))], 25⟩] wr)) (fun _ i _ => l.length - (intOf i).toNat)
       case atStart => exact ⟨0, kk, List.replicate l.length 0, Nat.zero_le _, by omega, rfl, rfl, List.length_replicate, fun r hr => by rw [(List.mem_replicate.1 hr).2]; exact sized_zero.mono (by decide), by show St _ _ _; rw [← HR0.out]; exact (St.alloc (HS2.out) (rowA (List.replicate l.length rtr0)) 25 (wo.heap.size) (by simp))⟩
       case round =>
        clear hmk HR0 HS2
        obtain ⟨j, mm, rs, hj, hmm, rfl, rfl, HRL, HRZ, HS3⟩ := hrel
        obtain ⟨wi, hwi⟩ : ∃ wi : World, wi = wr := ⟨_, rfl⟩
        subst hwi
        by_cases hjl : j < l.length
        ·have f3 : decide (((j : Nat) : Int) < (l.length : Int)) = true := decide_eq_true (by omega)
         have g0 : (0 : Int) ≤ ((j : Nat) : Int) := by omega
         have g1 : ((j : Nat) : Int) < (l.length : Int) := by omega
         obtain ⟨rm, hrm⟩ : ∃ y : Nat, y = mm % (st + 1) := ⟨_, rfl⟩
         obtain ⟨dv, hdv⟩ : ∃ y : Nat, y = mm / (st + 1) := ⟨_, rfl⟩
         have e1 : Int.tmod (mm : Int) ((st : Int) + 1) = (rm : Int) := by rw [Int.tmod_eq_emod_of_nonneg (by omega), hrm]; simp
         have e2 : Int.tdiv (mm : Int) ((st : Int) + 1) = (dv : Int) := by rw [Int.tdiv_eq_ediv_of_nonneg (by omega), hdv]; simp
         have hrb : rm ≤ 2197 := by rw [hrm]; exact Nat.le_trans (Nat.mod_le _ _) hmm
         have hdb : dv ≤ 2197 := by rw [hdv]; exact Nat.le_trans (Nat.div_le_self _ _) hmm
         have e3 : IntKind.i64.wrap (rm : Int) = (rm : Int) := IntWalk.i64_in _ (by omega)
         have e4 : IntKind.i64.wrap (dv : Int) = (dv : Int) := IntWalk.i64_in _ (by omega)
         have hst := HST.out
         have hR := fun W => law0_Ratio (rm : Int) (st : Int) W (by omega) (by omega) (by omega) (by omega)
         have hz := (mkR_sized (n := (rm : Int)) (d := (st : Int).toNat) (by omega) (by omega) (by omega)).mono (show 8 ≤ 1000 by decide)
         generalize mkRat (rm : Int) (st : Int).toNat = z at *
         unfold rat raw at hR
         have HR := Lib.hid hR
         have HZ := Lib.hid hz
         have hjr : j < rs.length := by rw [HRL.out]; exact hjl
         have HAT := Lib.hid (show (rs.map rtrOf)[j]? = some (rtrOf rs[j]) by rw [List.getElem?_map, List.getElem?_eq_getElem hjr]; rfl)
         have HKL := Lib.hid (show j < (rs.map rtrOf).length by rw [List.length_map]; exact hjr)
         have HMS := Lib.hid (map_set_rtr rs j z)
         clear hR hz hst hrm hdv
         go_wp2_with fail
         refine (HR.out _).mono ?_
         rintro e w5 ⟨rfl, hb5⟩
         have HS5 := Lib.hid (HS3.out.call hb5)
         clear hb5 HS3
         obtain ⟨x1, x2, x3⟩ := HS5.out.rowCells 0 rfl (HAT.out)
         have x4 := HS5.out.frozen 0 rfl (j * 3)
         have x5 := HS5.out.frozen 0 rfl (j * 3 + 1)
         have x6 := HS5.out.frozen 0 rfl (j * 3 + 2)
         have x7 := HS5.out.ne 0 1 rfl rfl (by decide)
         have x8 := HS5.out.ne 1 0 rfl rfl (by decide)
         go_wp2
         have HS6 : Hid (St w4 [⟨wo.heap.size, (rowA ((rs.map rtrOf).set j ⟨(negB (z)), (numB (z)), (denomB (z))⟩)), 25⟩, ⟨w4.heap.size, #[.bool (negB (best)), .string (bs (numB (best))), .string (bs (denomB (best)))], 25⟩] _) := Lib.hid (St.setRow (HS5.out) 0 rfl j ⟨(negB (z)), (numB (z)), (denomB (z))⟩ HKL.out)
         go_roundw
         case rel => exact ⟨j + 1, dv, rs.set j z, by omega, hdb, rfl, by go_num, by show _ = _; rw [List.length_set]; exact HRL.out, set_sized HRZ.out j HZ.out, by show St _ _ _; rw [← HMS.out]; exact HS6.out.sub (by simp)⟩
         case measure => simp [intOf]; omega
        ·obtain rfl : j = l.length := by omega
         have f3 : decide (((l.length : Nat) : Int) < (l.length : Int)) = false := decide_eq_false (by omega)
         have hF := fun rv W (h : BlocsL W (.slice A2 l.length c2) l) (hr : RatsL W rv (rs.map rtrOf)) => ref_Confirm (negB q) (numB q) (denomB q) _ l rv (rs.map rtrOf) W h hr (HSM.out.mono (by decide)) ((rtrs_small HRZ.out).mono (by decide)) (Nat.le_trans HQ8.out.num (by decide)) (Nat.le_trans HQ8.out.denom (by decide))
         have hE := fun rv W (h : BlocsL W (.slice A2 l.length c2) l) (hr : RatsL W rv (rs.map rtrOf)) => ref_Residue (negB q) (numB q) (denomB q) _ l rv (rs.map rtrOf) W h hr (HSM.out.mono (by decide)) ((rtrs_small HRZ.out).mono (by decide)) (Nat.le_trans HQ8.out.num (by decide)) (Nat.le_trans HQ8.out.denom (by decide))
         rw [dec_enc, rtrs_val] at hF hE
         have hok := @confR_ok q l rs
         have hfd := HFD.out rs
         have HLEN := Lib.hid (show (rs.map rtrOf).length = l.length by rw [List.length_map]; exact HRL.out)
         have hrz := resid_sz HQ8.out HSM.out hl3 HRZ.out
         generalize confR q l rs = cr at *
         obtain ⟨cc, n2⟩ := cr
         dsimp only at hF hok hfd
         have HF := Lib.hid hF
         by_cases h0 : n2 = 0
         ·subst h0
          obtain ⟨hok1, hok2⟩ := hok rfl
          obtain ⟨_, _, _, hres⟩ := residR_ok hok2
          obtain ⟨hy, hle⟩ := hfd rfl
          rw [← HBE.out hy] at hle
          have hC := fun W => ref_Compare (negB (resid q (l.zip rs))) (numB (resid q (l.zip rs))) (denomB (resid q (l.zip rs))) (negB best) (numB best) (denomB best) W (Nat.le_trans hrz.num (by decide)) (Nat.le_trans hrz.denom (by decide)) (Nat.le_trans HBZ.out.num (by decide)) (Nat.le_trans HBZ.out.denom (by decide))
          rw [show decR (negB (resid q (l.zip rs))) (numB (resid q (l.zip rs))) (denomB (resid q (l.zip rs))) = resid q (l.zip rs) from dec_enc _, show decR (negB best) (numB best) (denomB best) = best from dec_enc _] at hC
          rw [hres] at hE
          dsimp only at hE
          have hsg : ¬ 0 < sgn (resid q (l.zip rs) - best).num := fun h => by
           have := sgn_pos_iff.1 h
           have h2 : resid q (l.zip rs) - best ≤ 0 := by grind
           exact absurd this (Rat.not_lt.2 h2)
          generalize sgn (resid q (l.zip rs) - best).num = sg at *
          generalize resid q (l.zip rs) = rz at *
          have d4 : decide (0 < sg) = false := decide_eq_false hsg
          obtain ⟨yb, hyb⟩ : ∃ yb : Bool, yb = y1 := ⟨_, rfl⟩
          unfold rat raw at hE
          unfold raw at hC
          have HE := Lib.hid hE
          have HC := Lib.hid hC
          have HYB := Lib.hid hy
          clear hE hC hsg hle hres hok1 hok2 hok hfd hrz hy hF hyb yb
          have n1 : (!y1) = false := by rw [HYB.out]; rfl
          have x1 := HV5.out _ HS3.out.below 0 _ rfl
          have x2 := HV5.out _ HS3.out.below 1 _ rfl
          have x3 := HV5.out _ HS3.out.below 2 _ rfl
          have x4 := HV5.out _ HS3.out.below 3 _ rfl
          go_wp2_with fail
          refine (HF.out _ _ (HQB.out _ HS3.out.below) (HS3.out.rowL 0 rfl HLEN.out (by omega))).mono ?_
          rintro e w5 ⟨rfl, hb5⟩
          have HS5 := Lib.hid (HS3.out.call hb5)
          clear hb5 HS3
          clear x1 x2 x3 x4
          have x5 := HV5.out _ HS5.out.below 0 _ rfl
          have x6 := HV5.out _ HS5.out.below 1 _ rfl
          have x7 := HV5.out _ HS5.out.below 2 _ rfl
          have x8 := HV5.out _ HS5.out.below 3 _ rfl
          go_wp2_with fail
          refine (HE.out _ _ (HQB.out _ HS5.out.below) (HS5.out.rowL 0 rfl HLEN.out (by omega))).mono ?_
          rintro e w6 ⟨rfl, hb6⟩
          have HS6 := Lib.hid (HS5.out.call hb6)
          clear hb6 HS5
          clear x5 x6 x7 x8
          obtain ⟨x9, x10, x11⟩ := HS6.out.k0 1 rfl rfl rfl rfl
          have x12 := HS6.out.lt 1 rfl
          have x13 : ¬ w4.heap.size = w6.heap.size := by omega
          have x14 : ¬ w6.heap.size = w4.heap.size := by omega
          go_wp2_with fail
          have HS7 := Lib.hid (St.alloc (HS6.out) #[.bool (negB (rz)), .string (bs (numB (rz))), .string (bs (denomB (rz)))] 25 (w6.heap.size) (by simp))
          refine (HC.out _).mono ?_
          rintro e w8 ⟨rfl, hb8⟩
          have HS8 := Lib.hid (HS7.out.call hb8)
          clear hb8 HS6 HS7
          clear x9 x10 x11 x12 x13 x14
          go_wp2
          have HS9 := Lib.hid HS8.out
          go_roundw
          case rel => exact ⟨kk + 1, by omega, by go_num, HS9.out.sub (by simp)⟩
          case measure => simp [intOf]; omega
         ·have k1 : (n2 != 0) = true := by rw [bne_iff_ne]; exact h0
          clear hok hfd hrz h0 hE hF
          have x1 := HV5.out _ HS3.out.below 0 _ rfl
          have x2 := HV5.out _ HS3.out.below 1 _ rfl
          have x3 := HV5.out _ HS3.out.below 2 _ rfl
          have x4 := HV5.out _ HS3.out.below 3 _ rfl
          go_wp2_with fail
          refine (HF.out _ _ (HQB.out _ HS3.out.below) (HS3.out.rowL 0 rfl HLEN.out (by omega))).mono ?_
          rintro e w5 ⟨rfl, hb5⟩
          have HS5 := Lib.hid (HS3.out.call hb5)
          clear hb5 HS3
          clear x1 x2 x3 x4
          go_wp2
          have HS6 := Lib.hid HS5.out
          go_roundw
          case rel => exact ⟨kk + 1, by omega, by go_num, HS6.out.sub (by simp)⟩
          case measure => simp [intOf]; omega
      ·have f2 : decide (((kk : Nat) : Int) < (a : Int)) = false := decide_eq_false (by omega)
       go_wp2_with fail
       refine (HAW.out _).mono ?_
       rintro e w5 ⟨rfl, hb5⟩
       have HS5 := Lib.hid (HS2.out.call hb5)
       clear hb5 HS2
       go_wp2
       go_ret
       have HS6 := Lib.hid HS5.out
       exact ⟨rfl, Ext.trans HSW.out.below HS6.out.below⟩
end Go.Proofs.YtcllocdhbicpkaaGreatDoor
