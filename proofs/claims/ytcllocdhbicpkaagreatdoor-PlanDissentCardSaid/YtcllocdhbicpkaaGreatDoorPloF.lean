/-
PlanDissent: the law walked (printed by gen_pln15.py).
-/
import Derived.Test.YtcllocdhbicpkaaGreatDoorPloG
import Derived.Deep.DeepCutAuto
namespace Go.Proofs.YtcllocdhbicpkaaGreatDoor
open Go.RowKit

set_option maxRecDepth 100000 in
set_option maxHeartbeats 8000000 in
theorem law_PlanDissent (m : Int) (v1 : Value) (ts : List Qua) (v2 : Value) (ws : List Nat) (b3 : Bool) (w : World) (hm : 0 ≤ m ∧ m ≤ 65535) (h1 : Quas w v1 ts) (hok : ∀ t ∈ ts, t.ok) (h2 : U16L w v2 ws) (h2ok : ∀ x ∈ ws, W16ok x) :
  Calls Tryz.prog 8 #[.int .u16 m, v1, v2, .bool b3] w fun e w' => e = .returned (.bool true) ∧ Below w.heap.size w w' := by
 obtain ⟨x, rfl⟩ : ∃ x : Nat, m = (x : Int) := ⟨m.toNat, by omega⟩
 have hV := fun W (hb : Below w.heap.size w W) => law0_VentureS x v1 ts W (by omega) (h1.below hb) hok
 have hR := fun n (hn : n ≤ 1000) W (hb : Below w.heap.size w W) => law0_RatesS v2 ws n W (h2.below hb) h2ok hn
 have HAW := Lib.hid (fun W => law32_awake W)
 obtain ⟨hsm, hl3⟩ := blocsOf_small hok
 have hq8 := valueOf_sized x
 have hch := blocsOf_check x ts
 have hse := @search_sized x ts hok
 have hzz := rates_len_sized ws (blocsOf ts).length
 have hn0 := searchR_err hch
 have hT := fun v W (h : BlocsL W v (blocsOf ts)) => plan_SearchS (negB (valueOf x)) (numB (valueOf x)) (denomB (valueOf x)) v (blocsOf ts) W h (hsm.mono (by decide)) (Nat.le_trans hq8.num (by decide)) (Nat.le_trans hq8.denom (by decide))
 rw [dec_enc] at hT
 generalize searchR (valueOf x) (blocsOf ts) = sr at *
 generalize blocsOf ts = l at *
 generalize valueOf x = q at *
 obtain ⟨x1, y1, n1⟩ := sr
 dsimp only at hT hse hn0
 subst hn0
 have HR0 := hR l.length (by omega)
 generalize ratesW ws l.length = rw0 at *
 have HV := Lib.hid hV
 have HT := Lib.hid hT
 have HSM := Lib.hid hsm
 have HQ8 := Lib.hid hq8
 have HSE := Lib.hid hse
 have HZZ := Lib.hid hzz
 have HR := Lib.hid HR0
 clear hV hR hT hsm hq8 hch hse hzz HR0 h1 hok h2 h2ok hm
 go_enter Tryz.func8, Tryz.ntmps8
 have HS := Lib.hid (St.start w)
 go_wp2_with fail
 refine (HV.out _ HS.out.below).mono ?_
 rintro e w2 ⟨A2, c2, rfl, hl2, hb2⟩
 have HS2 := Lib.hid (HS.out.call hb2)
 have Q_2 := Lib.hid hl2
 clear hl2
 clear hb2 HS
 go_wp2_with fail
 have HS3 := Lib.hid (St.alloc (HS2.out) #[.bool (negB (q)), .string (bs (numB (q))), .string (bs (denomB (q))), .slice A2 l.length c2] 28 (w2.heap.size) (by simp))
 refine (HR.out _ HS3.out.below).mono ?_
 rintro e w4 ⟨A4, c4, rfl, hl4, hb4⟩
 have HS4 := Lib.hid (HS3.out.call hb4)
 have Q_4 := Lib.hid (Q_2.out.below (Ext.trans (Ext.alloc (Below.refl w2.heap.size w2) (Obj.cells #[.bool (negB (q)), .string (bs (numB (q))), .string (bs (denomB (q))), .slice A2 l.length c2] 28)) hb4))
 clear Q_2
 have T_4 := Lib.hid hl4
 clear hl4
 clear hb4 HS2 HS3
 go_upto_if 29 with fail
 go_cut [10] (fun s10 wx => ∃ (rr : List Rat) (A9 : Option Addr) (c9 : Nat), s10 = .slice A9 rr.length c9 ∧ Hid (RatsL wx (.slice A9 rr.length c9) (rr.map rtrOf)) ∧ Hid (rr.length = l.length ∧ ∀ r ∈ rr, Sized 1000 r) ∧ Hid (BlocsL wx (.slice A2 l.length c2) l) ∧ Hid (St w [⟨w2.heap.size, #[.bool (negB (q)), .string (bs (numB (q))), .string (bs (denomB (q))), .slice A2 l.length c2], 28⟩] wx))
 case first =>
  cases b3
  ·go_wp2
   go_meet
   case rel => exact ⟨rw0, A4, c4, by rw [HZZ.out.1], by show RatsL _ _ _; rw [HZZ.out.1]; exact T_4.out, HZZ.out, Q_4.out, HS4.out⟩
  ·cases y1
   ·have x1 := HS4.out.cell 0 rfl 0 rfl
    obtain ⟨x2, x3, x4⟩ := HS4.out.k1 0 rfl rfl rfl rfl
    go_wp2_with fail
    refine (HT.out _ _ Q_4.out).mono ?_
    rintro e w5 ⟨A5, c5, rfl, hl5, hb5⟩
    have HS5 := Lib.hid (HS4.out.call hb5)
    have Q_5 := Lib.hid (Q_4.out.below hb5)
    clear Q_4
    have T_5 := Lib.hid (T_4.out.below hb5)
    clear T_4
    have X_5 := Lib.hid hl5
    clear hl5
    clear hb5 HS4
    clear x1 x2 x3 x4
    go_wp2
    go_meet
    case rel => exact ⟨rw0, A4, c4, by rw [HZZ.out.1], by show RatsL _ _ _; rw [HZZ.out.1]; exact T_5.out, HZZ.out, Q_5.out, HS5.out⟩
   ·have x1 := HS4.out.cell 0 rfl 0 rfl
    obtain ⟨x2, x3, x4⟩ := HS4.out.k1 0 rfl rfl rfl rfl
    go_wp2_with fail
    refine (HT.out _ _ Q_4.out).mono ?_
    rintro e w5 ⟨A5, c5, rfl, hl5, hb5⟩
    have HS5 := Lib.hid (HS4.out.call hb5)
    have Q_5 := Lib.hid (Q_4.out.below hb5)
    clear Q_4
    have T_5 := Lib.hid (T_4.out.below hb5)
    clear T_4
    have X_5 := Lib.hid hl5
    clear hl5
    clear hb5 HS4
    clear x1 x2 x3 x4
    go_wp2
    go_meet
    case rel => exact ⟨x1, A5, c5, rfl, X_5.out, (by first | exact HSE.out rfl | exact HSE.out trivial), Q_5.out, HS5.out⟩
 case rest =>
  obtain ⟨rr, A9, c9, rfl, hRR, hRP, hQQ, hSW⟩ := hcut
  have hQ2 := hQQ.out
  have hR2 := hRR.out
  have HQQ := Lib.hid hQ2
  have HRR := Lib.hid hR2
  have HSW := hSW
  have hP := fun W (h : BlocsL W (.slice A2 l.length c2) l) (hr : RatsL W (.slice A9 rr.length c9) (rr.map rtrOf)) => plan_Confirm (negB q) (numB q) (denomB q) _ l _ (rr.map rtrOf) W h hr (HSM.out.mono (by decide)) ((rtrs_small hRP.out.2).mono (by decide)) (Nat.le_trans HQ8.out.num (by decide)) (Nat.le_trans HQ8.out.denom (by decide))
  rw [dec_enc, rtrs_val] at hP
  have hb9 : w2.heap.size < wc.heap.size := hSW.out.lt 0 rfl
  have HV9 : Hid (∀ w', Below wc.heap.size wc w' → ∀ i u, ([.bool (negB (q)), .string (bs (numB (q))), .string (bs (denomB (q))), .slice A2 l.length c2] : List Value)[i]? = some u → w'.cell? ⟨w2.heap.size, i, none⟩ = some u) := by
   show ∀ w', _
   intro w' hb i u hu
   exact (((hSW.out.blk 0 rfl).below hb hb9).cell i u (by rw [← Array.getElem?_toList]; exact hu))
  have d5 : ((rr.length : Int) != (l.length : Int)) = false := by rw [hRP.out.1]; simp
  have HLE := Lib.hid hRP.out.1
  have HSZ := Lib.hid hRP.out.2
  have HTC := Lib.hid (St.start wc)
  have hdis := fun (h : (confR q l rr).2 = 0) k b r (hb : l[k]? = some b) (hk : rr[k]? = some r) => law_dissent h hb hk
  have hlft := @law_left q l rr
  generalize confR q l rr = cr at *
  obtain ⟨cc, n2⟩ := cr
  dsimp only at hP hdis hlft
  have HP := Lib.hid hP
  have HQB := Lib.hid (fun W (hb : Below wc.heap.size wc W) => HQQ.out.below hb)
  have HRB := Lib.hid (fun W (hb : Below wc.heap.size wc W) => HRR.out.below hb)
  clear hP hQ2 hR2 hRP hQQ hRR hSW
  by_cases h0 : n2 = 0
  ·subst h0
   have hdis := hdis rfl
   have hlft := hlft rfl
   have HDI := Lib.hid hdis
   have HLF := Lib.hid hlft
   clear hdis hlft
   have x1 := HV9.out _ HTC.out.below 0 _ rfl
   have x2 := HV9.out _ HTC.out.below 1 _ rfl
   have x3 := HV9.out _ HTC.out.below 2 _ rfl
   have x4 := HV9.out _ HTC.out.below 3 _ rfl
   go_wp2_with fail
   refine (HP.out _ (HQB.out _ HTC.out.below) (HRB.out _ HTC.out.below)).mono ?_
   rintro e w5 ⟨rfl, hb5⟩
   have HTC5 := Lib.hid (HTC.out.call hb5)
   clear hb5 HTC
   clear x1 x2 x3 x4
   have x5 : w2.heap.size < w5.heap.size := Nat.lt_of_lt_of_le hb9 HTC5.out.below.size
   have x6 : ¬ w2.heap.size = w5.heap.size := by omega
   have x7 := HV9.out _ HTC5.out.below 3 _ rfl
   have x8 := HV9.out _ HTC5.out.below 0 _ rfl
   have x9 := HV9.out _ HTC5.out.below 1 _ rfl
   have x10 := HV9.out _ HTC5.out.below 2 _ rfl
   go_wp2
   go_loopw [17] (fun i wr => ∃ k : Nat, k ≤ rr.length ∧ i = .int .i64 k ∧ Hid (St wc [⟨w5.heap.size, #[.bool (negB (residTo q (l.zip rr) k)), .string (bs (numB (residTo q (l.zip rr) k))), .string (bs (denomB (residTo q (l.zip rr) k)))], 25⟩] wr)) (fun i _ => rr.length - (intOf i).toNat)
   case atStart => exact ⟨0, Nat.zero_le _, rfl, by show St _ _ _; rw [show residTo q (l.zip rr) 0 = q from rfl]; exact (St.alloc (HTC5.out) #[.bool (negB (q)), .string (bs (numB (q))), .string (bs (denomB (q)))] 25 (w5.heap.size) (by simp))⟩
   case round =>
    clear HTC5
    obtain ⟨k, hk, rfl, HS⟩ := hrel
    by_cases hlt : k < rr.length
    ·obtain ⟨b, o, u, hAu, hbb, hu, hx⟩ := HQQ.out.at_ (show k < l.length by have := HLE.out; omega)
     obtain ⟨b2, o2, t, hAt, hbb2, ht, hy⟩ := HRR.out.at_ (show k < (rr.map rtrOf).length by rw [List.length_map]; exact hlt)
     subst hAu
     subst hAt
     obtain ⟨r, hr⟩ : ∃ r, rr[k]? = some r := ⟨rr[k], List.getElem?_eq_getElem hlt⟩
     have ht2 : t = rtrOf r := by rw [List.getElem?_map, hr] at ht; exact (Option.some.inj ht).symm
     subst ht2
     have ho := HSM.out u (List.mem_of_getElem? hu)
     have hrs := HSZ.out r (List.mem_of_getElem? hr)
     have hut := HSM.out.total (by decide) (List.mem_of_getElem? hu)
     have hz : (l.zip rr)[k]? = some (u, r) := zip_at hu hr
     obtain ⟨hdi, hfl⟩ := HDI.out k u r hu hr
     have hls := residTo_sized (M := 8) (N := 8) (R := 1000) (zl := l.zip rr) HQ8.out (fun x hx => ⟨HSM.out.total (by decide) (mem_zip hx).1, HSZ.out _ (mem_zip hx).2⟩) k (by rw [List.length_zip]; have := HLE.out; omega)
     have hls := hls.mono (N := 100000) (by have := HLE.out; omega)
     have hst := residTo_step (value := q) hz
     have hM := fun W => ref_Multiply u.tn u.ta u.tb (negB r) (numB r) (denomB r) W (Nat.le_trans ho.1.1 (by decide)) (Nat.le_trans ho.1.2 (by decide)) (Nat.le_trans hrs.num (by decide)) (Nat.le_trans hrs.denom (by decide))
     rw [show decR u.tn u.ta u.tb = u.total from rfl, show decR (negB r) (numB r) (denomB r) = r from dec_enc _] at hM
     have hW := fun W => law0_Whole 1 W (by decide) (by decide)
     rw [show ((1 : Int) : Rat) = 1 from rfl] at hW
     have hC1 := fun W => ref_Compare (negB r) (numB r) (denomB r) (negB 1) (numB 1) (denomB 1) W (Nat.le_trans hrs.num (by decide)) (Nat.le_trans hrs.denom (by decide)) (Nat.le_trans sized_one.num (by decide)) (Nat.le_trans sized_one.denom (by decide))
     rw [show decR (negB r) (numB r) (denomB r) = r from dec_enc _, show decR (negB 1) (numB 1) (denomB 1) = 1 from dec_enc _] at hC1
     have hC2 := fun W => ref_Compare (negB r) (numB r) (denomB r) u.kn u.ka u.kb W (Nat.le_trans hrs.num (by decide)) (Nat.le_trans hrs.denom (by decide)) (Nat.le_trans ho.2.2.1 (by decide)) (Nat.le_trans ho.2.2.2 (by decide))
     rw [show decR (negB r) (numB r) (denomB r) = r from dec_enc _, show decR u.kn u.ka u.kb = u.ask from rfl] at hC2
     have hC3 := fun W => ref_Compare (negB (u.total * r)) (numB (u.total * r)) (denomB (u.total * r)) (negB (residTo q (l.zip rr) k)) (numB (residTo q (l.zip rr) k)) (denomB (residTo q (l.zip rr) k)) W (Nat.le_trans (hut.mul hrs).num (by decide)) (Nat.le_trans (hut.mul hrs).denom (by decide)) (Nat.le_trans hls.num (by decide)) (Nat.le_trans hls.denom (by decide))
     rw [show decR (negB (u.total * r)) (numB (u.total * r)) (denomB (u.total * r)) = u.total * r from dec_enc _, show decR (negB (residTo q (l.zip rr) k)) (numB (residTo q (l.zip rr) k)) (denomB (residTo q (l.zip rr) k)) = residTo q (l.zip rr) k from dec_enc _] at hC3
     have hC4 := fun W => ref_Compare (negB r) (numB r) (denomB r) u.fn u.fa u.fb W (Nat.le_trans hrs.num (by decide)) (Nat.le_trans hrs.denom (by decide)) (Nat.le_trans ho.2.1.1 (by decide)) (Nat.le_trans ho.2.1.2 (by decide))
     rw [show decR (negB r) (numB r) (denomB r) = r from dec_enc _, show decR u.fn u.fa u.fb = u.floor from rfl] at hC4
     have hSu := fun W => ref_Subtract (negB (residTo q (l.zip rr) k)) (numB (residTo q (l.zip rr) k)) (denomB (residTo q (l.zip rr) k)) (negB (u.total * r)) (numB (u.total * r)) (denomB (u.total * r)) W (Nat.le_trans hls.num (by decide)) (Nat.le_trans hls.denom (by decide)) (Nat.le_trans (hut.mul hrs).num (by decide)) (Nat.le_trans (hut.mul hrs).denom (by decide))
     rw [show decR (negB (u.total * r)) (numB (u.total * r)) (denomB (u.total * r)) = u.total * r from dec_enc _, show decR (negB (residTo q (l.zip rr) k)) (numB (residTo q (l.zip rr) k)) (denomB (residTo q (l.zip rr) k)) = residTo q (l.zip rr) k from dec_enc _, ← hst] at hSu
     have hf4 : ¬ sgn (r - u.floor).num < 0 := fun h => absurd (lt_sgnB.1 h) (Rat.not_lt.2 hfl)
     have hd3 : impB (u, r) = true → consB (u, r) = false → sgn (u.total * r - residTo q (l.zip rr) k).num = 0 := fun h1 h2 => by
      rw [hdi h1 h2, Rat.sub_self]; rfl
     have e1 : (0 : Int) ≤ ((k : Nat) : Int) := by omega
     have e2 : ((k : Nat) : Int) < (rr.length : Int) := by omega
     have e3 : ((k : Nat) : Int) < (l.length : Int) := by have := HLE.out; omega
     have e4 : decide (((k : Nat) : Int) < (rr.length : Int)) = true := decide_eq_true e2
     have hib : impB (u, r) = decide (sgn (r - 1).num < 0) := rfl
     have hcb : consB (u, r) = (u.acc && decide (0 ≤ sgn (r - u.ask).num)) := rfl
     rw [hib, hcb] at hd3
     clear hib hcb hut hrs hls hst hdi hfl hz ht hr hu
     generalize sgn (r - u.floor).num = s4 at *
     generalize sgn (u.total * r - residTo q (l.zip rr) k).num = s3 at *
     generalize sgn (r - u.ask).num = s2 at *
     generalize sgn (r - 1).num = s1 at *
     generalize u.total * r = pd at *
     obtain ⟨lf, hlf⟩ : ∃ y, y = residTo q (l.zip rr) k := ⟨_, rfl⟩
     obtain ⟨ln, hln⟩ : ∃ y, y = residTo q (l.zip rr) (k + 1) := ⟨_, rfl⟩
     rw [← hlf] at hC3 hSu HS
     rw [← hln] at hSu
     have HLN := Lib.hid hln
     obtain ⟨cells, hcells⟩ : ∃ y, y = u.acc := ⟨_, rfl⟩
     obtain ⟨on, hon⟩ : ∃ y : Rat, y = 1 := ⟨_, rfl⟩
     rw [← hon] at hW hC1
     unfold rat raw at hM hW hSu
     unfold raw at hC1 hC2 hC3 hC4
     unfold rtrOf at hy
     have HX0 := Lib.hid hx
     have HY := Lib.hid hy
     have HM := Lib.hid hM
     have HW := Lib.hid hW
     have HC1 := Lib.hid hC1
     have HC2 := Lib.hid hC2
     have HC3 := Lib.hid hC3
     have HC4 := Lib.hid hC4
     have HSU := Lib.hid hSu
     have HD3 := Lib.hid hd3
     have d4 : decide (s4 < 0) = false := decide_eq_false hf4
     clear hx hy hM hW hC1 hC2 hC3 hC4 hSu hd3 hln hlf hon hf4 ho hcells cells
     have HXA : ∀ ab, u.acc = ab → Hid (∀ w', Below wc.heap.size wc w' → ∀ i v, ([.int .i64 u.rank, .bool u.tn, .string (bs u.ta), .string (bs u.tb), .bool u.fn, .string (bs u.fa), .string (bs u.fb), .bool u.kn, .string (bs u.ka), .string (bs u.kb), .bool ab] : List Value)[i]? = some v → w'.cell? ⟨b, o + k * 11 + i, none⟩ = some v) := fun ab h => by
      show ∀ w', _
      intro w' hb i v hv
      rw [← h] at hv
      exact HX0.out w' hb i v hv
     have HXA := Lib.hid HXA
     clear HX0
     by_cases hi : s1 < 0
     ·have d1 : decide (s1 < 0) = true := decide_eq_true hi
      by_cases ha : u.acc = true
      ·by_cases hc : 0 ≤ s2
       ·have d2 : decide (0 ≤ s2) = true := decide_eq_true hc
        have HX := HXA.out true ha
        clear HXA HD3 ha hi hc
        have x11 : w2.heap.size < wr.heap.size := Nat.lt_of_lt_of_le hb9 HS.out.below.size
        have x12 : ¬ w2.heap.size = wr.heap.size := by omega
        have x13 : b < wr.heap.size := Nat.lt_of_lt_of_le hbb HS.out.below.size
        have x14 : ¬ b = wr.heap.size := by omega
        have x15 := HV9.out _ HS.out.below 3 _ rfl
        obtain ⟨x16, x17, x18, x19, x20, x21, x22, x23, x24, x25, x26⟩ := kE (HX.out _ HS.out.below) rfl rfl rfl rfl rfl rfl rfl rfl rfl rfl rfl
        go_wp2
        clear x11 x12 x13 x14 x15 x16 x17 x18 x19 x20 x21 x22 x23 x24 x25 x26
        refine wp_st (R := [⟨wr.heap.size, #[.int .i64 u.rank, .bool u.tn, .string (bs u.ta), .string (bs u.tb), .bool u.fn, .string (bs u.fa), .string (bs u.fb), .bool u.kn, .string (bs u.ka), .string (bs u.kb), .bool true], 59⟩, ⟨w5.heap.size, #[.bool (negB (lf)), .string (bs (numB (lf))), .string (bs (denomB (lf)))], 25⟩]) (St.alloc (HS.out) #[.int .i64 u.rank, .bool u.tn, .string (bs u.ta), .string (bs u.tb), .bool u.fn, .string (bs u.fa), .string (bs u.fb), .bool u.kn, .string (bs u.ka), .string (bs u.kb), .bool true] 59 (wr.heap.size) (by simp)) ?_
        intro wg6 hb
        have HS6 := Lib.hid hb
        clear hb HS
        refine wp_region_facts 8 [eQ (.pointer (some ⟨wr.heap.size, 1, none⟩)), eQ (.agg #[.bool u.tn, .string (bs u.ta), .string (bs u.tb)]), eQ (.slice (some ⟨b2, o2, none⟩) rr.length c9), eQ (.int .i64 (k : Nat)), eQ (.pointer (some ⟨b2, o2 + k * 3, none⟩)), eQ (.agg #[.bool (negB (r)), .string (bs (numB (r))), .string (bs (denomB (r)))]), eQ (.agg #[.bool (negB (pd)), .string (bs (numB (pd))), .string (bs (denomB (pd)))]), fun ww vv => ∃ g, vv = .pointer (some ⟨g, 0, none⟩) ∧ wg6.heap.size ≤ g ∧ Blk ww g #[.bool false, .string (bs []), .string (bs [])] 25] rfl (by kernel_rfl) (by kernel_rfl) (by kernel_rfl) ⟨stE, stE, stE, stE, stE, stE, stE, fun _ _ _ ⟨g, e, hg, h⟩ hb => ⟨g, e, hg, h.below hb h.lt⟩, trivial⟩ ?_ ?_
        refine ⟨?_, ?_, ?_, ?_, ?_, ?_, ?_, ?_, trivial⟩
        ·intro xx af wv hbx hev hev0 hd; have e18 : af.tmps[18]?.getD undef = .pointer (some ⟨wr.heap.size, 0, none⟩) := hev0 18 rfl; clear hev hev0 hd; go_wp2; exact sQ rfl
        ·intro xx af wv hbx hev hev0 hd; have e68 := (hev 0 _ 68 rfl rfl).trans (hd ⟨0, .data⟩ (by simp) rfl); clear hev hev0 hd; have hs1 := Lib.hid (HS6.out.call hbx); obtain ⟨y0, y1, y2⟩ := hs1.out.k1 0 rfl rfl rfl rfl; go_wp2; exact sQ rfl
        ·intro xx af wv hbx hev hev0 hd; have e10 : af.tmps[10]?.getD undef = .slice (some ⟨b2, o2, none⟩) rr.length c9 := hev0 10 rfl; clear hev hev0 hd; go_wp2; exact sQ rfl
        ·intro xx af wv hbx hev hev0 hd; have e17 : af.tmps[17]?.getD undef = .int .i64 (k : Nat) := hev0 17 rfl; clear hev hev0 hd; go_wp2; exact sQ rfl
        ·intro xx af wv hbx hev hev0 hd; have e70 := (hev 2 _ 70 rfl rfl).trans (hd ⟨2, .data⟩ (by simp) rfl); have e71 := (hev 3 _ 71 rfl rfl).trans (hd ⟨3, .data⟩ (by simp) rfl); clear hev hev0 hd; go_wp2; exact sQ rfl
        ·intro xx af wv hbx hev hev0 hd; have e72 := (hev 4 _ 72 rfl rfl).trans (hd ⟨4, .data⟩ (by simp) rfl); clear hev hev0 hd; have hs1 := Lib.hid (HS6.out.call hbx); obtain ⟨y0, y1, y2⟩ := kE0 (HY.out _ hs1.out.below) rfl rfl rfl; go_wp2; exact sQ rfl
        ·intro xx af wv hbx hev hev0 hd
         have e69 := (hev 1 _ 69 rfl rfl).trans (hd ⟨1, .data⟩ (by simp) rfl)
         have e73 := (hev 5 _ 73 rfl rfl).trans (hd ⟨5, .data⟩ (by simp) rfl)
         clear hev hev0 hd
         go_wp2_with fail
         refine (HM.out _).mono ?_
         rintro e w8 ⟨rfl, hb8⟩
         go_wp2
         exact StepQ.mk _ hb8 rfl
        ·intro xx af wv hbx hev hev0 hd; clear hev hev0 hd; go_wp2; exact StepQ.mk _ (Ext.alloc (Below.refl _ _) _) ⟨_, rfl, hbx.size, Blk.new _ _ _⟩
        intro xx w8 hb9 hv
        obtain ⟨g8, hv7, hlg7, hB7⟩ := hv 7 (by decide)
        simp only [List.take, List.drop, fillA, Act.put]
        simp only [show xx 0 = _ from hv 0 (by decide), show xx 1 = _ from hv 1 (by decide), show xx 2 = _ from hv 2 (by decide), show xx 3 = _ from hv 3 (by decide), show xx 4 = _ from hv 4 (by decide), show xx 5 = _ from hv 5 (by decide), show xx 6 = _ from hv 6 (by decide), hv7]
        clear hv hv7
        have HS8 := Lib.hid (HS6.out.fill hb9 hlg7 hB7)
        clear hlg7 hB7
        clear hb9 HS6
        obtain ⟨x27, x28, x29⟩ := HS8.out.k0 0 rfl rfl rfl rfl
        obtain ⟨x30, x31, x32⟩ := HS8.out.f0 0 rfl
        have x33 := HS8.out.ne 0 1 rfl rfl (by decide)
        have x34 := HS8.out.ne 1 0 rfl rfl (by decide)
        have x35 := HS8.out.ne 0 2 rfl rfl (by decide)
        have x36 := HS8.out.ne 2 0 rfl rfl (by decide)
        go_wp2
        clear x27 x28 x29 x30 x31 x32 x33 x34 x35 x36
        refine wp_st (R := [⟨g8, #[.bool (negB (pd)), .string (bs (numB (pd))), .string (bs (denomB (pd)))], 25⟩, ⟨wr.heap.size, #[.int .i64 u.rank, .bool u.tn, .string (bs u.ta), .string (bs u.tb), .bool u.fn, .string (bs u.fa), .string (bs u.fb), .bool u.kn, .string (bs u.ka), .string (bs u.kb), .bool true], 59⟩, ⟨w5.heap.size, #[.bool (negB (lf)), .string (bs (numB (lf))), .string (bs (denomB (lf)))], 25⟩]) (St.set ((St.set ((St.set (HS8.out) 0 rfl 0 _)) 0 rfl 1 _)) 0 rfl 2 _) ?_
        intro wg9 hb
        have HS9 := Lib.hid hb
        clear hb HS8
        refine wp_region_eq 22 [.slice (some ⟨b2, o2, none⟩) rr.length c9, .int .i64 (k : Nat), .pointer (some ⟨b2, o2 + k * 3, none⟩), .agg #[.bool (negB (r)), .string (bs (numB (r))), .string (bs (denomB (r)))], .agg #[.bool (negB (on)), .string (bs (numB (on))), .string (bs (denomB (on)))], .int .i64 s1, .bool true, .bool true, .pointer (some ⟨wr.heap.size, 10, none⟩), .bool true, .bool true, .slice (some ⟨b2, o2, none⟩) rr.length c9, .int .i64 (k : Nat), .pointer (some ⟨b2, o2 + k * 3, none⟩), .agg #[.bool (negB (r)), .string (bs (numB (r))), .string (bs (denomB (r)))], .pointer (some ⟨wr.heap.size, 7, none⟩), .agg #[.bool u.kn, .string (bs u.ka), .string (bs u.kb)], .int .i64 s2, .bool true, .bool true, .bool false, .bool false] rfl (by kernel_rfl) (by kernel_rfl) (by kernel_rfl) ?_ ?_
        refine ⟨?_, ?_, ?_, ?_, ?_, ?_, ?_, ?_, ?_, ?_, ?_, ?_, ?_, ?_, ?_, ?_, ?_, ?_, ?_, ?_, ?_, ?_, trivial⟩
        ·intro xx af wv hbx hev hev0 hd; have e10 : af.tmps[10]?.getD undef = .slice (some ⟨b2, o2, none⟩) rr.length c9 := hev0 10 rfl; clear hev hev0 hd; go_wp2; exact sQ rfl
        ·intro xx af wv hbx hev hev0 hd; have e17 : af.tmps[17]?.getD undef = .int .i64 (k : Nat) := hev0 17 rfl; clear hev hev0 hd; go_wp2; exact sQ rfl
        ·intro xx af wv hbx hev hev0 hd; have e75 := (hev 0 _ 75 rfl rfl).trans (hd ⟨0, .data⟩ (by simp) rfl); have e76 := (hev 1 _ 76 rfl rfl).trans (hd ⟨1, .data⟩ (by simp) rfl); clear hev hev0 hd; go_wp2; exact sQ rfl
        ·intro xx af wv hbx hev hev0 hd; have e77 := (hev 2 _ 77 rfl rfl).trans (hd ⟨2, .data⟩ (by simp) rfl); clear hev hev0 hd; have hs1 := Lib.hid (HS9.out.call hbx); obtain ⟨y0, y1, y2⟩ := kE0 (HY.out _ hs1.out.below) rfl rfl rfl; go_wp2; exact sQ rfl
        ·intro xx af wv hbx hev hev0 hd
         clear hev hev0 hd
         go_wp2_with fail
         refine (HW.out _).mono ?_
         rintro e w8 ⟨rfl, hb8⟩
         go_wp2
         exact StepQ.mk _ hb8 rfl
        ·intro xx af wv hbx hev hev0 hd
         have e78 := (hev 3 _ 78 rfl rfl).trans (hd ⟨3, .data⟩ (by simp) rfl)
         have e79 := (hev 4 _ 79 rfl rfl).trans (hd ⟨4, .data⟩ (by simp) rfl)
         clear hev hev0 hd
         go_wp2_with fail
         refine (HC1.out _).mono ?_
         rintro e w8 ⟨rfl, hb8⟩
         go_wp2
         exact StepQ.mk _ hb8 rfl
        ·intro xx af wv hbx hev hev0 hd; have e80 := (hev 5 _ 80 rfl rfl).trans (hd ⟨5, .data⟩ (by simp) rfl); clear hev hev0 hd; go_wp2; exact sQ rfl
        ·intro xx af wv hbx hev hev0 hd; have e81 := (hev 6 _ 81 rfl rfl).trans (hd ⟨6, .data⟩ (by simp) rfl); clear hev hev0 hd; go_wp2; exact sQ rfl
        ·intro xx af wv hbx hev hev0 hd; have e82 := (hev 7 _ 82 rfl rfl).trans (hd ⟨7, .guard⟩ (by simp) rfl); have e18 : af.tmps[18]?.getD undef = .pointer (some ⟨wr.heap.size, 0, none⟩) := hev0 18 rfl; have q82 := getD_bool e82; clear hev hev0 hd; go_wp2; exact sQ rfl
        ·intro xx af wv hbx hev hev0 hd; have e82 := (hev 7 _ 82 rfl rfl).trans (hd ⟨7, .guard⟩ (by simp) rfl); have e83 := (hev 8 _ 83 rfl rfl).trans (hd ⟨8, .data⟩ (by simp) rfl); have q82 := getD_bool e82; clear hev hev0 hd; have hs1 := Lib.hid (HS9.out.call hbx); have y0 := hs1.out.cell 1 rfl 10 rfl; go_wp2; exact sQ rfl
        ·intro xx af wv hbx hev hev0 hd; have e82 := (hev 7 _ 82 rfl rfl).trans (hd ⟨7, .chain⟩ (by simp) rfl); have e84 := (hev 9 _ 84 rfl rfl).trans (hd ⟨9, .data⟩ (by simp) rfl); have q82 := getD_bool e82; clear hev hev0 hd; go_wp2; exact sQ rfl
        ·intro xx af wv hbx hev hev0 hd; have e85 := (hev 10 _ 85 rfl rfl).trans (hd ⟨10, .guard⟩ (by simp) rfl); have e10 : af.tmps[10]?.getD undef = .slice (some ⟨b2, o2, none⟩) rr.length c9 := hev0 10 rfl; have q85 := getD_bool e85; clear hev hev0 hd; go_wp2; exact sQ rfl
        ·intro xx af wv hbx hev hev0 hd; have e85 := (hev 10 _ 85 rfl rfl).trans (hd ⟨10, .guard⟩ (by simp) rfl); have e17 : af.tmps[17]?.getD undef = .int .i64 (k : Nat) := hev0 17 rfl; have q85 := getD_bool e85; clear hev hev0 hd; go_wp2; exact sQ rfl
        ·intro xx af wv hbx hev hev0 hd; have e85 := (hev 10 _ 85 rfl rfl).trans (hd ⟨10, .guard⟩ (by simp) rfl); have e86 := (hev 11 _ 86 rfl rfl).trans (hd ⟨11, .data⟩ (by simp) rfl); have e87 := (hev 12 _ 87 rfl rfl).trans (hd ⟨12, .data⟩ (by simp) rfl); have q85 := getD_bool e85; clear hev hev0 hd; go_wp2; exact sQ rfl
        ·intro xx af wv hbx hev hev0 hd; have e85 := (hev 10 _ 85 rfl rfl).trans (hd ⟨10, .guard⟩ (by simp) rfl); have e88 := (hev 13 _ 88 rfl rfl).trans (hd ⟨13, .data⟩ (by simp) rfl); have q85 := getD_bool e85; clear hev hev0 hd; have hs1 := Lib.hid (HS9.out.call hbx); obtain ⟨y0, y1, y2⟩ := kE0 (HY.out _ hs1.out.below) rfl rfl rfl; go_wp2; exact sQ rfl
        ·intro xx af wv hbx hev hev0 hd; have e85 := (hev 10 _ 85 rfl rfl).trans (hd ⟨10, .guard⟩ (by simp) rfl); have e18 : af.tmps[18]?.getD undef = .pointer (some ⟨wr.heap.size, 0, none⟩) := hev0 18 rfl; have q85 := getD_bool e85; clear hev hev0 hd; go_wp2; exact sQ rfl
        ·intro xx af wv hbx hev hev0 hd; have e85 := (hev 10 _ 85 rfl rfl).trans (hd ⟨10, .guard⟩ (by simp) rfl); have e90 := (hev 15 _ 90 rfl rfl).trans (hd ⟨15, .data⟩ (by simp) rfl); have q85 := getD_bool e85; clear hev hev0 hd; have hs1 := Lib.hid (HS9.out.call hbx); obtain ⟨y0, y1, y2⟩ := hs1.out.k7 1 rfl rfl rfl rfl; go_wp2; exact sQ rfl
        ·intro xx af wv hbx hev hev0 hd
         have e85 := (hev 10 _ 85 rfl rfl).trans (hd ⟨10, .chain⟩ (by simp) rfl)
         have e89 := (hev 14 _ 89 rfl rfl).trans (hd ⟨14, .data⟩ (by simp) rfl)
         have e91 := (hev 16 _ 91 rfl rfl).trans (hd ⟨16, .data⟩ (by simp) rfl)
         have q85 := getD_bool e85
         clear hev hev0 hd
         go_wp2_with fail
         refine (HC2.out _).mono ?_
         rintro e w8 ⟨rfl, hb8⟩
         go_wp2
         exact StepQ.mk _ hb8 rfl
        ·intro xx af wv hbx hev hev0 hd; have e85 := (hev 10 _ 85 rfl rfl).trans (hd ⟨10, .guard⟩ (by simp) rfl); have e92 := (hev 17 _ 92 rfl rfl).trans (hd ⟨17, .data⟩ (by simp) rfl); have q85 := getD_bool e85; clear hev hev0 hd; go_wp2; exact sQ rfl
        ·intro xx af wv hbx hev hev0 hd; have e82 := (hev 7 _ 82 rfl rfl).trans (hd ⟨7, .guard⟩ (by simp) rfl); have e85 := (hev 10 _ 85 rfl rfl).trans (hd ⟨10, .data⟩ (by simp) rfl); have e93 := (hev 18 _ 93 rfl rfl).trans (hd ⟨18, .data⟩ (by simp) rfl); have q82 := getD_bool e82; clear hev hev0 hd; go_wp2; exact sQ rfl
        ·intro xx af wv hbx hev hev0 hd; have e82 := (hev 7 _ 82 rfl rfl).trans (hd ⟨7, .guard⟩ (by simp) rfl); have e94 := (hev 19 _ 94 rfl rfl).trans (hd ⟨19, .data⟩ (by simp) rfl); have q82 := getD_bool e82; clear hev hev0 hd; go_wp2; exact sQ rfl
        ·intro xx af wv hbx hev hev0 hd; have e82 := (hev 7 _ 82 rfl rfl).trans (hd ⟨7, .data⟩ (by simp) rfl); have e95 := (hev 20 _ 95 rfl rfl).trans (hd ⟨20, .data⟩ (by simp) rfl); clear hev hev0 hd; go_wp2; exact sQ rfl
        intro xx w10 hb9 hv
        simp only [List.take, List.drop, fillA, Act.put]
        simp only [show xx 0 = _ from hv 0 (by decide), show xx 1 = _ from hv 1 (by decide), show xx 2 = _ from hv 2 (by decide), show xx 3 = _ from hv 3 (by decide), show xx 4 = _ from hv 4 (by decide), show xx 5 = _ from hv 5 (by decide), show xx 6 = _ from hv 6 (by decide), show xx 7 = _ from hv 7 (by decide), show xx 8 = _ from hv 8 (by decide), show xx 9 = _ from hv 9 (by decide), show xx 10 = _ from hv 10 (by decide), show xx 11 = _ from hv 11 (by decide), show xx 12 = _ from hv 12 (by decide), show xx 13 = _ from hv 13 (by decide), show xx 14 = _ from hv 14 (by decide), show xx 15 = _ from hv 15 (by decide), show xx 16 = _ from hv 16 (by decide), show xx 17 = _ from hv 17 (by decide), show xx 18 = _ from hv 18 (by decide), show xx 19 = _ from hv 19 (by decide), show xx 20 = _ from hv 20 (by decide), show xx 21 = _ from hv 21 (by decide)]
        clear hv
        have HS10 := Lib.hid (HS9.out.call hb9)
        clear hb9 HS9
        go_wp2
        refine wp_region_eq 16 [.bool false, .bool false, undef, undef, undef, undef, .bool false, .bool false, .slice (some ⟨b2, o2, none⟩) rr.length c9, .int .i64 (k : Nat), .pointer (some ⟨b2, o2 + k * 3, none⟩), .agg #[.bool (negB (r)), .string (bs (numB (r))), .string (bs (denomB (r)))], .pointer (some ⟨wr.heap.size, 4, none⟩), .agg #[.bool u.fn, .string (bs u.fa), .string (bs u.fb)], .int .i64 s4, .bool false] rfl (by kernel_rfl) (by kernel_rfl) (by kernel_rfl) ?_ ?_
        refine ⟨?_, ?_, ?_, ?_, ?_, ?_, ?_, ?_, ?_, ?_, ?_, ?_, ?_, ?_, ?_, ?_, trivial⟩
        ·intro xx af wv hbx hev hev0 hd; have e20 : af.tmps[20]?.getD undef = .bool false := hev0 20 rfl; clear hev hev0 hd; go_wp2; exact sQ rfl
        ·intro xx af wv hbx hev hev0 hd; have e97 := (hev 0 _ 97 rfl rfl).trans (hd ⟨0, .data⟩ (by simp) rfl); clear hev hev0 hd; go_wp2; exact sQ rfl
        ·intro xx af wv hbx hev hev0 hd; have e98 := (hev 1 _ 98 rfl rfl).trans (hd ⟨1, .guard⟩ (by simp) rfl); have q98 := getD_bool e98; clear hev hev0 hd; go_wp2; exact sQ rfl
        ·intro xx af wv hbx hev hev0 hd; have e98 := (hev 1 _ 98 rfl rfl).trans (hd ⟨1, .guard⟩ (by simp) rfl); have q98 := getD_bool e98; clear hev hev0 hd; go_wp2; exact sQ rfl
        ·intro xx af wv hbx hev hev0 hd; have e98 := (hev 1 _ 98 rfl rfl).trans (hd ⟨1, .chain⟩ (by simp) rfl); have q98 := getD_bool e98; clear hev hev0 hd; go_wp2; exact sQ rfl
        ·intro xx af wv hbx hev hev0 hd; have e98 := (hev 1 _ 98 rfl rfl).trans (hd ⟨1, .guard⟩ (by simp) rfl); have q98 := getD_bool e98; clear hev hev0 hd; go_wp2; exact sQ rfl
        ·intro xx af wv hbx hev hev0 hd; have e98 := (hev 1 _ 98 rfl rfl).trans (hd ⟨1, .data⟩ (by simp) rfl); have e102 := (hev 5 _ 102 rfl rfl).trans (hd ⟨5, .data⟩ (by simp) rfl); clear hev hev0 hd; go_wp2; exact sQ rfl
        ·intro xx af wv hbx hev hev0 hd; have e103 := (hev 6 _ 103 rfl rfl).trans (hd ⟨6, .data⟩ (by simp) rfl); clear hev hev0 hd; go_wp2; exact sQ rfl
        ·intro xx af wv hbx hev hev0 hd; have e104 := (hev 7 _ 104 rfl rfl).trans (hd ⟨7, .guard⟩ (by simp) rfl); have e10 : af.tmps[10]?.getD undef = .slice (some ⟨b2, o2, none⟩) rr.length c9 := hev0 10 rfl; have q104 := getD_bool e104; clear hev hev0 hd; go_wp2; exact sQ rfl
        ·intro xx af wv hbx hev hev0 hd; have e104 := (hev 7 _ 104 rfl rfl).trans (hd ⟨7, .guard⟩ (by simp) rfl); have e17 : af.tmps[17]?.getD undef = .int .i64 (k : Nat) := hev0 17 rfl; have q104 := getD_bool e104; clear hev hev0 hd; go_wp2; exact sQ rfl
        ·intro xx af wv hbx hev hev0 hd; have e104 := (hev 7 _ 104 rfl rfl).trans (hd ⟨7, .guard⟩ (by simp) rfl); have e105 := (hev 8 _ 105 rfl rfl).trans (hd ⟨8, .data⟩ (by simp) rfl); have e106 := (hev 9 _ 106 rfl rfl).trans (hd ⟨9, .data⟩ (by simp) rfl); have q104 := getD_bool e104; clear hev hev0 hd; go_wp2; exact sQ rfl
        ·intro xx af wv hbx hev hev0 hd; have e104 := (hev 7 _ 104 rfl rfl).trans (hd ⟨7, .guard⟩ (by simp) rfl); have e107 := (hev 10 _ 107 rfl rfl).trans (hd ⟨10, .data⟩ (by simp) rfl); have q104 := getD_bool e104; clear hev hev0 hd; have hs1 := Lib.hid (HS10.out.call hbx); obtain ⟨y0, y1, y2⟩ := kE0 (HY.out _ hs1.out.below) rfl rfl rfl; go_wp2; exact sQ rfl
        ·intro xx af wv hbx hev hev0 hd; have e104 := (hev 7 _ 104 rfl rfl).trans (hd ⟨7, .guard⟩ (by simp) rfl); have e18 : af.tmps[18]?.getD undef = .pointer (some ⟨wr.heap.size, 0, none⟩) := hev0 18 rfl; have q104 := getD_bool e104; clear hev hev0 hd; go_wp2; exact sQ rfl
        ·intro xx af wv hbx hev hev0 hd; have e104 := (hev 7 _ 104 rfl rfl).trans (hd ⟨7, .guard⟩ (by simp) rfl); have e109 := (hev 12 _ 109 rfl rfl).trans (hd ⟨12, .data⟩ (by simp) rfl); have q104 := getD_bool e104; clear hev hev0 hd; have hs1 := Lib.hid (HS10.out.call hbx); obtain ⟨y0, y1, y2⟩ := hs1.out.k4 1 rfl rfl rfl rfl; go_wp2; exact sQ rfl
        ·intro xx af wv hbx hev hev0 hd
         have e104 := (hev 7 _ 104 rfl rfl).trans (hd ⟨7, .chain⟩ (by simp) rfl)
         have e108 := (hev 11 _ 108 rfl rfl).trans (hd ⟨11, .data⟩ (by simp) rfl)
         have e110 := (hev 13 _ 110 rfl rfl).trans (hd ⟨13, .data⟩ (by simp) rfl)
         have q104 := getD_bool e104
         clear hev hev0 hd
         go_wp2_with fail
         refine (HC4.out _).mono ?_
         rintro e w8 ⟨rfl, hb8⟩
         go_wp2
         exact StepQ.mk _ hb8 rfl
        ·intro xx af wv hbx hev hev0 hd; have e104 := (hev 7 _ 104 rfl rfl).trans (hd ⟨7, .guard⟩ (by simp) rfl); have e111 := (hev 14 _ 111 rfl rfl).trans (hd ⟨14, .data⟩ (by simp) rfl); have q104 := getD_bool e104; clear hev hev0 hd; go_wp2; exact sQ rfl
        intro xx w11 hb9 hv
        simp only [List.take, List.drop, fillA, Act.put]
        simp only [show xx 0 = _ from hv 0 (by decide), show xx 1 = _ from hv 1 (by decide), show xx 2 = _ from hv 2 (by decide), show xx 3 = _ from hv 3 (by decide), show xx 4 = _ from hv 4 (by decide), show xx 5 = _ from hv 5 (by decide), show xx 6 = _ from hv 6 (by decide), show xx 7 = _ from hv 7 (by decide), show xx 8 = _ from hv 8 (by decide), show xx 9 = _ from hv 9 (by decide), show xx 10 = _ from hv 10 (by decide), show xx 11 = _ from hv 11 (by decide), show xx 12 = _ from hv 12 (by decide), show xx 13 = _ from hv 13 (by decide), show xx 14 = _ from hv 14 (by decide), show xx 15 = _ from hv 15 (by decide)]
        clear hv
        have HS11 := Lib.hid (HS10.out.call hb9)
        clear hb9 HS10
        obtain ⟨x37, x38, x39⟩ := HS11.out.k0 2 rfl rfl rfl rfl
        obtain ⟨x40, x41, x42⟩ := HS11.out.k0 0 rfl rfl rfl rfl
        go_wp2_with fail
        refine (HSU.out _).mono ?_
        rintro e w12 ⟨rfl, hb12⟩
        have HS12 := Lib.hid (HS11.out.call hb12)
        clear hb12 HS11
        clear x37 x38 x39 x40 x41 x42
        obtain ⟨x43, x44, x45⟩ := HS12.out.k0 2 rfl rfl rfl rfl
        obtain ⟨x46, x47, x48⟩ := HS12.out.f0 2 rfl
        have x49 := HS12.out.ne 2 0 rfl rfl (by decide)
        have x50 := HS12.out.ne 0 2 rfl rfl (by decide)
        have x51 := HS12.out.ne 2 1 rfl rfl (by decide)
        have x52 := HS12.out.ne 1 2 rfl rfl (by decide)
        go_wp2
        have HS13 : Hid (St wc [⟨g8, #[.bool (negB (pd)), .string (bs (numB (pd))), .string (bs (denomB (pd)))], 25⟩, ⟨wr.heap.size, #[.int .i64 u.rank, .bool u.tn, .string (bs u.ta), .string (bs u.tb), .bool u.fn, .string (bs u.fa), .string (bs u.fb), .bool u.kn, .string (bs u.ka), .string (bs u.kb), .bool true], 59⟩, ⟨w5.heap.size, #[.bool (negB (ln)), .string (bs (numB (ln))), .string (bs (denomB (ln)))], 25⟩] _) := Lib.hid (St.set ((St.set ((St.set (HS12.out) 2 rfl 0 _)) 2 rfl 1 _)) 2 rfl 2 _)
        go_roundw
        case rel => exact ⟨k + 1, by omega, by go_num, by show St _ _ _; rw [← HLN.out]; exact HS13.out.sub (by simp)⟩
        case measure => simp [intOf]; omega
       ·have d2 : decide (0 ≤ s2) = false := decide_eq_false hc
        obtain rfl : s3 = 0 := HD3.out d1 (by rw [ha, d2]; rfl)
        have HX := HXA.out true ha
        clear HXA HD3 ha hi hc
        have x11 : w2.heap.size < wr.heap.size := Nat.lt_of_lt_of_le hb9 HS.out.below.size
        have x12 : ¬ w2.heap.size = wr.heap.size := by omega
        have x13 : b < wr.heap.size := Nat.lt_of_lt_of_le hbb HS.out.below.size
        have x14 : ¬ b = wr.heap.size := by omega
        have x15 := HV9.out _ HS.out.below 3 _ rfl
        obtain ⟨x16, x17, x18, x19, x20, x21, x22, x23, x24, x25, x26⟩ := kE (HX.out _ HS.out.below) rfl rfl rfl rfl rfl rfl rfl rfl rfl rfl rfl
        go_wp2
        clear x11 x12 x13 x14 x15 x16 x17 x18 x19 x20 x21 x22 x23 x24 x25 x26
        refine wp_st (R := [⟨wr.heap.size, #[.int .i64 u.rank, .bool u.tn, .string (bs u.ta), .string (bs u.tb), .bool u.fn, .string (bs u.fa), .string (bs u.fb), .bool u.kn, .string (bs u.ka), .string (bs u.kb), .bool true], 59⟩, ⟨w5.heap.size, #[.bool (negB (lf)), .string (bs (numB (lf))), .string (bs (denomB (lf)))], 25⟩]) (St.alloc (HS.out) #[.int .i64 u.rank, .bool u.tn, .string (bs u.ta), .string (bs u.tb), .bool u.fn, .string (bs u.fa), .string (bs u.fb), .bool u.kn, .string (bs u.ka), .string (bs u.kb), .bool true] 59 (wr.heap.size) (by simp)) ?_
        intro wg6 hb
        have HS6 := Lib.hid hb
        clear hb HS
        refine wp_region_facts 8 [eQ (.pointer (some ⟨wr.heap.size, 1, none⟩)), eQ (.agg #[.bool u.tn, .string (bs u.ta), .string (bs u.tb)]), eQ (.slice (some ⟨b2, o2, none⟩) rr.length c9), eQ (.int .i64 (k : Nat)), eQ (.pointer (some ⟨b2, o2 + k * 3, none⟩)), eQ (.agg #[.bool (negB (r)), .string (bs (numB (r))), .string (bs (denomB (r)))]), eQ (.agg #[.bool (negB (pd)), .string (bs (numB (pd))), .string (bs (denomB (pd)))]), fun ww vv => ∃ g, vv = .pointer (some ⟨g, 0, none⟩) ∧ wg6.heap.size ≤ g ∧ Blk ww g #[.bool false, .string (bs []), .string (bs [])] 25] rfl (by kernel_rfl) (by kernel_rfl) (by kernel_rfl) ⟨stE, stE, stE, stE, stE, stE, stE, fun _ _ _ ⟨g, e, hg, h⟩ hb => ⟨g, e, hg, h.below hb h.lt⟩, trivial⟩ ?_ ?_
        refine ⟨?_, ?_, ?_, ?_, ?_, ?_, ?_, ?_, trivial⟩
        ·intro xx af wv hbx hev hev0 hd; have e18 : af.tmps[18]?.getD undef = .pointer (some ⟨wr.heap.size, 0, none⟩) := hev0 18 rfl; clear hev hev0 hd; go_wp2; exact sQ rfl
        ·intro xx af wv hbx hev hev0 hd; have e68 := (hev 0 _ 68 rfl rfl).trans (hd ⟨0, .data⟩ (by simp) rfl); clear hev hev0 hd; have hs1 := Lib.hid (HS6.out.call hbx); obtain ⟨y0, y1, y2⟩ := hs1.out.k1 0 rfl rfl rfl rfl; go_wp2; exact sQ rfl
        ·intro xx af wv hbx hev hev0 hd; have e10 : af.tmps[10]?.getD undef = .slice (some ⟨b2, o2, none⟩) rr.length c9 := hev0 10 rfl; clear hev hev0 hd; go_wp2; exact sQ rfl
        ·intro xx af wv hbx hev hev0 hd; have e17 : af.tmps[17]?.getD undef = .int .i64 (k : Nat) := hev0 17 rfl; clear hev hev0 hd; go_wp2; exact sQ rfl
        ·intro xx af wv hbx hev hev0 hd; have e70 := (hev 2 _ 70 rfl rfl).trans (hd ⟨2, .data⟩ (by simp) rfl); have e71 := (hev 3 _ 71 rfl rfl).trans (hd ⟨3, .data⟩ (by simp) rfl); clear hev hev0 hd; go_wp2; exact sQ rfl
        ·intro xx af wv hbx hev hev0 hd; have e72 := (hev 4 _ 72 rfl rfl).trans (hd ⟨4, .data⟩ (by simp) rfl); clear hev hev0 hd; have hs1 := Lib.hid (HS6.out.call hbx); obtain ⟨y0, y1, y2⟩ := kE0 (HY.out _ hs1.out.below) rfl rfl rfl; go_wp2; exact sQ rfl
        ·intro xx af wv hbx hev hev0 hd
         have e69 := (hev 1 _ 69 rfl rfl).trans (hd ⟨1, .data⟩ (by simp) rfl)
         have e73 := (hev 5 _ 73 rfl rfl).trans (hd ⟨5, .data⟩ (by simp) rfl)
         clear hev hev0 hd
         go_wp2_with fail
         refine (HM.out _).mono ?_
         rintro e w8 ⟨rfl, hb8⟩
         go_wp2
         exact StepQ.mk _ hb8 rfl
        ·intro xx af wv hbx hev hev0 hd; clear hev hev0 hd; go_wp2; exact StepQ.mk _ (Ext.alloc (Below.refl _ _) _) ⟨_, rfl, hbx.size, Blk.new _ _ _⟩
        intro xx w8 hb9 hv
        obtain ⟨g8, hv7, hlg7, hB7⟩ := hv 7 (by decide)
        simp only [List.take, List.drop, fillA, Act.put]
        simp only [show xx 0 = _ from hv 0 (by decide), show xx 1 = _ from hv 1 (by decide), show xx 2 = _ from hv 2 (by decide), show xx 3 = _ from hv 3 (by decide), show xx 4 = _ from hv 4 (by decide), show xx 5 = _ from hv 5 (by decide), show xx 6 = _ from hv 6 (by decide), hv7]
        clear hv hv7
        have HS8 := Lib.hid (HS6.out.fill hb9 hlg7 hB7)
        clear hlg7 hB7
        clear hb9 HS6
        obtain ⟨x27, x28, x29⟩ := HS8.out.k0 0 rfl rfl rfl rfl
        obtain ⟨x30, x31, x32⟩ := HS8.out.f0 0 rfl
        have x33 := HS8.out.ne 0 1 rfl rfl (by decide)
        have x34 := HS8.out.ne 1 0 rfl rfl (by decide)
        have x35 := HS8.out.ne 0 2 rfl rfl (by decide)
        have x36 := HS8.out.ne 2 0 rfl rfl (by decide)
        go_wp2
        clear x27 x28 x29 x30 x31 x32 x33 x34 x35 x36
        refine wp_st (R := [⟨g8, #[.bool (negB (pd)), .string (bs (numB (pd))), .string (bs (denomB (pd)))], 25⟩, ⟨wr.heap.size, #[.int .i64 u.rank, .bool u.tn, .string (bs u.ta), .string (bs u.tb), .bool u.fn, .string (bs u.fa), .string (bs u.fb), .bool u.kn, .string (bs u.ka), .string (bs u.kb), .bool true], 59⟩, ⟨w5.heap.size, #[.bool (negB (lf)), .string (bs (numB (lf))), .string (bs (denomB (lf)))], 25⟩]) (St.set ((St.set ((St.set (HS8.out) 0 rfl 0 _)) 0 rfl 1 _)) 0 rfl 2 _) ?_
        intro wg9 hb
        have HS9 := Lib.hid hb
        clear hb HS8
        refine wp_region_eq 22 [.slice (some ⟨b2, o2, none⟩) rr.length c9, .int .i64 (k : Nat), .pointer (some ⟨b2, o2 + k * 3, none⟩), .agg #[.bool (negB (r)), .string (bs (numB (r))), .string (bs (denomB (r)))], .agg #[.bool (negB (on)), .string (bs (numB (on))), .string (bs (denomB (on)))], .int .i64 s1, .bool true, .bool true, .pointer (some ⟨wr.heap.size, 10, none⟩), .bool true, .bool true, .slice (some ⟨b2, o2, none⟩) rr.length c9, .int .i64 (k : Nat), .pointer (some ⟨b2, o2 + k * 3, none⟩), .agg #[.bool (negB (r)), .string (bs (numB (r))), .string (bs (denomB (r)))], .pointer (some ⟨wr.heap.size, 7, none⟩), .agg #[.bool u.kn, .string (bs u.ka), .string (bs u.kb)], .int .i64 s2, .bool false, .bool false, .bool true, .bool true] rfl (by kernel_rfl) (by kernel_rfl) (by kernel_rfl) ?_ ?_
        refine ⟨?_, ?_, ?_, ?_, ?_, ?_, ?_, ?_, ?_, ?_, ?_, ?_, ?_, ?_, ?_, ?_, ?_, ?_, ?_, ?_, ?_, ?_, trivial⟩
        ·intro xx af wv hbx hev hev0 hd; have e10 : af.tmps[10]?.getD undef = .slice (some ⟨b2, o2, none⟩) rr.length c9 := hev0 10 rfl; clear hev hev0 hd; go_wp2; exact sQ rfl
        ·intro xx af wv hbx hev hev0 hd; have e17 : af.tmps[17]?.getD undef = .int .i64 (k : Nat) := hev0 17 rfl; clear hev hev0 hd; go_wp2; exact sQ rfl
        ·intro xx af wv hbx hev hev0 hd; have e75 := (hev 0 _ 75 rfl rfl).trans (hd ⟨0, .data⟩ (by simp) rfl); have e76 := (hev 1 _ 76 rfl rfl).trans (hd ⟨1, .data⟩ (by simp) rfl); clear hev hev0 hd; go_wp2; exact sQ rfl
        ·intro xx af wv hbx hev hev0 hd; have e77 := (hev 2 _ 77 rfl rfl).trans (hd ⟨2, .data⟩ (by simp) rfl); clear hev hev0 hd; have hs1 := Lib.hid (HS9.out.call hbx); obtain ⟨y0, y1, y2⟩ := kE0 (HY.out _ hs1.out.below) rfl rfl rfl; go_wp2; exact sQ rfl
        ·intro xx af wv hbx hev hev0 hd
         clear hev hev0 hd
         go_wp2_with fail
         refine (HW.out _).mono ?_
         rintro e w8 ⟨rfl, hb8⟩
         go_wp2
         exact StepQ.mk _ hb8 rfl
        ·intro xx af wv hbx hev hev0 hd
         have e78 := (hev 3 _ 78 rfl rfl).trans (hd ⟨3, .data⟩ (by simp) rfl)
         have e79 := (hev 4 _ 79 rfl rfl).trans (hd ⟨4, .data⟩ (by simp) rfl)
         clear hev hev0 hd
         go_wp2_with fail
         refine (HC1.out _).mono ?_
         rintro e w8 ⟨rfl, hb8⟩
         go_wp2
         exact StepQ.mk _ hb8 rfl
        ·intro xx af wv hbx hev hev0 hd; have e80 := (hev 5 _ 80 rfl rfl).trans (hd ⟨5, .data⟩ (by simp) rfl); clear hev hev0 hd; go_wp2; exact sQ rfl
        ·intro xx af wv hbx hev hev0 hd; have e81 := (hev 6 _ 81 rfl rfl).trans (hd ⟨6, .data⟩ (by simp) rfl); clear hev hev0 hd; go_wp2; exact sQ rfl
        ·intro xx af wv hbx hev hev0 hd; have e82 := (hev 7 _ 82 rfl rfl).trans (hd ⟨7, .guard⟩ (by simp) rfl); have e18 : af.tmps[18]?.getD undef = .pointer (some ⟨wr.heap.size, 0, none⟩) := hev0 18 rfl; have q82 := getD_bool e82; clear hev hev0 hd; go_wp2; exact sQ rfl
        ·intro xx af wv hbx hev hev0 hd; have e82 := (hev 7 _ 82 rfl rfl).trans (hd ⟨7, .guard⟩ (by simp) rfl); have e83 := (hev 8 _ 83 rfl rfl).trans (hd ⟨8, .data⟩ (by simp) rfl); have q82 := getD_bool e82; clear hev hev0 hd; have hs1 := Lib.hid (HS9.out.call hbx); have y0 := hs1.out.cell 1 rfl 10 rfl; go_wp2; exact sQ rfl
        ·intro xx af wv hbx hev hev0 hd; have e82 := (hev 7 _ 82 rfl rfl).trans (hd ⟨7, .chain⟩ (by simp) rfl); have e84 := (hev 9 _ 84 rfl rfl).trans (hd ⟨9, .data⟩ (by simp) rfl); have q82 := getD_bool e82; clear hev hev0 hd; go_wp2; exact sQ rfl
        ·intro xx af wv hbx hev hev0 hd; have e85 := (hev 10 _ 85 rfl rfl).trans (hd ⟨10, .guard⟩ (by simp) rfl); have e10 : af.tmps[10]?.getD undef = .slice (some ⟨b2, o2, none⟩) rr.length c9 := hev0 10 rfl; have q85 := getD_bool e85; clear hev hev0 hd; go_wp2; exact sQ rfl
        ·intro xx af wv hbx hev hev0 hd; have e85 := (hev 10 _ 85 rfl rfl).trans (hd ⟨10, .guard⟩ (by simp) rfl); have e17 : af.tmps[17]?.getD undef = .int .i64 (k : Nat) := hev0 17 rfl; have q85 := getD_bool e85; clear hev hev0 hd; go_wp2; exact sQ rfl
        ·intro xx af wv hbx hev hev0 hd; have e85 := (hev 10 _ 85 rfl rfl).trans (hd ⟨10, .guard⟩ (by simp) rfl); have e86 := (hev 11 _ 86 rfl rfl).trans (hd ⟨11, .data⟩ (by simp) rfl); have e87 := (hev 12 _ 87 rfl rfl).trans (hd ⟨12, .data⟩ (by simp) rfl); have q85 := getD_bool e85; clear hev hev0 hd; go_wp2; exact sQ rfl
        ·intro xx af wv hbx hev hev0 hd; have e85 := (hev 10 _ 85 rfl rfl).trans (hd ⟨10, .guard⟩ (by simp) rfl); have e88 := (hev 13 _ 88 rfl rfl).trans (hd ⟨13, .data⟩ (by simp) rfl); have q85 := getD_bool e85; clear hev hev0 hd; have hs1 := Lib.hid (HS9.out.call hbx); obtain ⟨y0, y1, y2⟩ := kE0 (HY.out _ hs1.out.below) rfl rfl rfl; go_wp2; exact sQ rfl
        ·intro xx af wv hbx hev hev0 hd; have e85 := (hev 10 _ 85 rfl rfl).trans (hd ⟨10, .guard⟩ (by simp) rfl); have e18 : af.tmps[18]?.getD undef = .pointer (some ⟨wr.heap.size, 0, none⟩) := hev0 18 rfl; have q85 := getD_bool e85; clear hev hev0 hd; go_wp2; exact sQ rfl
        ·intro xx af wv hbx hev hev0 hd; have e85 := (hev 10 _ 85 rfl rfl).trans (hd ⟨10, .guard⟩ (by simp) rfl); have e90 := (hev 15 _ 90 rfl rfl).trans (hd ⟨15, .data⟩ (by simp) rfl); have q85 := getD_bool e85; clear hev hev0 hd; have hs1 := Lib.hid (HS9.out.call hbx); obtain ⟨y0, y1, y2⟩ := hs1.out.k7 1 rfl rfl rfl rfl; go_wp2; exact sQ rfl
        ·intro xx af wv hbx hev hev0 hd
         have e85 := (hev 10 _ 85 rfl rfl).trans (hd ⟨10, .chain⟩ (by simp) rfl)
         have e89 := (hev 14 _ 89 rfl rfl).trans (hd ⟨14, .data⟩ (by simp) rfl)
         have e91 := (hev 16 _ 91 rfl rfl).trans (hd ⟨16, .data⟩ (by simp) rfl)
         have q85 := getD_bool e85
         clear hev hev0 hd
         go_wp2_with fail
         refine (HC2.out _).mono ?_
         rintro e w8 ⟨rfl, hb8⟩
         go_wp2
         exact StepQ.mk _ hb8 rfl
        ·intro xx af wv hbx hev hev0 hd; have e85 := (hev 10 _ 85 rfl rfl).trans (hd ⟨10, .guard⟩ (by simp) rfl); have e92 := (hev 17 _ 92 rfl rfl).trans (hd ⟨17, .data⟩ (by simp) rfl); have q85 := getD_bool e85; clear hev hev0 hd; go_wp2; exact sQ rfl
        ·intro xx af wv hbx hev hev0 hd; have e82 := (hev 7 _ 82 rfl rfl).trans (hd ⟨7, .guard⟩ (by simp) rfl); have e85 := (hev 10 _ 85 rfl rfl).trans (hd ⟨10, .data⟩ (by simp) rfl); have e93 := (hev 18 _ 93 rfl rfl).trans (hd ⟨18, .data⟩ (by simp) rfl); have q82 := getD_bool e82; clear hev hev0 hd; go_wp2; exact sQ rfl
        ·intro xx af wv hbx hev hev0 hd; have e82 := (hev 7 _ 82 rfl rfl).trans (hd ⟨7, .guard⟩ (by simp) rfl); have e94 := (hev 19 _ 94 rfl rfl).trans (hd ⟨19, .data⟩ (by simp) rfl); have q82 := getD_bool e82; clear hev hev0 hd; go_wp2; exact sQ rfl
        ·intro xx af wv hbx hev hev0 hd; have e82 := (hev 7 _ 82 rfl rfl).trans (hd ⟨7, .data⟩ (by simp) rfl); have e95 := (hev 20 _ 95 rfl rfl).trans (hd ⟨20, .data⟩ (by simp) rfl); clear hev hev0 hd; go_wp2; exact sQ rfl
        intro xx w10 hb9 hv
        simp only [List.take, List.drop, fillA, Act.put]
        simp only [show xx 0 = _ from hv 0 (by decide), show xx 1 = _ from hv 1 (by decide), show xx 2 = _ from hv 2 (by decide), show xx 3 = _ from hv 3 (by decide), show xx 4 = _ from hv 4 (by decide), show xx 5 = _ from hv 5 (by decide), show xx 6 = _ from hv 6 (by decide), show xx 7 = _ from hv 7 (by decide), show xx 8 = _ from hv 8 (by decide), show xx 9 = _ from hv 9 (by decide), show xx 10 = _ from hv 10 (by decide), show xx 11 = _ from hv 11 (by decide), show xx 12 = _ from hv 12 (by decide), show xx 13 = _ from hv 13 (by decide), show xx 14 = _ from hv 14 (by decide), show xx 15 = _ from hv 15 (by decide), show xx 16 = _ from hv 16 (by decide), show xx 17 = _ from hv 17 (by decide), show xx 18 = _ from hv 18 (by decide), show xx 19 = _ from hv 19 (by decide), show xx 20 = _ from hv 20 (by decide), show xx 21 = _ from hv 21 (by decide)]
        clear hv
        have HS10 := Lib.hid (HS9.out.call hb9)
        clear hb9 HS9
        go_wp2
        refine wp_region_eq 16 [.bool true, .bool true, .agg #[.bool (negB (pd)), .string (bs (numB (pd))), .string (bs (denomB (pd)))], .agg #[.bool (negB (lf)), .string (bs (numB (lf))), .string (bs (denomB (lf)))], .int .i64 0, .bool false, .bool false, .bool false, .slice (some ⟨b2, o2, none⟩) rr.length c9, .int .i64 (k : Nat), .pointer (some ⟨b2, o2 + k * 3, none⟩), .agg #[.bool (negB (r)), .string (bs (numB (r))), .string (bs (denomB (r)))], .pointer (some ⟨wr.heap.size, 4, none⟩), .agg #[.bool u.fn, .string (bs u.fa), .string (bs u.fb)], .int .i64 s4, .bool false] rfl (by kernel_rfl) (by kernel_rfl) (by kernel_rfl) ?_ ?_
        refine ⟨?_, ?_, ?_, ?_, ?_, ?_, ?_, ?_, ?_, ?_, ?_, ?_, ?_, ?_, ?_, ?_, trivial⟩
        ·intro xx af wv hbx hev hev0 hd; have e20 : af.tmps[20]?.getD undef = .bool true := hev0 20 rfl; clear hev hev0 hd; go_wp2; exact sQ rfl
        ·intro xx af wv hbx hev hev0 hd; have e97 := (hev 0 _ 97 rfl rfl).trans (hd ⟨0, .data⟩ (by simp) rfl); clear hev hev0 hd; go_wp2; exact sQ rfl
        ·intro xx af wv hbx hev hev0 hd; have e98 := (hev 1 _ 98 rfl rfl).trans (hd ⟨1, .guard⟩ (by simp) rfl); have e19 : af.tmps[19]?.getD undef = .pointer (some ⟨g8, 0, none⟩) := hev0 19 rfl; have q98 := getD_bool e98; clear hev hev0 hd; have hs1 := Lib.hid (HS10.out.call hbx); obtain ⟨y0, y1, y2⟩ := hs1.out.k0 0 rfl rfl rfl rfl; go_wp2; exact sQ rfl
        ·intro xx af wv hbx hev hev0 hd; have e98 := (hev 1 _ 98 rfl rfl).trans (hd ⟨1, .guard⟩ (by simp) rfl); have e16 : af.tmps[16]?.getD undef = .pointer (some ⟨w5.heap.size, 0, none⟩) := hev0 16 rfl; have q98 := getD_bool e98; clear hev hev0 hd; have hs1 := Lib.hid (HS10.out.call hbx); obtain ⟨y0, y1, y2⟩ := hs1.out.k0 2 rfl rfl rfl rfl; go_wp2; exact sQ rfl
        ·intro xx af wv hbx hev hev0 hd
         have e98 := (hev 1 _ 98 rfl rfl).trans (hd ⟨1, .chain⟩ (by simp) rfl)
         have e99 := (hev 2 _ 99 rfl rfl).trans (hd ⟨2, .data⟩ (by simp) rfl)
         have e100 := (hev 3 _ 100 rfl rfl).trans (hd ⟨3, .data⟩ (by simp) rfl)
         have q98 := getD_bool e98
         clear hev hev0 hd
         go_wp2_with fail
         refine (HC3.out _).mono ?_
         rintro e w8 ⟨rfl, hb8⟩
         go_wp2
         exact StepQ.mk _ hb8 rfl
        ·intro xx af wv hbx hev hev0 hd; have e98 := (hev 1 _ 98 rfl rfl).trans (hd ⟨1, .guard⟩ (by simp) rfl); have e101 := (hev 4 _ 101 rfl rfl).trans (hd ⟨4, .data⟩ (by simp) rfl); have q98 := getD_bool e98; clear hev hev0 hd; go_wp2; exact sQ rfl
        ·intro xx af wv hbx hev hev0 hd; have e98 := (hev 1 _ 98 rfl rfl).trans (hd ⟨1, .data⟩ (by simp) rfl); have e102 := (hev 5 _ 102 rfl rfl).trans (hd ⟨5, .data⟩ (by simp) rfl); clear hev hev0 hd; go_wp2; exact sQ rfl
        ·intro xx af wv hbx hev hev0 hd; have e103 := (hev 6 _ 103 rfl rfl).trans (hd ⟨6, .data⟩ (by simp) rfl); clear hev hev0 hd; go_wp2; exact sQ rfl
        ·intro xx af wv hbx hev hev0 hd; have e104 := (hev 7 _ 104 rfl rfl).trans (hd ⟨7, .guard⟩ (by simp) rfl); have e10 : af.tmps[10]?.getD undef = .slice (some ⟨b2, o2, none⟩) rr.length c9 := hev0 10 rfl; have q104 := getD_bool e104; clear hev hev0 hd; go_wp2; exact sQ rfl
        ·intro xx af wv hbx hev hev0 hd; have e104 := (hev 7 _ 104 rfl rfl).trans (hd ⟨7, .guard⟩ (by simp) rfl); have e17 : af.tmps[17]?.getD undef = .int .i64 (k : Nat) := hev0 17 rfl; have q104 := getD_bool e104; clear hev hev0 hd; go_wp2; exact sQ rfl
        ·intro xx af wv hbx hev hev0 hd; have e104 := (hev 7 _ 104 rfl rfl).trans (hd ⟨7, .guard⟩ (by simp) rfl); have e105 := (hev 8 _ 105 rfl rfl).trans (hd ⟨8, .data⟩ (by simp) rfl); have e106 := (hev 9 _ 106 rfl rfl).trans (hd ⟨9, .data⟩ (by simp) rfl); have q104 := getD_bool e104; clear hev hev0 hd; go_wp2; exact sQ rfl
        ·intro xx af wv hbx hev hev0 hd; have e104 := (hev 7 _ 104 rfl rfl).trans (hd ⟨7, .guard⟩ (by simp) rfl); have e107 := (hev 10 _ 107 rfl rfl).trans (hd ⟨10, .data⟩ (by simp) rfl); have q104 := getD_bool e104; clear hev hev0 hd; have hs1 := Lib.hid (HS10.out.call hbx); obtain ⟨y0, y1, y2⟩ := kE0 (HY.out _ hs1.out.below) rfl rfl rfl; go_wp2; exact sQ rfl
        ·intro xx af wv hbx hev hev0 hd; have e104 := (hev 7 _ 104 rfl rfl).trans (hd ⟨7, .guard⟩ (by simp) rfl); have e18 : af.tmps[18]?.getD undef = .pointer (some ⟨wr.heap.size, 0, none⟩) := hev0 18 rfl; have q104 := getD_bool e104; clear hev hev0 hd; go_wp2; exact sQ rfl
        ·intro xx af wv hbx hev hev0 hd; have e104 := (hev 7 _ 104 rfl rfl).trans (hd ⟨7, .guard⟩ (by simp) rfl); have e109 := (hev 12 _ 109 rfl rfl).trans (hd ⟨12, .data⟩ (by simp) rfl); have q104 := getD_bool e104; clear hev hev0 hd; have hs1 := Lib.hid (HS10.out.call hbx); obtain ⟨y0, y1, y2⟩ := hs1.out.k4 1 rfl rfl rfl rfl; go_wp2; exact sQ rfl
        ·intro xx af wv hbx hev hev0 hd
         have e104 := (hev 7 _ 104 rfl rfl).trans (hd ⟨7, .chain⟩ (by simp) rfl)
         have e108 := (hev 11 _ 108 rfl rfl).trans (hd ⟨11, .data⟩ (by simp) rfl)
         have e110 := (hev 13 _ 110 rfl rfl).trans (hd ⟨13, .data⟩ (by simp) rfl)
         have q104 := getD_bool e104
         clear hev hev0 hd
         go_wp2_with fail
         refine (HC4.out _).mono ?_
         rintro e w8 ⟨rfl, hb8⟩
         go_wp2
         exact StepQ.mk _ hb8 rfl
        ·intro xx af wv hbx hev hev0 hd; have e104 := (hev 7 _ 104 rfl rfl).trans (hd ⟨7, .guard⟩ (by simp) rfl); have e111 := (hev 14 _ 111 rfl rfl).trans (hd ⟨14, .data⟩ (by simp) rfl); have q104 := getD_bool e104; clear hev hev0 hd; go_wp2; exact sQ rfl
        intro xx w11 hb9 hv
        simp only [List.take, List.drop, fillA, Act.put]
        simp only [show xx 0 = _ from hv 0 (by decide), show xx 1 = _ from hv 1 (by decide), show xx 2 = _ from hv 2 (by decide), show xx 3 = _ from hv 3 (by decide), show xx 4 = _ from hv 4 (by decide), show xx 5 = _ from hv 5 (by decide), show xx 6 = _ from hv 6 (by decide), show xx 7 = _ from hv 7 (by decide), show xx 8 = _ from hv 8 (by decide), show xx 9 = _ from hv 9 (by decide), show xx 10 = _ from hv 10 (by decide), show xx 11 = _ from hv 11 (by decide), show xx 12 = _ from hv 12 (by decide), show xx 13 = _ from hv 13 (by decide), show xx 14 = _ from hv 14 (by decide), show xx 15 = _ from hv 15 (by decide)]
        clear hv
        have HS11 := Lib.hid (HS10.out.call hb9)
        clear hb9 HS10
        obtain ⟨x37, x38, x39⟩ := HS11.out.k0 2 rfl rfl rfl rfl
        obtain ⟨x40, x41, x42⟩ := HS11.out.k0 0 rfl rfl rfl rfl
        go_wp2_with fail
        refine (HSU.out _).mono ?_
        rintro e w12 ⟨rfl, hb12⟩
        have HS12 := Lib.hid (HS11.out.call hb12)
        clear hb12 HS11
        clear x37 x38 x39 x40 x41 x42
        obtain ⟨x43, x44, x45⟩ := HS12.out.k0 2 rfl rfl rfl rfl
        obtain ⟨x46, x47, x48⟩ := HS12.out.f0 2 rfl
        have x49 := HS12.out.ne 2 0 rfl rfl (by decide)
        have x50 := HS12.out.ne 0 2 rfl rfl (by decide)
        have x51 := HS12.out.ne 2 1 rfl rfl (by decide)
        have x52 := HS12.out.ne 1 2 rfl rfl (by decide)
        go_wp2
        have HS13 : Hid (St wc [⟨g8, #[.bool (negB (pd)), .string (bs (numB (pd))), .string (bs (denomB (pd)))], 25⟩, ⟨wr.heap.size, #[.int .i64 u.rank, .bool u.tn, .string (bs u.ta), .string (bs u.tb), .bool u.fn, .string (bs u.fa), .string (bs u.fb), .bool u.kn, .string (bs u.ka), .string (bs u.kb), .bool true], 59⟩, ⟨w5.heap.size, #[.bool (negB (ln)), .string (bs (numB (ln))), .string (bs (denomB (ln)))], 25⟩] _) := Lib.hid (St.set ((St.set ((St.set (HS12.out) 2 rfl 0 _)) 2 rfl 1 _)) 2 rfl 2 _)
        go_roundw
        case rel => exact ⟨k + 1, by omega, by go_num, by show St _ _ _; rw [← HLN.out]; exact HS13.out.sub (by simp)⟩
        case measure => simp [intOf]; omega
      ·have ha : u.acc = false := by cases h : u.acc <;> simp_all
       obtain rfl : s3 = 0 := HD3.out d1 (by rw [ha]; rfl)
       have HX := HXA.out false ha
       clear HXA HD3 ha hi
       have x11 : w2.heap.size < wr.heap.size := Nat.lt_of_lt_of_le hb9 HS.out.below.size
       have x12 : ¬ w2.heap.size = wr.heap.size := by omega
       have x13 : b < wr.heap.size := Nat.lt_of_lt_of_le hbb HS.out.below.size
       have x14 : ¬ b = wr.heap.size := by omega
       have x15 := HV9.out _ HS.out.below 3 _ rfl
       obtain ⟨x16, x17, x18, x19, x20, x21, x22, x23, x24, x25, x26⟩ := kE (HX.out _ HS.out.below) rfl rfl rfl rfl rfl rfl rfl rfl rfl rfl rfl
       go_wp2
       clear x11 x12 x13 x14 x15 x16 x17 x18 x19 x20 x21 x22 x23 x24 x25 x26
       refine wp_st (R := [⟨wr.heap.size, #[.int .i64 u.rank, .bool u.tn, .string (bs u.ta), .string (bs u.tb), .bool u.fn, .string (bs u.fa), .string (bs u.fb), .bool u.kn, .string (bs u.ka), .string (bs u.kb), .bool false], 59⟩, ⟨w5.heap.size, #[.bool (negB (lf)), .string (bs (numB (lf))), .string (bs (denomB (lf)))], 25⟩]) (St.alloc (HS.out) #[.int .i64 u.rank, .bool u.tn, .string (bs u.ta), .string (bs u.tb), .bool u.fn, .string (bs u.fa), .string (bs u.fb), .bool u.kn, .string (bs u.ka), .string (bs u.kb), .bool false] 59 (wr.heap.size) (by simp)) ?_
       intro wg6 hb
       have HS6 := Lib.hid hb
       clear hb HS
       refine wp_region_facts 8 [eQ (.pointer (some ⟨wr.heap.size, 1, none⟩)), eQ (.agg #[.bool u.tn, .string (bs u.ta), .string (bs u.tb)]), eQ (.slice (some ⟨b2, o2, none⟩) rr.length c9), eQ (.int .i64 (k : Nat)), eQ (.pointer (some ⟨b2, o2 + k * 3, none⟩)), eQ (.agg #[.bool (negB (r)), .string (bs (numB (r))), .string (bs (denomB (r)))]), eQ (.agg #[.bool (negB (pd)), .string (bs (numB (pd))), .string (bs (denomB (pd)))]), fun ww vv => ∃ g, vv = .pointer (some ⟨g, 0, none⟩) ∧ wg6.heap.size ≤ g ∧ Blk ww g #[.bool false, .string (bs []), .string (bs [])] 25] rfl (by kernel_rfl) (by kernel_rfl) (by kernel_rfl) ⟨stE, stE, stE, stE, stE, stE, stE, fun _ _ _ ⟨g, e, hg, h⟩ hb => ⟨g, e, hg, h.below hb h.lt⟩, trivial⟩ ?_ ?_
       refine ⟨?_, ?_, ?_, ?_, ?_, ?_, ?_, ?_, trivial⟩
       ·intro xx af wv hbx hev hev0 hd; have e18 : af.tmps[18]?.getD undef = .pointer (some ⟨wr.heap.size, 0, none⟩) := hev0 18 rfl; clear hev hev0 hd; go_wp2; exact sQ rfl
       ·intro xx af wv hbx hev hev0 hd; have e68 := (hev 0 _ 68 rfl rfl).trans (hd ⟨0, .data⟩ (by simp) rfl); clear hev hev0 hd; have hs1 := Lib.hid (HS6.out.call hbx); obtain ⟨y0, y1, y2⟩ := hs1.out.k1 0 rfl rfl rfl rfl; go_wp2; exact sQ rfl
       ·intro xx af wv hbx hev hev0 hd; have e10 : af.tmps[10]?.getD undef = .slice (some ⟨b2, o2, none⟩) rr.length c9 := hev0 10 rfl; clear hev hev0 hd; go_wp2; exact sQ rfl
       ·intro xx af wv hbx hev hev0 hd; have e17 : af.tmps[17]?.getD undef = .int .i64 (k : Nat) := hev0 17 rfl; clear hev hev0 hd; go_wp2; exact sQ rfl
       ·intro xx af wv hbx hev hev0 hd; have e70 := (hev 2 _ 70 rfl rfl).trans (hd ⟨2, .data⟩ (by simp) rfl); have e71 := (hev 3 _ 71 rfl rfl).trans (hd ⟨3, .data⟩ (by simp) rfl); clear hev hev0 hd; go_wp2; exact sQ rfl
       ·intro xx af wv hbx hev hev0 hd; have e72 := (hev 4 _ 72 rfl rfl).trans (hd ⟨4, .data⟩ (by simp) rfl); clear hev hev0 hd; have hs1 := Lib.hid (HS6.out.call hbx); obtain ⟨y0, y1, y2⟩ := kE0 (HY.out _ hs1.out.below) rfl rfl rfl; go_wp2; exact sQ rfl
       ·intro xx af wv hbx hev hev0 hd
        have e69 := (hev 1 _ 69 rfl rfl).trans (hd ⟨1, .data⟩ (by simp) rfl)
        have e73 := (hev 5 _ 73 rfl rfl).trans (hd ⟨5, .data⟩ (by simp) rfl)
        clear hev hev0 hd
        go_wp2_with fail
        refine (HM.out _).mono ?_
        rintro e w8 ⟨rfl, hb8⟩
        go_wp2
        exact StepQ.mk _ hb8 rfl
       ·intro xx af wv hbx hev hev0 hd; clear hev hev0 hd; go_wp2; exact StepQ.mk _ (Ext.alloc (Below.refl _ _) _) ⟨_, rfl, hbx.size, Blk.new _ _ _⟩
       intro xx w8 hb9 hv
       obtain ⟨g8, hv7, hlg7, hB7⟩ := hv 7 (by decide)
       simp only [List.take, List.drop, fillA, Act.put]
       simp only [show xx 0 = _ from hv 0 (by decide), show xx 1 = _ from hv 1 (by decide), show xx 2 = _ from hv 2 (by decide), show xx 3 = _ from hv 3 (by decide), show xx 4 = _ from hv 4 (by decide), show xx 5 = _ from hv 5 (by decide), show xx 6 = _ from hv 6 (by decide), hv7]
       clear hv hv7
       have HS8 := Lib.hid (HS6.out.fill hb9 hlg7 hB7)
       clear hlg7 hB7
       clear hb9 HS6
       obtain ⟨x27, x28, x29⟩ := HS8.out.k0 0 rfl rfl rfl rfl
       obtain ⟨x30, x31, x32⟩ := HS8.out.f0 0 rfl
       have x33 := HS8.out.ne 0 1 rfl rfl (by decide)
       have x34 := HS8.out.ne 1 0 rfl rfl (by decide)
       have x35 := HS8.out.ne 0 2 rfl rfl (by decide)
       have x36 := HS8.out.ne 2 0 rfl rfl (by decide)
       go_wp2
       clear x27 x28 x29 x30 x31 x32 x33 x34 x35 x36
       refine wp_st (R := [⟨g8, #[.bool (negB (pd)), .string (bs (numB (pd))), .string (bs (denomB (pd)))], 25⟩, ⟨wr.heap.size, #[.int .i64 u.rank, .bool u.tn, .string (bs u.ta), .string (bs u.tb), .bool u.fn, .string (bs u.fa), .string (bs u.fb), .bool u.kn, .string (bs u.ka), .string (bs u.kb), .bool false], 59⟩, ⟨w5.heap.size, #[.bool (negB (lf)), .string (bs (numB (lf))), .string (bs (denomB (lf)))], 25⟩]) (St.set ((St.set ((St.set (HS8.out) 0 rfl 0 _)) 0 rfl 1 _)) 0 rfl 2 _) ?_
       intro wg9 hb
       have HS9 := Lib.hid hb
       clear hb HS8
       refine wp_region_eq 22 [.slice (some ⟨b2, o2, none⟩) rr.length c9, .int .i64 (k : Nat), .pointer (some ⟨b2, o2 + k * 3, none⟩), .agg #[.bool (negB (r)), .string (bs (numB (r))), .string (bs (denomB (r)))], .agg #[.bool (negB (on)), .string (bs (numB (on))), .string (bs (denomB (on)))], .int .i64 s1, .bool true, .bool true, .pointer (some ⟨wr.heap.size, 10, none⟩), .bool false, .bool false, undef, undef, undef, undef, undef, undef, undef, undef, .bool false, .bool true, .bool true] rfl (by kernel_rfl) (by kernel_rfl) (by kernel_rfl) ?_ ?_
       refine ⟨?_, ?_, ?_, ?_, ?_, ?_, ?_, ?_, ?_, ?_, ?_, ?_, ?_, ?_, ?_, ?_, ?_, ?_, ?_, ?_, ?_, ?_, trivial⟩
       ·intro xx af wv hbx hev hev0 hd; have e10 : af.tmps[10]?.getD undef = .slice (some ⟨b2, o2, none⟩) rr.length c9 := hev0 10 rfl; clear hev hev0 hd; go_wp2; exact sQ rfl
       ·intro xx af wv hbx hev hev0 hd; have e17 : af.tmps[17]?.getD undef = .int .i64 (k : Nat) := hev0 17 rfl; clear hev hev0 hd; go_wp2; exact sQ rfl
       ·intro xx af wv hbx hev hev0 hd; have e75 := (hev 0 _ 75 rfl rfl).trans (hd ⟨0, .data⟩ (by simp) rfl); have e76 := (hev 1 _ 76 rfl rfl).trans (hd ⟨1, .data⟩ (by simp) rfl); clear hev hev0 hd; go_wp2; exact sQ rfl
       ·intro xx af wv hbx hev hev0 hd; have e77 := (hev 2 _ 77 rfl rfl).trans (hd ⟨2, .data⟩ (by simp) rfl); clear hev hev0 hd; have hs1 := Lib.hid (HS9.out.call hbx); obtain ⟨y0, y1, y2⟩ := kE0 (HY.out _ hs1.out.below) rfl rfl rfl; go_wp2; exact sQ rfl
       ·intro xx af wv hbx hev hev0 hd
        clear hev hev0 hd
        go_wp2_with fail
        refine (HW.out _).mono ?_
        rintro e w8 ⟨rfl, hb8⟩
        go_wp2
        exact StepQ.mk _ hb8 rfl
       ·intro xx af wv hbx hev hev0 hd
        have e78 := (hev 3 _ 78 rfl rfl).trans (hd ⟨3, .data⟩ (by simp) rfl)
        have e79 := (hev 4 _ 79 rfl rfl).trans (hd ⟨4, .data⟩ (by simp) rfl)
        clear hev hev0 hd
        go_wp2_with fail
        refine (HC1.out _).mono ?_
        rintro e w8 ⟨rfl, hb8⟩
        go_wp2
        exact StepQ.mk _ hb8 rfl
       ·intro xx af wv hbx hev hev0 hd; have e80 := (hev 5 _ 80 rfl rfl).trans (hd ⟨5, .data⟩ (by simp) rfl); clear hev hev0 hd; go_wp2; exact sQ rfl
       ·intro xx af wv hbx hev hev0 hd; have e81 := (hev 6 _ 81 rfl rfl).trans (hd ⟨6, .data⟩ (by simp) rfl); clear hev hev0 hd; go_wp2; exact sQ rfl
       ·intro xx af wv hbx hev hev0 hd; have e82 := (hev 7 _ 82 rfl rfl).trans (hd ⟨7, .guard⟩ (by simp) rfl); have e18 : af.tmps[18]?.getD undef = .pointer (some ⟨wr.heap.size, 0, none⟩) := hev0 18 rfl; have q82 := getD_bool e82; clear hev hev0 hd; go_wp2; exact sQ rfl
       ·intro xx af wv hbx hev hev0 hd; have e82 := (hev 7 _ 82 rfl rfl).trans (hd ⟨7, .guard⟩ (by simp) rfl); have e83 := (hev 8 _ 83 rfl rfl).trans (hd ⟨8, .data⟩ (by simp) rfl); have q82 := getD_bool e82; clear hev hev0 hd; have hs1 := Lib.hid (HS9.out.call hbx); have y0 := hs1.out.cell 1 rfl 10 rfl; go_wp2; exact sQ rfl
       ·intro xx af wv hbx hev hev0 hd; have e82 := (hev 7 _ 82 rfl rfl).trans (hd ⟨7, .chain⟩ (by simp) rfl); have e84 := (hev 9 _ 84 rfl rfl).trans (hd ⟨9, .data⟩ (by simp) rfl); have q82 := getD_bool e82; clear hev hev0 hd; go_wp2; exact sQ rfl
       ·intro xx af wv hbx hev hev0 hd; have e85 := (hev 10 _ 85 rfl rfl).trans (hd ⟨10, .guard⟩ (by simp) rfl); have q85 := getD_bool e85; clear hev hev0 hd; go_wp2; exact sQ rfl
       ·intro xx af wv hbx hev hev0 hd; have e85 := (hev 10 _ 85 rfl rfl).trans (hd ⟨10, .guard⟩ (by simp) rfl); have q85 := getD_bool e85; clear hev hev0 hd; go_wp2; exact sQ rfl
       ·intro xx af wv hbx hev hev0 hd; have e85 := (hev 10 _ 85 rfl rfl).trans (hd ⟨10, .guard⟩ (by simp) rfl); have q85 := getD_bool e85; clear hev hev0 hd; go_wp2; exact sQ rfl
       ·intro xx af wv hbx hev hev0 hd; have e85 := (hev 10 _ 85 rfl rfl).trans (hd ⟨10, .guard⟩ (by simp) rfl); have q85 := getD_bool e85; clear hev hev0 hd; go_wp2; exact sQ rfl
       ·intro xx af wv hbx hev hev0 hd; have e85 := (hev 10 _ 85 rfl rfl).trans (hd ⟨10, .guard⟩ (by simp) rfl); have q85 := getD_bool e85; clear hev hev0 hd; go_wp2; exact sQ rfl
       ·intro xx af wv hbx hev hev0 hd; have e85 := (hev 10 _ 85 rfl rfl).trans (hd ⟨10, .guard⟩ (by simp) rfl); have q85 := getD_bool e85; clear hev hev0 hd; go_wp2; exact sQ rfl
       ·intro xx af wv hbx hev hev0 hd; have e85 := (hev 10 _ 85 rfl rfl).trans (hd ⟨10, .chain⟩ (by simp) rfl); have q85 := getD_bool e85; clear hev hev0 hd; go_wp2; exact sQ rfl
       ·intro xx af wv hbx hev hev0 hd; have e85 := (hev 10 _ 85 rfl rfl).trans (hd ⟨10, .guard⟩ (by simp) rfl); have q85 := getD_bool e85; clear hev hev0 hd; go_wp2; exact sQ rfl
       ·intro xx af wv hbx hev hev0 hd; have e82 := (hev 7 _ 82 rfl rfl).trans (hd ⟨7, .guard⟩ (by simp) rfl); have e85 := (hev 10 _ 85 rfl rfl).trans (hd ⟨10, .data⟩ (by simp) rfl); have e93 := (hev 18 _ 93 rfl rfl).trans (hd ⟨18, .data⟩ (by simp) rfl); have q82 := getD_bool e82; clear hev hev0 hd; go_wp2; exact sQ rfl
       ·intro xx af wv hbx hev hev0 hd; have e82 := (hev 7 _ 82 rfl rfl).trans (hd ⟨7, .guard⟩ (by simp) rfl); have e94 := (hev 19 _ 94 rfl rfl).trans (hd ⟨19, .data⟩ (by simp) rfl); have q82 := getD_bool e82; clear hev hev0 hd; go_wp2; exact sQ rfl
       ·intro xx af wv hbx hev hev0 hd; have e82 := (hev 7 _ 82 rfl rfl).trans (hd ⟨7, .data⟩ (by simp) rfl); have e95 := (hev 20 _ 95 rfl rfl).trans (hd ⟨20, .data⟩ (by simp) rfl); clear hev hev0 hd; go_wp2; exact sQ rfl
       intro xx w10 hb9 hv
       simp only [List.take, List.drop, fillA, Act.put]
       simp only [show xx 0 = _ from hv 0 (by decide), show xx 1 = _ from hv 1 (by decide), show xx 2 = _ from hv 2 (by decide), show xx 3 = _ from hv 3 (by decide), show xx 4 = _ from hv 4 (by decide), show xx 5 = _ from hv 5 (by decide), show xx 6 = _ from hv 6 (by decide), show xx 7 = _ from hv 7 (by decide), show xx 8 = _ from hv 8 (by decide), show xx 9 = _ from hv 9 (by decide), show xx 10 = _ from hv 10 (by decide), show xx 11 = _ from hv 11 (by decide), show xx 12 = _ from hv 12 (by decide), show xx 13 = _ from hv 13 (by decide), show xx 14 = _ from hv 14 (by decide), show xx 15 = _ from hv 15 (by decide), show xx 16 = _ from hv 16 (by decide), show xx 17 = _ from hv 17 (by decide), show xx 18 = _ from hv 18 (by decide), show xx 19 = _ from hv 19 (by decide), show xx 20 = _ from hv 20 (by decide), show xx 21 = _ from hv 21 (by decide)]
       clear hv
       have HS10 := Lib.hid (HS9.out.call hb9)
       clear hb9 HS9
       go_wp2
       refine wp_region_eq 16 [.bool true, .bool true, .agg #[.bool (negB (pd)), .string (bs (numB (pd))), .string (bs (denomB (pd)))], .agg #[.bool (negB (lf)), .string (bs (numB (lf))), .string (bs (denomB (lf)))], .int .i64 0, .bool false, .bool false, .bool false, .slice (some ⟨b2, o2, none⟩) rr.length c9, .int .i64 (k : Nat), .pointer (some ⟨b2, o2 + k * 3, none⟩), .agg #[.bool (negB (r)), .string (bs (numB (r))), .string (bs (denomB (r)))], .pointer (some ⟨wr.heap.size, 4, none⟩), .agg #[.bool u.fn, .string (bs u.fa), .string (bs u.fb)], .int .i64 s4, .bool false] rfl (by kernel_rfl) (by kernel_rfl) (by kernel_rfl) ?_ ?_
       refine ⟨?_, ?_, ?_, ?_, ?_, ?_, ?_, ?_, ?_, ?_, ?_, ?_, ?_, ?_, ?_, ?_, trivial⟩
       ·intro xx af wv hbx hev hev0 hd; have e20 : af.tmps[20]?.getD undef = .bool true := hev0 20 rfl; clear hev hev0 hd; go_wp2; exact sQ rfl
       ·intro xx af wv hbx hev hev0 hd; have e97 := (hev 0 _ 97 rfl rfl).trans (hd ⟨0, .data⟩ (by simp) rfl); clear hev hev0 hd; go_wp2; exact sQ rfl
       ·intro xx af wv hbx hev hev0 hd; have e98 := (hev 1 _ 98 rfl rfl).trans (hd ⟨1, .guard⟩ (by simp) rfl); have e19 : af.tmps[19]?.getD undef = .pointer (some ⟨g8, 0, none⟩) := hev0 19 rfl; have q98 := getD_bool e98; clear hev hev0 hd; have hs1 := Lib.hid (HS10.out.call hbx); obtain ⟨y0, y1, y2⟩ := hs1.out.k0 0 rfl rfl rfl rfl; go_wp2; exact sQ rfl
       ·intro xx af wv hbx hev hev0 hd; have e98 := (hev 1 _ 98 rfl rfl).trans (hd ⟨1, .guard⟩ (by simp) rfl); have e16 : af.tmps[16]?.getD undef = .pointer (some ⟨w5.heap.size, 0, none⟩) := hev0 16 rfl; have q98 := getD_bool e98; clear hev hev0 hd; have hs1 := Lib.hid (HS10.out.call hbx); obtain ⟨y0, y1, y2⟩ := hs1.out.k0 2 rfl rfl rfl rfl; go_wp2; exact sQ rfl
       ·intro xx af wv hbx hev hev0 hd
        have e98 := (hev 1 _ 98 rfl rfl).trans (hd ⟨1, .chain⟩ (by simp) rfl)
        have e99 := (hev 2 _ 99 rfl rfl).trans (hd ⟨2, .data⟩ (by simp) rfl)
        have e100 := (hev 3 _ 100 rfl rfl).trans (hd ⟨3, .data⟩ (by simp) rfl)
        have q98 := getD_bool e98
        clear hev hev0 hd
        go_wp2_with fail
        refine (HC3.out _).mono ?_
        rintro e w8 ⟨rfl, hb8⟩
        go_wp2
        exact StepQ.mk _ hb8 rfl
       ·intro xx af wv hbx hev hev0 hd; have e98 := (hev 1 _ 98 rfl rfl).trans (hd ⟨1, .guard⟩ (by simp) rfl); have e101 := (hev 4 _ 101 rfl rfl).trans (hd ⟨4, .data⟩ (by simp) rfl); have q98 := getD_bool e98; clear hev hev0 hd; go_wp2; exact sQ rfl
       ·intro xx af wv hbx hev hev0 hd; have e98 := (hev 1 _ 98 rfl rfl).trans (hd ⟨1, .data⟩ (by simp) rfl); have e102 := (hev 5 _ 102 rfl rfl).trans (hd ⟨5, .data⟩ (by simp) rfl); clear hev hev0 hd; go_wp2; exact sQ rfl
       ·intro xx af wv hbx hev hev0 hd; have e103 := (hev 6 _ 103 rfl rfl).trans (hd ⟨6, .data⟩ (by simp) rfl); clear hev hev0 hd; go_wp2; exact sQ rfl
       ·intro xx af wv hbx hev hev0 hd; have e104 := (hev 7 _ 104 rfl rfl).trans (hd ⟨7, .guard⟩ (by simp) rfl); have e10 : af.tmps[10]?.getD undef = .slice (some ⟨b2, o2, none⟩) rr.length c9 := hev0 10 rfl; have q104 := getD_bool e104; clear hev hev0 hd; go_wp2; exact sQ rfl
       ·intro xx af wv hbx hev hev0 hd; have e104 := (hev 7 _ 104 rfl rfl).trans (hd ⟨7, .guard⟩ (by simp) rfl); have e17 : af.tmps[17]?.getD undef = .int .i64 (k : Nat) := hev0 17 rfl; have q104 := getD_bool e104; clear hev hev0 hd; go_wp2; exact sQ rfl
       ·intro xx af wv hbx hev hev0 hd; have e104 := (hev 7 _ 104 rfl rfl).trans (hd ⟨7, .guard⟩ (by simp) rfl); have e105 := (hev 8 _ 105 rfl rfl).trans (hd ⟨8, .data⟩ (by simp) rfl); have e106 := (hev 9 _ 106 rfl rfl).trans (hd ⟨9, .data⟩ (by simp) rfl); have q104 := getD_bool e104; clear hev hev0 hd; go_wp2; exact sQ rfl
       ·intro xx af wv hbx hev hev0 hd; have e104 := (hev 7 _ 104 rfl rfl).trans (hd ⟨7, .guard⟩ (by simp) rfl); have e107 := (hev 10 _ 107 rfl rfl).trans (hd ⟨10, .data⟩ (by simp) rfl); have q104 := getD_bool e104; clear hev hev0 hd; have hs1 := Lib.hid (HS10.out.call hbx); obtain ⟨y0, y1, y2⟩ := kE0 (HY.out _ hs1.out.below) rfl rfl rfl; go_wp2; exact sQ rfl
       ·intro xx af wv hbx hev hev0 hd; have e104 := (hev 7 _ 104 rfl rfl).trans (hd ⟨7, .guard⟩ (by simp) rfl); have e18 : af.tmps[18]?.getD undef = .pointer (some ⟨wr.heap.size, 0, none⟩) := hev0 18 rfl; have q104 := getD_bool e104; clear hev hev0 hd; go_wp2; exact sQ rfl
       ·intro xx af wv hbx hev hev0 hd; have e104 := (hev 7 _ 104 rfl rfl).trans (hd ⟨7, .guard⟩ (by simp) rfl); have e109 := (hev 12 _ 109 rfl rfl).trans (hd ⟨12, .data⟩ (by simp) rfl); have q104 := getD_bool e104; clear hev hev0 hd; have hs1 := Lib.hid (HS10.out.call hbx); obtain ⟨y0, y1, y2⟩ := hs1.out.k4 1 rfl rfl rfl rfl; go_wp2; exact sQ rfl
       ·intro xx af wv hbx hev hev0 hd
        have e104 := (hev 7 _ 104 rfl rfl).trans (hd ⟨7, .chain⟩ (by simp) rfl)
        have e108 := (hev 11 _ 108 rfl rfl).trans (hd ⟨11, .data⟩ (by simp) rfl)
        have e110 := (hev 13 _ 110 rfl rfl).trans (hd ⟨13, .data⟩ (by simp) rfl)
        have q104 := getD_bool e104
        clear hev hev0 hd
        go_wp2_with fail
        refine (HC4.out _).mono ?_
        rintro e w8 ⟨rfl, hb8⟩
        go_wp2
        exact StepQ.mk _ hb8 rfl
       ·intro xx af wv hbx hev hev0 hd; have e104 := (hev 7 _ 104 rfl rfl).trans (hd ⟨7, .guard⟩ (by simp) rfl); have e111 := (hev 14 _ 111 rfl rfl).trans (hd ⟨14, .data⟩ (by simp) rfl); have q104 := getD_bool e104; clear hev hev0 hd; go_wp2; exact sQ rfl
       intro xx w11 hb9 hv
       simp only [List.take, List.drop, fillA, Act.put]
       simp only [show xx 0 = _ from hv 0 (by decide), show xx 1 = _ from hv 1 (by decide), show xx 2 = _ from hv 2 (by decide), show xx 3 = _ from hv 3 (by decide), show xx 4 = _ from hv 4 (by decide), show xx 5 = _ from hv 5 (by decide), show xx 6 = _ from hv 6 (by decide), show xx 7 = _ from hv 7 (by decide), show xx 8 = _ from hv 8 (by decide), show xx 9 = _ from hv 9 (by decide), show xx 10 = _ from hv 10 (by decide), show xx 11 = _ from hv 11 (by decide), show xx 12 = _ from hv 12 (by decide), show xx 13 = _ from hv 13 (by decide), show xx 14 = _ from hv 14 (by decide), show xx 15 = _ from hv 15 (by decide)]
       clear hv
       have HS11 := Lib.hid (HS10.out.call hb9)
       clear hb9 HS10
       obtain ⟨x37, x38, x39⟩ := HS11.out.k0 2 rfl rfl rfl rfl
       obtain ⟨x40, x41, x42⟩ := HS11.out.k0 0 rfl rfl rfl rfl
       go_wp2_with fail
       refine (HSU.out _).mono ?_
       rintro e w12 ⟨rfl, hb12⟩
       have HS12 := Lib.hid (HS11.out.call hb12)
       clear hb12 HS11
       clear x37 x38 x39 x40 x41 x42
       obtain ⟨x43, x44, x45⟩ := HS12.out.k0 2 rfl rfl rfl rfl
       obtain ⟨x46, x47, x48⟩ := HS12.out.f0 2 rfl
       have x49 := HS12.out.ne 2 0 rfl rfl (by decide)
       have x50 := HS12.out.ne 0 2 rfl rfl (by decide)
       have x51 := HS12.out.ne 2 1 rfl rfl (by decide)
       have x52 := HS12.out.ne 1 2 rfl rfl (by decide)
       go_wp2
       have HS13 : Hid (St wc [⟨g8, #[.bool (negB (pd)), .string (bs (numB (pd))), .string (bs (denomB (pd)))], 25⟩, ⟨wr.heap.size, #[.int .i64 u.rank, .bool u.tn, .string (bs u.ta), .string (bs u.tb), .bool u.fn, .string (bs u.fa), .string (bs u.fb), .bool u.kn, .string (bs u.ka), .string (bs u.kb), .bool false], 59⟩, ⟨w5.heap.size, #[.bool (negB (ln)), .string (bs (numB (ln))), .string (bs (denomB (ln)))], 25⟩] _) := Lib.hid (St.set ((St.set ((St.set (HS12.out) 2 rfl 0 _)) 2 rfl 1 _)) 2 rfl 2 _)
       go_roundw
       case rel => exact ⟨k + 1, by omega, by go_num, by show St _ _ _; rw [← HLN.out]; exact HS13.out.sub (by simp)⟩
       case measure => simp [intOf]; omega
     ·have d1 : decide (s1 < 0) = false := decide_eq_false hi
      have HX := HXA.out u.acc rfl
      clear HXA HD3 hi
      have x11 : w2.heap.size < wr.heap.size := Nat.lt_of_lt_of_le hb9 HS.out.below.size
      have x12 : ¬ w2.heap.size = wr.heap.size := by omega
      have x13 : b < wr.heap.size := Nat.lt_of_lt_of_le hbb HS.out.below.size
      have x14 : ¬ b = wr.heap.size := by omega
      have x15 := HV9.out _ HS.out.below 3 _ rfl
      obtain ⟨x16, x17, x18, x19, x20, x21, x22, x23, x24, x25, x26⟩ := kE (HX.out _ HS.out.below) rfl rfl rfl rfl rfl rfl rfl rfl rfl rfl rfl
      go_wp2
      clear x11 x12 x13 x14 x15 x16 x17 x18 x19 x20 x21 x22 x23 x24 x25 x26
      refine wp_st (R := [⟨wr.heap.size, #[.int .i64 u.rank, .bool u.tn, .string (bs u.ta), .string (bs u.tb), .bool u.fn, .string (bs u.fa), .string (bs u.fb), .bool u.kn, .string (bs u.ka), .string (bs u.kb), .bool u.acc], 59⟩, ⟨w5.heap.size, #[.bool (negB (lf)), .string (bs (numB (lf))), .string (bs (denomB (lf)))], 25⟩]) (St.alloc (HS.out) #[.int .i64 u.rank, .bool u.tn, .string (bs u.ta), .string (bs u.tb), .bool u.fn, .string (bs u.fa), .string (bs u.fb), .bool u.kn, .string (bs u.ka), .string (bs u.kb), .bool u.acc] 59 (wr.heap.size) (by simp)) ?_
      intro wg6 hb
      have HS6 := Lib.hid hb
      clear hb HS
      refine wp_region_facts 8 [eQ (.pointer (some ⟨wr.heap.size, 1, none⟩)), eQ (.agg #[.bool u.tn, .string (bs u.ta), .string (bs u.tb)]), eQ (.slice (some ⟨b2, o2, none⟩) rr.length c9), eQ (.int .i64 (k : Nat)), eQ (.pointer (some ⟨b2, o2 + k * 3, none⟩)), eQ (.agg #[.bool (negB (r)), .string (bs (numB (r))), .string (bs (denomB (r)))]), eQ (.agg #[.bool (negB (pd)), .string (bs (numB (pd))), .string (bs (denomB (pd)))]), fun ww vv => ∃ g, vv = .pointer (some ⟨g, 0, none⟩) ∧ wg6.heap.size ≤ g ∧ Blk ww g #[.bool false, .string (bs []), .string (bs [])] 25] rfl (by kernel_rfl) (by kernel_rfl) (by kernel_rfl) ⟨stE, stE, stE, stE, stE, stE, stE, fun _ _ _ ⟨g, e, hg, h⟩ hb => ⟨g, e, hg, h.below hb h.lt⟩, trivial⟩ ?_ ?_
      refine ⟨?_, ?_, ?_, ?_, ?_, ?_, ?_, ?_, trivial⟩
      ·intro xx af wv hbx hev hev0 hd; have e18 : af.tmps[18]?.getD undef = .pointer (some ⟨wr.heap.size, 0, none⟩) := hev0 18 rfl; clear hev hev0 hd; go_wp2; exact sQ rfl
      ·intro xx af wv hbx hev hev0 hd; have e68 := (hev 0 _ 68 rfl rfl).trans (hd ⟨0, .data⟩ (by simp) rfl); clear hev hev0 hd; have hs1 := Lib.hid (HS6.out.call hbx); obtain ⟨y0, y1, y2⟩ := hs1.out.k1 0 rfl rfl rfl rfl; go_wp2; exact sQ rfl
      ·intro xx af wv hbx hev hev0 hd; have e10 : af.tmps[10]?.getD undef = .slice (some ⟨b2, o2, none⟩) rr.length c9 := hev0 10 rfl; clear hev hev0 hd; go_wp2; exact sQ rfl
      ·intro xx af wv hbx hev hev0 hd; have e17 : af.tmps[17]?.getD undef = .int .i64 (k : Nat) := hev0 17 rfl; clear hev hev0 hd; go_wp2; exact sQ rfl
      ·intro xx af wv hbx hev hev0 hd; have e70 := (hev 2 _ 70 rfl rfl).trans (hd ⟨2, .data⟩ (by simp) rfl); have e71 := (hev 3 _ 71 rfl rfl).trans (hd ⟨3, .data⟩ (by simp) rfl); clear hev hev0 hd; go_wp2; exact sQ rfl
      ·intro xx af wv hbx hev hev0 hd; have e72 := (hev 4 _ 72 rfl rfl).trans (hd ⟨4, .data⟩ (by simp) rfl); clear hev hev0 hd; have hs1 := Lib.hid (HS6.out.call hbx); obtain ⟨y0, y1, y2⟩ := kE0 (HY.out _ hs1.out.below) rfl rfl rfl; go_wp2; exact sQ rfl
      ·intro xx af wv hbx hev hev0 hd
       have e69 := (hev 1 _ 69 rfl rfl).trans (hd ⟨1, .data⟩ (by simp) rfl)
       have e73 := (hev 5 _ 73 rfl rfl).trans (hd ⟨5, .data⟩ (by simp) rfl)
       clear hev hev0 hd
       go_wp2_with fail
       refine (HM.out _).mono ?_
       rintro e w8 ⟨rfl, hb8⟩
       go_wp2
       exact StepQ.mk _ hb8 rfl
      ·intro xx af wv hbx hev hev0 hd; clear hev hev0 hd; go_wp2; exact StepQ.mk _ (Ext.alloc (Below.refl _ _) _) ⟨_, rfl, hbx.size, Blk.new _ _ _⟩
      intro xx w8 hb9 hv
      obtain ⟨g8, hv7, hlg7, hB7⟩ := hv 7 (by decide)
      simp only [List.take, List.drop, fillA, Act.put]
      simp only [show xx 0 = _ from hv 0 (by decide), show xx 1 = _ from hv 1 (by decide), show xx 2 = _ from hv 2 (by decide), show xx 3 = _ from hv 3 (by decide), show xx 4 = _ from hv 4 (by decide), show xx 5 = _ from hv 5 (by decide), show xx 6 = _ from hv 6 (by decide), hv7]
      clear hv hv7
      have HS8 := Lib.hid (HS6.out.fill hb9 hlg7 hB7)
      clear hlg7 hB7
      clear hb9 HS6
      obtain ⟨x27, x28, x29⟩ := HS8.out.k0 0 rfl rfl rfl rfl
      obtain ⟨x30, x31, x32⟩ := HS8.out.f0 0 rfl
      have x33 := HS8.out.ne 0 1 rfl rfl (by decide)
      have x34 := HS8.out.ne 1 0 rfl rfl (by decide)
      have x35 := HS8.out.ne 0 2 rfl rfl (by decide)
      have x36 := HS8.out.ne 2 0 rfl rfl (by decide)
      go_wp2
      clear x27 x28 x29 x30 x31 x32 x33 x34 x35 x36
      refine wp_st (R := [⟨g8, #[.bool (negB (pd)), .string (bs (numB (pd))), .string (bs (denomB (pd)))], 25⟩, ⟨wr.heap.size, #[.int .i64 u.rank, .bool u.tn, .string (bs u.ta), .string (bs u.tb), .bool u.fn, .string (bs u.fa), .string (bs u.fb), .bool u.kn, .string (bs u.ka), .string (bs u.kb), .bool u.acc], 59⟩, ⟨w5.heap.size, #[.bool (negB (lf)), .string (bs (numB (lf))), .string (bs (denomB (lf)))], 25⟩]) (St.set ((St.set ((St.set (HS8.out) 0 rfl 0 _)) 0 rfl 1 _)) 0 rfl 2 _) ?_
      intro wg9 hb
      have HS9 := Lib.hid hb
      clear hb HS8
      refine wp_region_eq 22 [.slice (some ⟨b2, o2, none⟩) rr.length c9, .int .i64 (k : Nat), .pointer (some ⟨b2, o2 + k * 3, none⟩), .agg #[.bool (negB (r)), .string (bs (numB (r))), .string (bs (denomB (r)))], .agg #[.bool (negB (on)), .string (bs (numB (on))), .string (bs (denomB (on)))], .int .i64 s1, .bool false, .bool false, undef, undef, undef, undef, undef, undef, undef, undef, undef, undef, undef, undef, undef, .bool false] rfl (by kernel_rfl) (by kernel_rfl) (by kernel_rfl) ?_ ?_
      refine ⟨?_, ?_, ?_, ?_, ?_, ?_, ?_, ?_, ?_, ?_, ?_, ?_, ?_, ?_, ?_, ?_, ?_, ?_, ?_, ?_, ?_, ?_, trivial⟩
      ·intro xx af wv hbx hev hev0 hd; have e10 : af.tmps[10]?.getD undef = .slice (some ⟨b2, o2, none⟩) rr.length c9 := hev0 10 rfl; clear hev hev0 hd; go_wp2; exact sQ rfl
      ·intro xx af wv hbx hev hev0 hd; have e17 : af.tmps[17]?.getD undef = .int .i64 (k : Nat) := hev0 17 rfl; clear hev hev0 hd; go_wp2; exact sQ rfl
      ·intro xx af wv hbx hev hev0 hd; have e75 := (hev 0 _ 75 rfl rfl).trans (hd ⟨0, .data⟩ (by simp) rfl); have e76 := (hev 1 _ 76 rfl rfl).trans (hd ⟨1, .data⟩ (by simp) rfl); clear hev hev0 hd; go_wp2; exact sQ rfl
      ·intro xx af wv hbx hev hev0 hd; have e77 := (hev 2 _ 77 rfl rfl).trans (hd ⟨2, .data⟩ (by simp) rfl); clear hev hev0 hd; have hs1 := Lib.hid (HS9.out.call hbx); obtain ⟨y0, y1, y2⟩ := kE0 (HY.out _ hs1.out.below) rfl rfl rfl; go_wp2; exact sQ rfl
      ·intro xx af wv hbx hev hev0 hd
       clear hev hev0 hd
       go_wp2_with fail
       refine (HW.out _).mono ?_
       rintro e w8 ⟨rfl, hb8⟩
       go_wp2
       exact StepQ.mk _ hb8 rfl
      ·intro xx af wv hbx hev hev0 hd
       have e78 := (hev 3 _ 78 rfl rfl).trans (hd ⟨3, .data⟩ (by simp) rfl)
       have e79 := (hev 4 _ 79 rfl rfl).trans (hd ⟨4, .data⟩ (by simp) rfl)
       clear hev hev0 hd
       go_wp2_with fail
       refine (HC1.out _).mono ?_
       rintro e w8 ⟨rfl, hb8⟩
       go_wp2
       exact StepQ.mk _ hb8 rfl
      ·intro xx af wv hbx hev hev0 hd; have e80 := (hev 5 _ 80 rfl rfl).trans (hd ⟨5, .data⟩ (by simp) rfl); clear hev hev0 hd; go_wp2; exact sQ rfl
      ·intro xx af wv hbx hev hev0 hd; have e81 := (hev 6 _ 81 rfl rfl).trans (hd ⟨6, .data⟩ (by simp) rfl); clear hev hev0 hd; go_wp2; exact sQ rfl
      ·intro xx af wv hbx hev hev0 hd; have e82 := (hev 7 _ 82 rfl rfl).trans (hd ⟨7, .guard⟩ (by simp) rfl); have q82 := getD_bool e82; clear hev hev0 hd; go_wp2; exact sQ rfl
      ·intro xx af wv hbx hev hev0 hd; have e82 := (hev 7 _ 82 rfl rfl).trans (hd ⟨7, .guard⟩ (by simp) rfl); have q82 := getD_bool e82; clear hev hev0 hd; go_wp2; exact sQ rfl
      ·intro xx af wv hbx hev hev0 hd; have e82 := (hev 7 _ 82 rfl rfl).trans (hd ⟨7, .chain⟩ (by simp) rfl); have q82 := getD_bool e82; clear hev hev0 hd; go_wp2; exact sQ rfl
      ·intro xx af wv hbx hev hev0 hd
       have e85 := (hev 10 _ 85 rfl rfl).trans (hd ⟨10, .guard⟩ (by simp) rfl)
       clear hev hev0 hd
       rcases getD_undef e85 with q85 | q85
       ·go_wp2
        exact sQ rfl
       ·go_wp2
        exact sQ rfl
      ·intro xx af wv hbx hev hev0 hd
       have e85 := (hev 10 _ 85 rfl rfl).trans (hd ⟨10, .guard⟩ (by simp) rfl)
       clear hev hev0 hd
       rcases getD_undef e85 with q85 | q85
       ·go_wp2
        exact sQ rfl
       ·go_wp2
        exact sQ rfl
      ·intro xx af wv hbx hev hev0 hd
       have e85 := (hev 10 _ 85 rfl rfl).trans (hd ⟨10, .guard⟩ (by simp) rfl)
       clear hev hev0 hd
       rcases getD_undef e85 with q85 | q85
       ·go_wp2
        exact sQ rfl
       ·go_wp2
        exact sQ rfl
      ·intro xx af wv hbx hev hev0 hd
       have e85 := (hev 10 _ 85 rfl rfl).trans (hd ⟨10, .guard⟩ (by simp) rfl)
       clear hev hev0 hd
       rcases getD_undef e85 with q85 | q85
       ·go_wp2
        exact sQ rfl
       ·go_wp2
        exact sQ rfl
      ·intro xx af wv hbx hev hev0 hd
       have e85 := (hev 10 _ 85 rfl rfl).trans (hd ⟨10, .guard⟩ (by simp) rfl)
       clear hev hev0 hd
       rcases getD_undef e85 with q85 | q85
       ·go_wp2
        exact sQ rfl
       ·go_wp2
        exact sQ rfl
      ·intro xx af wv hbx hev hev0 hd
       have e85 := (hev 10 _ 85 rfl rfl).trans (hd ⟨10, .guard⟩ (by simp) rfl)
       clear hev hev0 hd
       rcases getD_undef e85 with q85 | q85
       ·go_wp2
        exact sQ rfl
       ·go_wp2
        exact sQ rfl
      ·intro xx af wv hbx hev hev0 hd
       have e85 := (hev 10 _ 85 rfl rfl).trans (hd ⟨10, .chain⟩ (by simp) rfl)
       clear hev hev0 hd
       rcases getD_undef e85 with q85 | q85
       ·go_wp2
        exact sQ rfl
       ·go_wp2
        exact sQ rfl
      ·intro xx af wv hbx hev hev0 hd
       have e85 := (hev 10 _ 85 rfl rfl).trans (hd ⟨10, .guard⟩ (by simp) rfl)
       clear hev hev0 hd
       rcases getD_undef e85 with q85 | q85
       ·go_wp2
        exact sQ rfl
       ·go_wp2
        exact sQ rfl
      ·intro xx af wv hbx hev hev0 hd; have e82 := (hev 7 _ 82 rfl rfl).trans (hd ⟨7, .guard⟩ (by simp) rfl); have q82 := getD_bool e82; clear hev hev0 hd; go_wp2; exact sQ rfl
      ·intro xx af wv hbx hev hev0 hd; have e82 := (hev 7 _ 82 rfl rfl).trans (hd ⟨7, .guard⟩ (by simp) rfl); have q82 := getD_bool e82; clear hev hev0 hd; go_wp2; exact sQ rfl
      ·intro xx af wv hbx hev hev0 hd; have e82 := (hev 7 _ 82 rfl rfl).trans (hd ⟨7, .data⟩ (by simp) rfl); have e95 := (hev 20 _ 95 rfl rfl).trans (hd ⟨20, .data⟩ (by simp) rfl); clear hev hev0 hd; go_wp2; exact sQ rfl
      intro xx w10 hb9 hv
      simp only [List.take, List.drop, fillA, Act.put]
      simp only [show xx 0 = _ from hv 0 (by decide), show xx 1 = _ from hv 1 (by decide), show xx 2 = _ from hv 2 (by decide), show xx 3 = _ from hv 3 (by decide), show xx 4 = _ from hv 4 (by decide), show xx 5 = _ from hv 5 (by decide), show xx 6 = _ from hv 6 (by decide), show xx 7 = _ from hv 7 (by decide), show xx 8 = _ from hv 8 (by decide), show xx 9 = _ from hv 9 (by decide), show xx 10 = _ from hv 10 (by decide), show xx 11 = _ from hv 11 (by decide), show xx 12 = _ from hv 12 (by decide), show xx 13 = _ from hv 13 (by decide), show xx 14 = _ from hv 14 (by decide), show xx 15 = _ from hv 15 (by decide), show xx 16 = _ from hv 16 (by decide), show xx 17 = _ from hv 17 (by decide), show xx 18 = _ from hv 18 (by decide), show xx 19 = _ from hv 19 (by decide), show xx 20 = _ from hv 20 (by decide), show xx 21 = _ from hv 21 (by decide)]
      clear hv
      have HS10 := Lib.hid (HS9.out.call hb9)
      clear hb9 HS9
      go_wp2
      refine wp_region_eq 16 [.bool false, .bool false, undef, undef, undef, undef, .bool false, .bool false, .slice (some ⟨b2, o2, none⟩) rr.length c9, .int .i64 (k : Nat), .pointer (some ⟨b2, o2 + k * 3, none⟩), .agg #[.bool (negB (r)), .string (bs (numB (r))), .string (bs (denomB (r)))], .pointer (some ⟨wr.heap.size, 4, none⟩), .agg #[.bool u.fn, .string (bs u.fa), .string (bs u.fb)], .int .i64 s4, .bool false] rfl (by kernel_rfl) (by kernel_rfl) (by kernel_rfl) ?_ ?_
      refine ⟨?_, ?_, ?_, ?_, ?_, ?_, ?_, ?_, ?_, ?_, ?_, ?_, ?_, ?_, ?_, ?_, trivial⟩
      ·intro xx af wv hbx hev hev0 hd; have e20 : af.tmps[20]?.getD undef = .bool false := hev0 20 rfl; clear hev hev0 hd; go_wp2; exact sQ rfl
      ·intro xx af wv hbx hev hev0 hd; have e97 := (hev 0 _ 97 rfl rfl).trans (hd ⟨0, .data⟩ (by simp) rfl); clear hev hev0 hd; go_wp2; exact sQ rfl
      ·intro xx af wv hbx hev hev0 hd; have e98 := (hev 1 _ 98 rfl rfl).trans (hd ⟨1, .guard⟩ (by simp) rfl); have q98 := getD_bool e98; clear hev hev0 hd; go_wp2; exact sQ rfl
      ·intro xx af wv hbx hev hev0 hd; have e98 := (hev 1 _ 98 rfl rfl).trans (hd ⟨1, .guard⟩ (by simp) rfl); have q98 := getD_bool e98; clear hev hev0 hd; go_wp2; exact sQ rfl
      ·intro xx af wv hbx hev hev0 hd; have e98 := (hev 1 _ 98 rfl rfl).trans (hd ⟨1, .chain⟩ (by simp) rfl); have q98 := getD_bool e98; clear hev hev0 hd; go_wp2; exact sQ rfl
      ·intro xx af wv hbx hev hev0 hd; have e98 := (hev 1 _ 98 rfl rfl).trans (hd ⟨1, .guard⟩ (by simp) rfl); have q98 := getD_bool e98; clear hev hev0 hd; go_wp2; exact sQ rfl
      ·intro xx af wv hbx hev hev0 hd; have e98 := (hev 1 _ 98 rfl rfl).trans (hd ⟨1, .data⟩ (by simp) rfl); have e102 := (hev 5 _ 102 rfl rfl).trans (hd ⟨5, .data⟩ (by simp) rfl); clear hev hev0 hd; go_wp2; exact sQ rfl
      ·intro xx af wv hbx hev hev0 hd; have e103 := (hev 6 _ 103 rfl rfl).trans (hd ⟨6, .data⟩ (by simp) rfl); clear hev hev0 hd; go_wp2; exact sQ rfl
      ·intro xx af wv hbx hev hev0 hd; have e104 := (hev 7 _ 104 rfl rfl).trans (hd ⟨7, .guard⟩ (by simp) rfl); have e10 : af.tmps[10]?.getD undef = .slice (some ⟨b2, o2, none⟩) rr.length c9 := hev0 10 rfl; have q104 := getD_bool e104; clear hev hev0 hd; go_wp2; exact sQ rfl
      ·intro xx af wv hbx hev hev0 hd; have e104 := (hev 7 _ 104 rfl rfl).trans (hd ⟨7, .guard⟩ (by simp) rfl); have e17 : af.tmps[17]?.getD undef = .int .i64 (k : Nat) := hev0 17 rfl; have q104 := getD_bool e104; clear hev hev0 hd; go_wp2; exact sQ rfl
      ·intro xx af wv hbx hev hev0 hd; have e104 := (hev 7 _ 104 rfl rfl).trans (hd ⟨7, .guard⟩ (by simp) rfl); have e105 := (hev 8 _ 105 rfl rfl).trans (hd ⟨8, .data⟩ (by simp) rfl); have e106 := (hev 9 _ 106 rfl rfl).trans (hd ⟨9, .data⟩ (by simp) rfl); have q104 := getD_bool e104; clear hev hev0 hd; go_wp2; exact sQ rfl
      ·intro xx af wv hbx hev hev0 hd; have e104 := (hev 7 _ 104 rfl rfl).trans (hd ⟨7, .guard⟩ (by simp) rfl); have e107 := (hev 10 _ 107 rfl rfl).trans (hd ⟨10, .data⟩ (by simp) rfl); have q104 := getD_bool e104; clear hev hev0 hd; have hs1 := Lib.hid (HS10.out.call hbx); obtain ⟨y0, y1, y2⟩ := kE0 (HY.out _ hs1.out.below) rfl rfl rfl; go_wp2; exact sQ rfl
      ·intro xx af wv hbx hev hev0 hd; have e104 := (hev 7 _ 104 rfl rfl).trans (hd ⟨7, .guard⟩ (by simp) rfl); have e18 : af.tmps[18]?.getD undef = .pointer (some ⟨wr.heap.size, 0, none⟩) := hev0 18 rfl; have q104 := getD_bool e104; clear hev hev0 hd; go_wp2; exact sQ rfl
      ·intro xx af wv hbx hev hev0 hd; have e104 := (hev 7 _ 104 rfl rfl).trans (hd ⟨7, .guard⟩ (by simp) rfl); have e109 := (hev 12 _ 109 rfl rfl).trans (hd ⟨12, .data⟩ (by simp) rfl); have q104 := getD_bool e104; clear hev hev0 hd; have hs1 := Lib.hid (HS10.out.call hbx); obtain ⟨y0, y1, y2⟩ := hs1.out.k4 1 rfl rfl rfl rfl; go_wp2; exact sQ rfl
      ·intro xx af wv hbx hev hev0 hd
       have e104 := (hev 7 _ 104 rfl rfl).trans (hd ⟨7, .chain⟩ (by simp) rfl)
       have e108 := (hev 11 _ 108 rfl rfl).trans (hd ⟨11, .data⟩ (by simp) rfl)
       have e110 := (hev 13 _ 110 rfl rfl).trans (hd ⟨13, .data⟩ (by simp) rfl)
       have q104 := getD_bool e104
       clear hev hev0 hd
       go_wp2_with fail
       refine (HC4.out _).mono ?_
       rintro e w8 ⟨rfl, hb8⟩
       go_wp2
       exact StepQ.mk _ hb8 rfl
      ·intro xx af wv hbx hev hev0 hd; have e104 := (hev 7 _ 104 rfl rfl).trans (hd ⟨7, .guard⟩ (by simp) rfl); have e111 := (hev 14 _ 111 rfl rfl).trans (hd ⟨14, .data⟩ (by simp) rfl); have q104 := getD_bool e104; clear hev hev0 hd; go_wp2; exact sQ rfl
      intro xx w11 hb9 hv
      simp only [List.take, List.drop, fillA, Act.put]
      simp only [show xx 0 = _ from hv 0 (by decide), show xx 1 = _ from hv 1 (by decide), show xx 2 = _ from hv 2 (by decide), show xx 3 = _ from hv 3 (by decide), show xx 4 = _ from hv 4 (by decide), show xx 5 = _ from hv 5 (by decide), show xx 6 = _ from hv 6 (by decide), show xx 7 = _ from hv 7 (by decide), show xx 8 = _ from hv 8 (by decide), show xx 9 = _ from hv 9 (by decide), show xx 10 = _ from hv 10 (by decide), show xx 11 = _ from hv 11 (by decide), show xx 12 = _ from hv 12 (by decide), show xx 13 = _ from hv 13 (by decide), show xx 14 = _ from hv 14 (by decide), show xx 15 = _ from hv 15 (by decide)]
      clear hv
      have HS11 := Lib.hid (HS10.out.call hb9)
      clear hb9 HS10
      obtain ⟨x37, x38, x39⟩ := HS11.out.k0 2 rfl rfl rfl rfl
      obtain ⟨x40, x41, x42⟩ := HS11.out.k0 0 rfl rfl rfl rfl
      go_wp2_with fail
      refine (HSU.out _).mono ?_
      rintro e w12 ⟨rfl, hb12⟩
      have HS12 := Lib.hid (HS11.out.call hb12)
      clear hb12 HS11
      clear x37 x38 x39 x40 x41 x42
      obtain ⟨x43, x44, x45⟩ := HS12.out.k0 2 rfl rfl rfl rfl
      obtain ⟨x46, x47, x48⟩ := HS12.out.f0 2 rfl
      have x49 := HS12.out.ne 2 0 rfl rfl (by decide)
      have x50 := HS12.out.ne 0 2 rfl rfl (by decide)
      have x51 := HS12.out.ne 2 1 rfl rfl (by decide)
      have x52 := HS12.out.ne 1 2 rfl rfl (by decide)
      go_wp2
      have HS13 : Hid (St wc [⟨g8, #[.bool (negB (pd)), .string (bs (numB (pd))), .string (bs (denomB (pd)))], 25⟩, ⟨wr.heap.size, #[.int .i64 u.rank, .bool u.tn, .string (bs u.ta), .string (bs u.tb), .bool u.fn, .string (bs u.fa), .string (bs u.fb), .bool u.kn, .string (bs u.ka), .string (bs u.kb), .bool u.acc], 59⟩, ⟨w5.heap.size, #[.bool (negB (ln)), .string (bs (numB (ln))), .string (bs (denomB (ln)))], 25⟩] _) := Lib.hid (St.set ((St.set ((St.set (HS12.out) 2 rfl 0 _)) 2 rfl 1 _)) 2 rfl 2 _)
      go_roundw
      case rel => exact ⟨k + 1, by omega, by go_num, by show St _ _ _; rw [← HLN.out]; exact HS13.out.sub (by simp)⟩
      case measure => simp [intOf]; omega
    ·obtain rfl : k = rr.length := by omega
     have hzl : (l.zip rr).length = rr.length := by rw [List.length_zip]; have := HLE.out; omega
     have h0 := HLF.out
     rw [hzl] at h0
     have hls := residTo_sized (M := 8) (N := 8) (R := 1000) (zl := l.zip rr) HQ8.out (fun x hx => ⟨HSM.out.total (by decide) (mem_zip hx).1, HSZ.out _ (mem_zip hx).2⟩) rr.length (by rw [hzl]; exact Nat.le_refl _)
     have hls := hls.mono (N := 100000) (by have := HLE.out; omega)
     have hSg := fun W => ref_Sign (negB (residTo q (l.zip rr) rr.length)) (numB (residTo q (l.zip rr) rr.length)) (denomB (residTo q (l.zip rr) rr.length)) W (Nat.le_trans hls.num (by decide)) (Nat.le_trans hls.denom (by decide))
     rw [show decR (negB (residTo q (l.zip rr) rr.length)) (numB (residTo q (l.zip rr) rr.length)) (denomB (residTo q (l.zip rr) rr.length)) = residTo q (l.zip rr) rr.length from dec_enc _] at hSg
     have d0 : decide (0 ≤ sgn (residTo q (l.zip rr) rr.length).num) = true := decide_eq_true (sgn_nonneg_iff.2 h0)
     generalize residTo q (l.zip rr) rr.length = lf at *
     generalize sgn lf.num = s0 at *
     unfold raw at hSg
     have HSG := Lib.hid hSg
     clear hSg hls h0 hzl
     go_wp2_with fail
     refine (HAW.out _).mono ?_
     rintro e w6 ⟨rfl, hb6⟩
     have HS6 := Lib.hid (HS.out.call hb6)
     clear hb6 HS
     obtain ⟨x11, x12, x13⟩ := HS6.out.k0 0 rfl rfl rfl rfl
     go_wp2_with fail
     refine (HSG.out _).mono ?_
     rintro e w7 ⟨rfl, hb7⟩
     have HS7 := Lib.hid (HS6.out.call hb7)
     clear hb7 HS6
     clear x11 x12 x13
     go_wp2
     go_ret
     have HS8 := Lib.hid HS7.out
     exact ⟨rfl, Ext.trans HSW.out.below HS8.out.below⟩
  ·have k1 : (n2 != 0) = true := by rw [bne_iff_ne]; exact h0
   clear hdis hlft h0
   have x1 := HV9.out _ HTC.out.below 0 _ rfl
   have x2 := HV9.out _ HTC.out.below 1 _ rfl
   have x3 := HV9.out _ HTC.out.below 2 _ rfl
   have x4 := HV9.out _ HTC.out.below 3 _ rfl
   go_wp2_with fail
   refine (HP.out _ (HQB.out _ HTC.out.below) (HRB.out _ HTC.out.below)).mono ?_
   rintro e w5 ⟨rfl, hb5⟩
   have HTC5 := Lib.hid (HTC.out.call hb5)
   clear hb5 HTC
   clear x1 x2 x3 x4
   go_wp2_with fail
   refine (HAW.out _).mono ?_
   rintro e w6 ⟨rfl, hb6⟩
   have HTC6 := Lib.hid (HTC5.out.call hb6)
   clear hb6 HTC5
   go_wp2
   go_ret
   have HTC7 := Lib.hid HTC6.out
   exact ⟨rfl, Ext.trans HSW.out.below HTC7.out.below⟩
end Go.Proofs.YtcllocdhbicpkaaGreatDoor
