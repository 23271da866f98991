/-
A plan sought: the program's Search (printed by gen_pln9.py).
-/
import Derived.Test.YtcllocdhbicpkaaGreatDoorPlnW
import Derived.OwnWalk
namespace Go.Proofs.YtcllocdhbicpkaaGreatDoor
open Go.RowKit

set_option maxRecDepth 100000 in
set_option maxHeartbeats 2000000 in
theorem plan_Search (vn : Bool) (va vb : List UInt8) (v : Value) (l : List Blc) (w : World) (h : BlocsL w v l) (hok : SmallBl 1000 l) (lva : va.length ≤ 1000) (lvb : vb.length ≤ 1000) :
  Calls Tryz.prog 21 #[.agg #[.bool vn, .string (bs va), .string (bs vb), v]] w fun e w' => ∃ rv, e = .returned (.tuple #[rv, .bool (searchR (decR vn va vb) l).2.1, .int .i64 (searchR (decR vn va vb) l).2.2]) ∧ RatsL w' rv ((searchR (decR vn va vb) l).1.map rtrOf) ∧ Below w.heap.size w w' := by
 have H := Lib.hid h
 have hC := fun W (hb : Below w.heap.size w W) => plan_Check vn va vb v l W (h.below hb) (hok.mono (by decide)) (by omega) (by omega)
 have sq : Sized 1000 (decR vn va vb) := sized_dec lva lvb (by decide)
 have hv := fun W => rational_Add vn va vb false [] [] W (by omega) (by omega) (by decide) (by decide)
 rw [dec_zero3, Rat.add_zero] at hv
 have hF := fun (h16 : l.length ≤ 16) rv W (hb : Below w.heap.size w W) (hr : RatsL W rv ((ratesOf (decR vn va vb) l).map rtrOf)) => plan_Confirm vn va vb v l rv ((ratesOf (decR vn va vb) l).map rtrOf) W (h.below hb) hr (hok.mono (by decide)) ((rtrs_small (rates_sized l _ sq hok (by decide))).mono (by omega)) (by omega) (by omega)
 rw [rtrs_val] at hF
 have hdef := search_def (decR vn va vb) l
 have h16 := fun h : checkVn (decR vn va vb) l = 0 => (checkVn_zero h).2.1
 have hpos := fun h : checkVn (decR vn va vb) l = 0 => fun b hb => ((checkVn_zero h).2.2 b hb).2.2.1
 have hnb : ∀ n : Int, n ≠ 0 → (n == 0) = false ∧ (n != 0) = true := fun n h => ⟨beq_eq_false_iff_ne.2 h, by rw [bne, beq_eq_false_iff_ne.2 h]; rfl⟩
 generalize searchR (decR vn va vb) l = ans at *
 generalize checkVn (decR vn va vb) l = n at *
 generalize decR vn va vb = q at *
 generalize confR q l (ratesOf q l) = cr at *
 obtain ⟨ca, n2⟩ := cr
 dsimp only at hF hdef
 have HC := Lib.hid hC
 have HOK := Lib.hid hok
 have HNB := Lib.hid hnb
 obtain ⟨A, c, rfl, hl, hc⟩ := h.slice
 unfold rat raw at hv
 have HV := Lib.hid hv
 clear h hok lva lvb hC hv hnb
 by_cases h0 : n ≠ 0
 ·rw [if_pos h0] at hdef
  have R := Lib.hid hdef
  have d1 := (HNB.out n h0).1
  have d2 := (HNB.out n h0).2
  clear hdef hF h16 hpos
  go_enter Tryz.func21, Tryz.ntmps21
  have HS := Lib.hid (St.start w)
  go_wp2_with fail
  have HS2 := Lib.hid (St.alloc (HS.out) #[.bool vn, .string (bs va), .string (bs vb), .slice A l.length c] 28 (w.heap.size) (by simp))
  refine (HC.out _ HS2.out.below).mono ?_
  rintro e w3 ⟨rfl, hb3⟩
  have HS3 := Lib.hid (HS2.out.call hb3)
  clear hb3 HS HS2
  go_wp2
  have HS4 := Lib.hid HS3.out
  go_ret3
  rw [R.out]
  exact ⟨_, rfl, Slc.nil_ _ _ _ _ _ (by decide), HS4.out.below⟩
 ·have h0 : n = 0 := Classical.not_not.1 h0
  subst h0
  have h16 := h16 rfl
  have hF := hF h16
  rw [if_neg (by decide)] at hdef
  have hmk := make_rats l.length (by omega)
  have hsz : ∀ k, k ≤ l.length → Sized 1000000 (leftK q l k) := fun k hk => (leftK_sized sq HOK.out (by decide) k hk).mono (by omega)
  have HSZ := Lib.hid hsz
  have HPOS := Lib.hid (hpos rfl)
  have HF := Lib.hid hF
  have HD := Lib.hid hdef
  clear hF hdef hsz hpos sq
  go_enter Tryz.func21, Tryz.ntmps21
  have HS := Lib.hid (St.start w)
  go_wp2_with fail
  have HS2 := Lib.hid (St.alloc (HS.out) #[.bool vn, .string (bs va), .string (bs vb), .slice A l.length c] 28 (w.heap.size) (by simp))
  refine (HC.out _ HS2.out.below).mono ?_
  rintro e w3 ⟨rfl, hb3⟩
  have HS3 := Lib.hid (HS2.out.call hb3)
  clear hb3 HS HS2
  have x1 := HS3.out.cell 0 rfl 3 rfl
  obtain ⟨x2, x3, x4⟩ := HS3.out.k0 0 rfl rfl rfl rfl
  have x5 := HS3.out.lt 0 rfl
  have x6 : ¬ w.heap.size = w3.heap.size := by omega
  have x7 : ¬ w3.heap.size = w.heap.size := by omega
  go_wp2_with fail
  have HS4 : Hid (St w [⟨w3.heap.size, (rowA (List.replicate l.length rtr0)), 25⟩, ⟨w.heap.size, #[.bool vn, .string (bs va), .string (bs vb), .slice A l.length c], 28⟩] _) := Lib.hid (St.alloc (HS3.out) (rowA (List.replicate l.length rtr0)) 25 (w3.heap.size) (by simp))
  refine (HV.out _).mono ?_
  rintro e w5 ⟨rfl, hb5⟩
  have HS5 := Lib.hid (HS4.out.call hb5)
  clear hb5 HS3 HS4
  clear x1 x2 x3 x4 x5 x6 x7
  have x8 := HS5.out.cell 1 rfl 3 rfl
  have x9 := HS5.out.lt 1 rfl
  have x10 : ¬ w.heap.size = w5.heap.size := by omega
  have x11 : ¬ w5.heap.size = w.heap.size := by omega
  go_wp2
  go_loopw [29] (fun i wr => ∃ k : Nat, k ≤ l.length ∧ i = .int .i64 k ∧ Hid (Sofar q l k) ∧ Hid (St w [⟨w5.heap.size, #[.bool (negB (leftK q l k)), .string (bs (numB (leftK q l k))), .string (bs (denomB (leftK q l k)))], 25⟩, ⟨w3.heap.size, (rowA (rowK l k)), 25⟩, ⟨w.heap.size, #[.bool vn, .string (bs va), .string (bs vb), .slice A l.length c], 28⟩] wr)) (fun i _ => l.length - (intOf i).toNat)
  case atStart => exact ⟨0, Nat.zero_le _, rfl, sofar_start q l, by rw [show leftK q l 0 = q from rfl, rowK_zero]; exact (St.alloc (HS5.out) #[.bool (negB (q)), .string (bs (numB (q))), .string (bs (denomB (q)))] 25 (w5.heap.size) (by simp))⟩
  case round =>
   clear HS5 hmk
   obtain ⟨k, hk, rfl, HSO, HS⟩ := hrel
   by_cases hlt : k < l.length
   ·obtain ⟨b, o, u, rfl, hbb, hq, hx⟩ := H.out.at_ hlt
    have hin := List.mem_of_getElem? hq
    have ho := HOK.out u hin
    have hp0 := HPOS.out u hin
    have hls := HSZ.out k hk
    have hns := need_sized ho (by decide)
    have hts := HOK.out.total (by decide) hin
    have hat := rowK_at hlt
    have hrl := rowK_len hk
    have hgo := sofar_go HSO.out hq
    have hbr := sofar_break HSO.out hq
    have hrg := rowK_go hq
    have hst := leftK_step (value := q) hq
    have hN := fun W => plan_need u W ⟨⟨Nat.le_trans ho.1.1 (by decide), Nat.le_trans ho.1.2 (by decide)⟩, ⟨Nat.le_trans ho.2.1.1 (by decide), Nat.le_trans ho.2.1.2 (by decide)⟩, Nat.le_trans ho.2.2.1 (by decide), Nat.le_trans ho.2.2.2 (by decide)⟩
    have hM := fun W => rational_Multiply (negB (need u)) (numB (need u)) (denomB (need u)) u.tn u.ta u.tb W (Nat.le_trans hns.num (by decide)) (Nat.le_trans hns.denom (by decide)) (Nat.le_trans ho.1.1 (by decide)) (Nat.le_trans ho.1.2 (by decide))
    rw [show decR (negB (need u)) (numB (need u)) (denomB (need u)) = need u from dec_enc _, show decR u.tn u.ta u.tb = u.total from rfl, Rat.mul_comm (need u) u.total] at hM
    have hCm := fun W => rational_Compare (negB (u.total * need u)) (numB (u.total * need u)) (denomB (u.total * need u)) (negB (leftK q l k)) (numB (leftK q l k)) (denomB (leftK q l k)) W (Nat.le_trans (hts.mul hns).num (by decide)) (Nat.le_trans (hts.mul hns).denom (by decide)) (Nat.le_trans hls.num (by decide)) (Nat.le_trans hls.denom (by decide))
    rw [show decR (negB (u.total * need u)) (numB (u.total * need u)) (denomB (u.total * need u)) = u.total * need u from dec_enc _, show decR (negB (leftK q l k)) (numB (leftK q l k)) (denomB (leftK q l k)) = leftK q l k from dec_enc _] at hCm
    have hDv := fun W => rational_Divide (negB (leftK q l k)) (numB (leftK q l k)) (denomB (leftK q l k)) u.tn u.ta u.tb W (Nat.le_trans hls.num (by decide)) (Nat.le_trans hls.denom (by decide)) (Nat.le_trans ho.1.1 (by decide)) (Nat.le_trans ho.1.2 (by decide)) (show u.total ≠ 0 from fun e => by rw [e] at hp0; exact absurd hp0 (by decide))
    rw [show decR (negB (leftK q l k)) (numB (leftK q l k)) (denomB (leftK q l k)) = leftK q l k from dec_enc _, show decR u.tn u.ta u.tb = u.total from rfl] at hDv
    have hSu := fun W => rational_SubtractR (leftK q l k) (u.total * need u) W (hls.mono (by decide)) ((hts.mul hns).mono (by decide))
    rw [← hst] at hSu
    rw [← more_iff] at hgo hbr
    generalize sgn (u.total * need u - leftK q l k).num = d at *
    clear hts hns hls hst
    generalize u.total * need u = m at *
    generalize leftK q l k / u.total = qd at *
    generalize need u = nd at *
    obtain ⟨lf, hlf⟩ : ∃ x, x = leftK q l k := ⟨_, rfl⟩
    obtain ⟨ln, hln⟩ : ∃ x, x = leftK q l (k + 1) := ⟨_, rfl⟩
    obtain ⟨rk, hrk⟩ : ∃ x, x = rowK l k := ⟨_, rfl⟩
    obtain ⟨rn, hrn⟩ : ∃ x, x = rowK l (k + 1) := ⟨_, rfl⟩
    rw [← hlf, ← hrk] at HS
    rw [← hrk] at hat hrl hbr hrg
    rw [← hrn] at hrg
    rw [← hln] at hSu
    have HLN := Lib.hid hln
    have HRN := Lib.hid hrn
    rw [← hlf] at hCm hDv hSu
    unfold rtrOf at hbr hrg
    have HAT := Lib.hid hat
    have HRL := Lib.hid hrl
    have hkl : k < rk.length := by rw [hrl]; exact hlt
    have HSL := Lib.hid (fun a => show (rk.set k a)[k]? = some a by rw [List.getElem?_set_self hkl])
    have HKL := Lib.hid hkl
    have HK2 := Lib.hid (fun (a : Rtr) => show k < (rk.set k a).length by rw [List.length_set]; exact hkl)
    unfold rat raw at hN hM hDv hSu
    unfold raw at hCm
    have HN := Lib.hid hN
    have HM := Lib.hid hM
    have HCM := Lib.hid hCm
    have HDV := Lib.hid hDv
    have HSU := Lib.hid hSu
    have HX := Lib.hid hx
    have e0 : (0 : Int) ≤ ((k : Nat) : Int) := by omega
    have e1 : ((k : Nat) : Int) < (l.length : Int) := by omega
    clear hN hM hCm hDv hSu hx hq hin ho hp0 hat hrl hkl hlf hln hrk hrn
    by_cases hd : 0 < d
    ·have d1 : decide (0 < d) = true := decide_eq_true hd
     have HB := Lib.hid (hbr hd)
     clear hbr hgo hrg
     by_cases h2 : n2 = 0
     ·subst h2
      have HRW : Hid ((rk.set k ⟨negB (nd), numB (nd), denomB (nd)⟩).set k ⟨negB (qd), numB (qd), denomB (qd)⟩ = (ratesOf q l).map rtrOf) := by show _ = _; rw [List.set_set]; exact HB.out
      have HRL0 := HRL.out
      have HRL : Hid (((rk.set k ⟨negB (nd), numB (nd), denomB (nd)⟩).set k ⟨negB (qd), numB (qd), denomB (qd)⟩).length = l.length) := by show _ = _; rw [List.length_set, List.length_set]; exact HRL0
      clear HRL0
      have R : Hid (ans = (ratesOf q l, true, 0)) := by show _ = _; rw [HD.out, if_neg (by decide)]
      have x12 : b < wr.heap.size := Nat.lt_of_lt_of_le hbb HS.out.below.size
      have x13 : ¬ b = wr.heap.size := by omega
      obtain ⟨x14, x15, x16, x17, x18, x19, x20, x21, x22, x23, x24⟩ := kE (HX.out _ HS.out.below) rfl rfl rfl rfl rfl rfl rfl rfl rfl rfl rfl
      go_wp2_with fail
      have HS6 := Lib.hid (St.alloc (HS.out) #[.int .i64 u.rank, .bool u.tn, .string (bs u.ta), .string (bs u.tb), .bool u.fn, .string (bs u.fa), .string (bs u.fb), .bool u.kn, .string (bs u.ka), .string (bs u.kb), .bool u.acc] 59 (wr.heap.size) (by simp))
      refine (HN.out _).mono ?_
      rintro e w7 ⟨rfl, hb7⟩
      have HS7 := Lib.hid (HS6.out.call hb7)
      clear hb7 HS HS6
      clear x12 x13 x14 x15 x16 x17 x18 x19 x20 x21 x22 x23 x24
      obtain ⟨x25, x26, x27⟩ := HS7.out.rowCells 2 rfl (HAT.out)
      have x28 := HS7.out.frozen 2 rfl (k * 3)
      have x29 := HS7.out.frozen 2 rfl (k * 3 + 1)
      have x30 := HS7.out.frozen 2 rfl (k * 3 + 2)
      have x31 := HS7.out.ne 2 0 rfl rfl (by decide)
      have x32 := HS7.out.ne 0 2 rfl rfl (by decide)
      have x33 := HS7.out.ne 2 1 rfl rfl (by decide)
      have x34 := HS7.out.ne 1 2 rfl rfl (by decide)
      have x35 := HS7.out.ne 2 3 rfl rfl (by decide)
      have x36 := HS7.out.ne 3 2 rfl rfl (by decide)
      go_wp2
      clear x25 x26 x27 x28 x29 x30 x31 x32 x33 x34 x35 x36
      refine wp_st (R := [⟨wr.heap.size, #[.int .i64 u.rank, .bool u.tn, .string (bs u.ta), .string (bs u.tb), .bool u.fn, .string (bs u.fa), .string (bs u.fb), .bool u.kn, .string (bs u.ka), .string (bs u.kb), .bool u.acc], 59⟩, ⟨w5.heap.size, #[.bool (negB (lf)), .string (bs (numB (lf))), .string (bs (denomB (lf)))], 25⟩, ⟨w3.heap.size, (rowA ((rk).set k ⟨(negB (nd)), (numB (nd)), (denomB (nd))⟩)), 25⟩, ⟨w.heap.size, #[.bool vn, .string (bs va), .string (bs vb), .slice (some ⟨b, o, none⟩) l.length c], 28⟩]) (St.setRow (HS7.out) 2 rfl k ⟨(negB (nd)), (numB (nd)), (denomB (nd))⟩ HKL.out) ?_
      intro wg8 hb
      have HS8 := Lib.hid hb
      clear hb HS7
      refine wp_region_facts 8 [eQ (.slice (some ⟨w3.heap.size, 0, none⟩) l.length l.length), eQ (.int .i64 (k : Nat)), eQ (.pointer (some ⟨w3.heap.size, k * 3, none⟩)), eQ (.agg #[.bool (negB (nd)), .string (bs (numB (nd))), .string (bs (denomB (nd)))]), eQ (.pointer (some ⟨wr.heap.size, 1, none⟩)), eQ (.agg #[.bool u.tn, .string (bs u.ta), .string (bs u.tb)]), eQ (.agg #[.bool (negB (m)), .string (bs (numB (m))), .string (bs (denomB (m)))]), fun ww vv => ∃ g, vv = .pointer (some ⟨g, 0, none⟩) ∧ wg8.heap.size ≤ g ∧ Blk ww g #[.bool false, .string (bs []), .string (bs [])] 25] rfl (by kernel_rfl) (by kernel_rfl) (by kernel_rfl) ⟨stE, stE, stE, stE, stE, stE, stE, fun _ _ _ ⟨g, e, hg, h⟩ hb => ⟨g, e, hg, h.below hb h.lt⟩, trivial⟩ ?_ ?_
      refine ⟨?_, ?_, ?_, ?_, ?_, ?_, ?_, ?_, trivial⟩
      ·intro xx af wv hbx hev hev0 hd; have e6 : af.tmps[6]?.getD undef = .slice (some ⟨w3.heap.size, 0, none⟩) l.length l.length := hev0 6 rfl; clear hev hev0 hd; go_wp2; exact sQ rfl
      ·intro xx af wv hbx hev hev0 hd; have e8 : af.tmps[8]?.getD undef = .int .i64 (k : Nat) := hev0 8 rfl; clear hev hev0 hd; go_wp2; exact sQ rfl
      ·intro xx af wv hbx hev hev0 hd; have e39 := (hev 0 _ 39 rfl rfl).trans (hd ⟨0, .data⟩ (by simp) rfl); have e40 := (hev 1 _ 40 rfl rfl).trans (hd ⟨1, .data⟩ (by simp) rfl); clear hev hev0 hd; go_wp2; exact sQ rfl
      ·intro xx af wv hbx hev hev0 hd; have e41 := (hev 2 _ 41 rfl rfl).trans (hd ⟨2, .data⟩ (by simp) rfl); clear hev hev0 hd; have hs1 := Lib.hid (HS8.out.call hbx); obtain ⟨yr0, yr1, yr2⟩ := hs1.out.rowCells 2 rfl (HSL.out _); go_wp2; exact sQ rfl
      ·intro xx af wv hbx hev hev0 hd; have e9 : af.tmps[9]?.getD undef = .pointer (some ⟨wr.heap.size, 0, none⟩) := hev0 9 rfl; clear hev hev0 hd; go_wp2; exact sQ rfl
      ·intro xx af wv hbx hev hev0 hd; have e43 := (hev 4 _ 43 rfl rfl).trans (hd ⟨4, .data⟩ (by simp) rfl); clear hev hev0 hd; have hs1 := Lib.hid (HS8.out.call hbx); obtain ⟨y0, y1, y2⟩ := hs1.out.k1 0 rfl rfl rfl rfl; go_wp2; exact sQ rfl
      ·intro xx af wv hbx hev hev0 hd
       have e42 := (hev 3 _ 42 rfl rfl).trans (hd ⟨3, .data⟩ (by simp) rfl)
       have e44 := (hev 5 _ 44 rfl rfl).trans (hd ⟨5, .data⟩ (by simp) rfl)
       clear hev hev0 hd
       go_wp2_with fail
       refine (HM.out _).mono ?_
       rintro e w8 ⟨rfl, hb8⟩
       go_wp2
       exact StepQ.mk _ hb8 rfl
      ·intro xx af wv hbx hev hev0 hd; clear hev hev0 hd; go_wp2; exact StepQ.mk _ (Ext.alloc (Below.refl _ _) _) ⟨_, rfl, hbx.size, Blk.new _ _ _⟩
      intro xx w9 hb9 hv
      obtain ⟨g9, hv7, hlg7, hB7⟩ := hv 7 (by decide)
      simp only [List.take, List.drop, fillA, Act.put]
      simp only [show xx 0 = _ from hv 0 (by decide), show xx 1 = _ from hv 1 (by decide), show xx 2 = _ from hv 2 (by decide), show xx 3 = _ from hv 3 (by decide), show xx 4 = _ from hv 4 (by decide), show xx 5 = _ from hv 5 (by decide), show xx 6 = _ from hv 6 (by decide), hv7]
      clear hv hv7
      have HS9 := Lib.hid (HS8.out.fill hb9 hlg7 hB7)
      clear hlg7 hB7
      clear hb9 HS8
      obtain ⟨x37, x38, x39⟩ := HS9.out.k0 0 rfl rfl rfl rfl
      obtain ⟨x40, x41, x42⟩ := HS9.out.k0 2 rfl rfl rfl rfl
      obtain ⟨x43, x44, x45⟩ := HS9.out.f0 0 rfl
      have x46 := HS9.out.ne 0 1 rfl rfl (by decide)
      have x47 := HS9.out.ne 1 0 rfl rfl (by decide)
      have x48 := HS9.out.ne 0 2 rfl rfl (by decide)
      have x49 := HS9.out.ne 2 0 rfl rfl (by decide)
      have x50 := HS9.out.ne 0 3 rfl rfl (by decide)
      have x51 := HS9.out.ne 3 0 rfl rfl (by decide)
      have x52 := HS9.out.ne 0 4 rfl rfl (by decide)
      have x53 := HS9.out.ne 4 0 rfl rfl (by decide)
      go_wp2_with fail
      have HS10 : Hid (St w [⟨g9, #[.bool (negB (m)), .string (bs (numB (m))), .string (bs (denomB (m)))], 25⟩, ⟨wr.heap.size, #[.int .i64 u.rank, .bool u.tn, .string (bs u.ta), .string (bs u.tb), .bool u.fn, .string (bs u.fa), .string (bs u.fb), .bool u.kn, .string (bs u.ka), .string (bs u.kb), .bool u.acc], 59⟩, ⟨w5.heap.size, #[.bool (negB (lf)), .string (bs (numB (lf))), .string (bs (denomB (lf)))], 25⟩, ⟨w3.heap.size, (rowA ((rk).set k ⟨(negB (nd)), (numB (nd)), (denomB (nd))⟩)), 25⟩, ⟨w.heap.size, #[.bool vn, .string (bs va), .string (bs vb), .slice (some ⟨b, o, none⟩) l.length c], 28⟩] _) := Lib.hid (St.set ((St.set ((St.set (HS9.out) 0 rfl 0 _)) 0 rfl 1 _)) 0 rfl 2 _)
      refine (HCM.out _).mono ?_
      rintro e w11 ⟨rfl, hb11⟩
      have HS11 := Lib.hid (HS10.out.call hb11)
      clear hb11 HS9 HS10
      clear x37 x38 x39 x40 x41 x42 x43 x44 x45 x46 x47 x48 x49 x50 x51 x52 x53
      obtain ⟨x54, x55, x56⟩ := HS11.out.k0 2 rfl rfl rfl rfl
      obtain ⟨x57, x58, x59⟩ := HS11.out.k1 1 rfl rfl rfl rfl
      go_wp2_with fail
      refine (HDV.out _).mono ?_
      rintro e w12 ⟨rfl, hb12⟩
      have HS12 := Lib.hid (HS11.out.call hb12)
      clear hb12 HS11
      clear x54 x55 x56 x57 x58 x59
      obtain ⟨x60, x61, x62⟩ := HS12.out.k0 4 rfl rfl rfl rfl
      have x63 := HS12.out.cell 4 rfl 3 rfl
      obtain ⟨x64, x65, x66⟩ := HS12.out.rowCells 3 rfl (HSL.out _)
      have x67 := HS12.out.frozen 3 rfl (k * 3)
      have x68 := HS12.out.frozen 3 rfl (k * 3 + 1)
      have x69 := HS12.out.frozen 3 rfl (k * 3 + 2)
      have x70 := HS12.out.ne 3 0 rfl rfl (by decide)
      have x71 := HS12.out.ne 0 3 rfl rfl (by decide)
      have x72 := HS12.out.ne 3 1 rfl rfl (by decide)
      have x73 := HS12.out.ne 1 3 rfl rfl (by decide)
      have x74 := HS12.out.ne 3 2 rfl rfl (by decide)
      have x75 := HS12.out.ne 2 3 rfl rfl (by decide)
      have x76 := HS12.out.ne 3 4 rfl rfl (by decide)
      have x77 := HS12.out.ne 4 3 rfl rfl (by decide)
      go_wp2_with fail
      have HS13 : Hid (St w [⟨g9, #[.bool (negB (m)), .string (bs (numB (m))), .string (bs (denomB (m)))], 25⟩, ⟨wr.heap.size, #[.int .i64 u.rank, .bool u.tn, .string (bs u.ta), .string (bs u.tb), .bool u.fn, .string (bs u.fa), .string (bs u.fb), .bool u.kn, .string (bs u.ka), .string (bs u.kb), .bool u.acc], 59⟩, ⟨w5.heap.size, #[.bool (negB (lf)), .string (bs (numB (lf))), .string (bs (denomB (lf)))], 25⟩, ⟨w3.heap.size, (rowA (((rk).set k ⟨(negB (nd)), (numB (nd)), (denomB (nd))⟩).set k ⟨(negB (qd)), (numB (qd)), (denomB (qd))⟩)), 25⟩, ⟨w.heap.size, #[.bool vn, .string (bs va), .string (bs vb), .slice (some ⟨b, o, none⟩) l.length c], 28⟩] _) := Lib.hid (St.setRow (HS12.out) 3 rfl k ⟨(negB (qd)), (numB (qd)), (denomB (qd))⟩ (HK2.out _))
      refine (HF.out _ _ HS13.out.below (by rw [← HRW.out]; exact HS13.out.rowL 3 rfl HRL.out (by omega))).mono ?_
      rintro e w14 ⟨rfl, hb14⟩
      have HS14 := Lib.hid (HS13.out.call hb14)
      clear hb14 HS12 HS13
      clear x60 x61 x62 x63 x64 x65 x66 x67 x68 x69 x70 x71 x72 x73 x74 x75 x76 x77
      go_wp2
      have HS15 := Lib.hid HS14.out
      go_ret3
      rw [R.out]
      exact ⟨_, rfl, by rw [← HRW.out]; exact HS15.out.rowL 3 rfl HRL.out (by omega), HS15.out.below⟩
     ·have q1 := (HNB.out n2 h2).1
      have q2 := (HNB.out n2 h2).2
      have HRW : Hid ((rk.set k ⟨negB (nd), numB (nd), denomB (nd)⟩).set k ⟨negB (qd), numB (qd), denomB (qd)⟩ = (ratesOf q l).map rtrOf) := by show _ = _; rw [List.set_set]; exact HB.out
      have HRL0 := HRL.out
      have HRL : Hid (((rk.set k ⟨negB (nd), numB (nd), denomB (nd)⟩).set k ⟨negB (qd), numB (qd), denomB (qd)⟩).length = l.length) := by show _ = _; rw [List.length_set, List.length_set]; exact HRL0
      clear HRL0
      have R : Hid (ans = ([], false, 0)) := by show _ = _; rw [HD.out, if_pos h2]
      have x12 : b < wr.heap.size := Nat.lt_of_lt_of_le hbb HS.out.below.size
      have x13 : ¬ b = wr.heap.size := by omega
      obtain ⟨x14, x15, x16, x17, x18, x19, x20, x21, x22, x23, x24⟩ := kE (HX.out _ HS.out.below) rfl rfl rfl rfl rfl rfl rfl rfl rfl rfl rfl
      go_wp2_with fail
      have HS6 := Lib.hid (St.alloc (HS.out) #[.int .i64 u.rank, .bool u.tn, .string (bs u.ta), .string (bs u.tb), .bool u.fn, .string (bs u.fa), .string (bs u.fb), .bool u.kn, .string (bs u.ka), .string (bs u.kb), .bool u.acc] 59 (wr.heap.size) (by simp))
      refine (HN.out _).mono ?_
      rintro e w7 ⟨rfl, hb7⟩
      have HS7 := Lib.hid (HS6.out.call hb7)
      clear hb7 HS HS6
      clear x12 x13 x14 x15 x16 x17 x18 x19 x20 x21 x22 x23 x24
      obtain ⟨x25, x26, x27⟩ := HS7.out.rowCells 2 rfl (HAT.out)
      have x28 := HS7.out.frozen 2 rfl (k * 3)
      have x29 := HS7.out.frozen 2 rfl (k * 3 + 1)
      have x30 := HS7.out.frozen 2 rfl (k * 3 + 2)
      have x31 := HS7.out.ne 2 0 rfl rfl (by decide)
      have x32 := HS7.out.ne 0 2 rfl rfl (by decide)
      have x33 := HS7.out.ne 2 1 rfl rfl (by decide)
      have x34 := HS7.out.ne 1 2 rfl rfl (by decide)
      have x35 := HS7.out.ne 2 3 rfl rfl (by decide)
      have x36 := HS7.out.ne 3 2 rfl rfl (by decide)
      go_wp2
      clear x25 x26 x27 x28 x29 x30 x31 x32 x33 x34 x35 x36
      refine wp_st (R := [⟨wr.heap.size, #[.int .i64 u.rank, .bool u.tn, .string (bs u.ta), .string (bs u.tb), .bool u.fn, .string (bs u.fa), .string (bs u.fb), .bool u.kn, .string (bs u.ka), .string (bs u.kb), .bool u.acc], 59⟩, ⟨w5.heap.size, #[.bool (negB (lf)), .string (bs (numB (lf))), .string (bs (denomB (lf)))], 25⟩, ⟨w3.heap.size, (rowA ((rk).set k ⟨(negB (nd)), (numB (nd)), (denomB (nd))⟩)), 25⟩, ⟨w.heap.size, #[.bool vn, .string (bs va), .string (bs vb), .slice (some ⟨b, o, none⟩) l.length c], 28⟩]) (St.setRow (HS7.out) 2 rfl k ⟨(negB (nd)), (numB (nd)), (denomB (nd))⟩ HKL.out) ?_
      intro wg8 hb
      have HS8 := Lib.hid hb
      clear hb HS7
      refine wp_region_facts 8 [eQ (.slice (some ⟨w3.heap.size, 0, none⟩) l.length l.length), eQ (.int .i64 (k : Nat)), eQ (.pointer (some ⟨w3.heap.size, k * 3, none⟩)), eQ (.agg #[.bool (negB (nd)), .string (bs (numB (nd))), .string (bs (denomB (nd)))]), eQ (.pointer (some ⟨wr.heap.size, 1, none⟩)), eQ (.agg #[.bool u.tn, .string (bs u.ta), .string (bs u.tb)]), eQ (.agg #[.bool (negB (m)), .string (bs (numB (m))), .string (bs (denomB (m)))]), fun ww vv => ∃ g, vv = .pointer (some ⟨g, 0, none⟩) ∧ wg8.heap.size ≤ g ∧ Blk ww g #[.bool false, .string (bs []), .string (bs [])] 25] rfl (by kernel_rfl) (by kernel_rfl) (by kernel_rfl) ⟨stE, stE, stE, stE, stE, stE, stE, fun _ _ _ ⟨g, e, hg, h⟩ hb => ⟨g, e, hg, h.below hb h.lt⟩, trivial⟩ ?_ ?_
      refine ⟨?_, ?_, ?_, ?_, ?_, ?_, ?_, ?_, trivial⟩
      ·intro xx af wv hbx hev hev0 hd; have e6 : af.tmps[6]?.getD undef = .slice (some ⟨w3.heap.size, 0, none⟩) l.length l.length := hev0 6 rfl; clear hev hev0 hd; go_wp2; exact sQ rfl
      ·intro xx af wv hbx hev hev0 hd; have e8 : af.tmps[8]?.getD undef = .int .i64 (k : Nat) := hev0 8 rfl; clear hev hev0 hd; go_wp2; exact sQ rfl
      ·intro xx af wv hbx hev hev0 hd; have e39 := (hev 0 _ 39 rfl rfl).trans (hd ⟨0, .data⟩ (by simp) rfl); have e40 := (hev 1 _ 40 rfl rfl).trans (hd ⟨1, .data⟩ (by simp) rfl); clear hev hev0 hd; go_wp2; exact sQ rfl
      ·intro xx af wv hbx hev hev0 hd; have e41 := (hev 2 _ 41 rfl rfl).trans (hd ⟨2, .data⟩ (by simp) rfl); clear hev hev0 hd; have hs1 := Lib.hid (HS8.out.call hbx); obtain ⟨yr0, yr1, yr2⟩ := hs1.out.rowCells 2 rfl (HSL.out _); go_wp2; exact sQ rfl
      ·intro xx af wv hbx hev hev0 hd; have e9 : af.tmps[9]?.getD undef = .pointer (some ⟨wr.heap.size, 0, none⟩) := hev0 9 rfl; clear hev hev0 hd; go_wp2; exact sQ rfl
      ·intro xx af wv hbx hev hev0 hd; have e43 := (hev 4 _ 43 rfl rfl).trans (hd ⟨4, .data⟩ (by simp) rfl); clear hev hev0 hd; have hs1 := Lib.hid (HS8.out.call hbx); obtain ⟨y0, y1, y2⟩ := hs1.out.k1 0 rfl rfl rfl rfl; go_wp2; exact sQ rfl
      ·intro xx af wv hbx hev hev0 hd
       have e42 := (hev 3 _ 42 rfl rfl).trans (hd ⟨3, .data⟩ (by simp) rfl)
       have e44 := (hev 5 _ 44 rfl rfl).trans (hd ⟨5, .data⟩ (by simp) rfl)
       clear hev hev0 hd
       go_wp2_with fail
       refine (HM.out _).mono ?_
       rintro e w8 ⟨rfl, hb8⟩
       go_wp2
       exact StepQ.mk _ hb8 rfl
      ·intro xx af wv hbx hev hev0 hd; clear hev hev0 hd; go_wp2; exact StepQ.mk _ (Ext.alloc (Below.refl _ _) _) ⟨_, rfl, hbx.size, Blk.new _ _ _⟩
      intro xx w9 hb9 hv
      obtain ⟨g9, hv7, hlg7, hB7⟩ := hv 7 (by decide)
      simp only [List.take, List.drop, fillA, Act.put]
      simp only [show xx 0 = _ from hv 0 (by decide), show xx 1 = _ from hv 1 (by decide), show xx 2 = _ from hv 2 (by decide), show xx 3 = _ from hv 3 (by decide), show xx 4 = _ from hv 4 (by decide), show xx 5 = _ from hv 5 (by decide), show xx 6 = _ from hv 6 (by decide), hv7]
      clear hv hv7
      have HS9 := Lib.hid (HS8.out.fill hb9 hlg7 hB7)
      clear hlg7 hB7
      clear hb9 HS8
      obtain ⟨x37, x38, x39⟩ := HS9.out.k0 0 rfl rfl rfl rfl
      obtain ⟨x40, x41, x42⟩ := HS9.out.k0 2 rfl rfl rfl rfl
      obtain ⟨x43, x44, x45⟩ := HS9.out.f0 0 rfl
      have x46 := HS9.out.ne 0 1 rfl rfl (by decide)
      have x47 := HS9.out.ne 1 0 rfl rfl (by decide)
      have x48 := HS9.out.ne 0 2 rfl rfl (by decide)
      have x49 := HS9.out.ne 2 0 rfl rfl (by decide)
      have x50 := HS9.out.ne 0 3 rfl rfl (by decide)
      have x51 := HS9.out.ne 3 0 rfl rfl (by decide)
      have x52 := HS9.out.ne 0 4 rfl rfl (by decide)
      have x53 := HS9.out.ne 4 0 rfl rfl (by decide)
      go_wp2_with fail
      have HS10 : Hid (St w [⟨g9, #[.bool (negB (m)), .string (bs (numB (m))), .string (bs (denomB (m)))], 25⟩, ⟨wr.heap.size, #[.int .i64 u.rank, .bool u.tn, .string (bs u.ta), .string (bs u.tb), .bool u.fn, .string (bs u.fa), .string (bs u.fb), .bool u.kn, .string (bs u.ka), .string (bs u.kb), .bool u.acc], 59⟩, ⟨w5.heap.size, #[.bool (negB (lf)), .string (bs (numB (lf))), .string (bs (denomB (lf)))], 25⟩, ⟨w3.heap.size, (rowA ((rk).set k ⟨(negB (nd)), (numB (nd)), (denomB (nd))⟩)), 25⟩, ⟨w.heap.size, #[.bool vn, .string (bs va), .string (bs vb), .slice (some ⟨b, o, none⟩) l.length c], 28⟩] _) := Lib.hid (St.set ((St.set ((St.set (HS9.out) 0 rfl 0 _)) 0 rfl 1 _)) 0 rfl 2 _)
      refine (HCM.out _).mono ?_
      rintro e w11 ⟨rfl, hb11⟩
      have HS11 := Lib.hid (HS10.out.call hb11)
      clear hb11 HS9 HS10
      clear x37 x38 x39 x40 x41 x42 x43 x44 x45 x46 x47 x48 x49 x50 x51 x52 x53
      obtain ⟨x54, x55, x56⟩ := HS11.out.k0 2 rfl rfl rfl rfl
      obtain ⟨x57, x58, x59⟩ := HS11.out.k1 1 rfl rfl rfl rfl
      go_wp2_with fail
      refine (HDV.out _).mono ?_
      rintro e w12 ⟨rfl, hb12⟩
      have HS12 := Lib.hid (HS11.out.call hb12)
      clear hb12 HS11
      clear x54 x55 x56 x57 x58 x59
      obtain ⟨x60, x61, x62⟩ := HS12.out.k0 4 rfl rfl rfl rfl
      have x63 := HS12.out.cell 4 rfl 3 rfl
      obtain ⟨x64, x65, x66⟩ := HS12.out.rowCells 3 rfl (HSL.out _)
      have x67 := HS12.out.frozen 3 rfl (k * 3)
      have x68 := HS12.out.frozen 3 rfl (k * 3 + 1)
      have x69 := HS12.out.frozen 3 rfl (k * 3 + 2)
      have x70 := HS12.out.ne 3 0 rfl rfl (by decide)
      have x71 := HS12.out.ne 0 3 rfl rfl (by decide)
      have x72 := HS12.out.ne 3 1 rfl rfl (by decide)
      have x73 := HS12.out.ne 1 3 rfl rfl (by decide)
      have x74 := HS12.out.ne 3 2 rfl rfl (by decide)
      have x75 := HS12.out.ne 2 3 rfl rfl (by decide)
      have x76 := HS12.out.ne 3 4 rfl rfl (by decide)
      have x77 := HS12.out.ne 4 3 rfl rfl (by decide)
      go_wp2_with fail
      have HS13 : Hid (St w [⟨g9, #[.bool (negB (m)), .string (bs (numB (m))), .string (bs (denomB (m)))], 25⟩, ⟨wr.heap.size, #[.int .i64 u.rank, .bool u.tn, .string (bs u.ta), .string (bs u.tb), .bool u.fn, .string (bs u.fa), .string (bs u.fb), .bool u.kn, .string (bs u.ka), .string (bs u.kb), .bool u.acc], 59⟩, ⟨w5.heap.size, #[.bool (negB (lf)), .string (bs (numB (lf))), .string (bs (denomB (lf)))], 25⟩, ⟨w3.heap.size, (rowA (((rk).set k ⟨(negB (nd)), (numB (nd)), (denomB (nd))⟩).set k ⟨(negB (qd)), (numB (qd)), (denomB (qd))⟩)), 25⟩, ⟨w.heap.size, #[.bool vn, .string (bs va), .string (bs vb), .slice (some ⟨b, o, none⟩) l.length c], 28⟩] _) := Lib.hid (St.setRow (HS12.out) 3 rfl k ⟨(negB (qd)), (numB (qd)), (denomB (qd))⟩ (HK2.out _))
      refine (HF.out _ _ HS13.out.below (by rw [← HRW.out]; exact HS13.out.rowL 3 rfl HRL.out (by omega))).mono ?_
      rintro e w14 ⟨rfl, hb14⟩
      have HS14 := Lib.hid (HS13.out.call hb14)
      clear hb14 HS12 HS13
      clear x60 x61 x62 x63 x64 x65 x66 x67 x68 x69 x70 x71 x72 x73 x74 x75 x76 x77
      go_wp2
      have HS15 := Lib.hid HS14.out
      go_ret3
      rw [R.out]
      exact ⟨_, rfl, Slc.nil_ _ _ _ _ _ (by decide), HS15.out.below⟩
    ·have d1 : decide (0 < d) = false := decide_eq_false hd
     have HG := Lib.hid (hgo hd)
     have HRG := Lib.hid hrg
     clear hbr hgo hrg
     have x12 : b < wr.heap.size := Nat.lt_of_lt_of_le hbb HS.out.below.size
     have x13 : ¬ b = wr.heap.size := by omega
     obtain ⟨x14, x15, x16, x17, x18, x19, x20, x21, x22, x23, x24⟩ := kE (HX.out _ HS.out.below) rfl rfl rfl rfl rfl rfl rfl rfl rfl rfl rfl
     go_wp2_with fail
     have HS6 := Lib.hid (St.alloc (HS.out) #[.int .i64 u.rank, .bool u.tn, .string (bs u.ta), .string (bs u.tb), .bool u.fn, .string (bs u.fa), .string (bs u.fb), .bool u.kn, .string (bs u.ka), .string (bs u.kb), .bool u.acc] 59 (wr.heap.size) (by simp))
     refine (HN.out _).mono ?_
     rintro e w7 ⟨rfl, hb7⟩
     have HS7 := Lib.hid (HS6.out.call hb7)
     clear hb7 HS HS6
     clear x12 x13 x14 x15 x16 x17 x18 x19 x20 x21 x22 x23 x24
     obtain ⟨x25, x26, x27⟩ := HS7.out.rowCells 2 rfl (HAT.out)
     have x28 := HS7.out.frozen 2 rfl (k * 3)
     have x29 := HS7.out.frozen 2 rfl (k * 3 + 1)
     have x30 := HS7.out.frozen 2 rfl (k * 3 + 2)
     have x31 := HS7.out.ne 2 0 rfl rfl (by decide)
     have x32 := HS7.out.ne 0 2 rfl rfl (by decide)
     have x33 := HS7.out.ne 2 1 rfl rfl (by decide)
     have x34 := HS7.out.ne 1 2 rfl rfl (by decide)
     have x35 := HS7.out.ne 2 3 rfl rfl (by decide)
     have x36 := HS7.out.ne 3 2 rfl rfl (by decide)
     go_wp2
     clear x25 x26 x27 x28 x29 x30 x31 x32 x33 x34 x35 x36
     refine wp_st (R := [⟨wr.heap.size, #[.int .i64 u.rank, .bool u.tn, .string (bs u.ta), .string (bs u.tb), .bool u.fn, .string (bs u.fa), .string (bs u.fb), .bool u.kn, .string (bs u.ka), .string (bs u.kb), .bool u.acc], 59⟩, ⟨w5.heap.size, #[.bool (negB (lf)), .string (bs (numB (lf))), .string (bs (denomB (lf)))], 25⟩, ⟨w3.heap.size, (rowA ((rk).set k ⟨(negB (nd)), (numB (nd)), (denomB (nd))⟩)), 25⟩, ⟨w.heap.size, #[.bool vn, .string (bs va), .string (bs vb), .slice (some ⟨b, o, none⟩) l.length c], 28⟩]) (St.setRow (HS7.out) 2 rfl k ⟨(negB (nd)), (numB (nd)), (denomB (nd))⟩ HKL.out) ?_
     intro wg8 hb
     have HS8 := Lib.hid hb
     clear hb HS7
     refine wp_region_facts 8 [eQ (.slice (some ⟨w3.heap.size, 0, none⟩) l.length l.length), eQ (.int .i64 (k : Nat)), eQ (.pointer (some ⟨w3.heap.size, k * 3, none⟩)), eQ (.agg #[.bool (negB (nd)), .string (bs (numB (nd))), .string (bs (denomB (nd)))]), eQ (.pointer (some ⟨wr.heap.size, 1, none⟩)), eQ (.agg #[.bool u.tn, .string (bs u.ta), .string (bs u.tb)]), eQ (.agg #[.bool (negB (m)), .string (bs (numB (m))), .string (bs (denomB (m)))]), fun ww vv => ∃ g, vv = .pointer (some ⟨g, 0, none⟩) ∧ wg8.heap.size ≤ g ∧ Blk ww g #[.bool false, .string (bs []), .string (bs [])] 25] rfl (by kernel_rfl) (by kernel_rfl) (by kernel_rfl) ⟨stE, stE, stE, stE, stE, stE, stE, fun _ _ _ ⟨g, e, hg, h⟩ hb => ⟨g, e, hg, h.below hb h.lt⟩, trivial⟩ ?_ ?_
     refine ⟨?_, ?_, ?_, ?_, ?_, ?_, ?_, ?_, trivial⟩
     ·intro xx af wv hbx hev hev0 hd; have e6 : af.tmps[6]?.getD undef = .slice (some ⟨w3.heap.size, 0, none⟩) l.length l.length := hev0 6 rfl; clear hev hev0 hd; go_wp2; exact sQ rfl
     ·intro xx af wv hbx hev hev0 hd; have e8 : af.tmps[8]?.getD undef = .int .i64 (k : Nat) := hev0 8 rfl; clear hev hev0 hd; go_wp2; exact sQ rfl
     ·intro xx af wv hbx hev hev0 hd; have e39 := (hev 0 _ 39 rfl rfl).trans (hd ⟨0, .data⟩ (by simp) rfl); have e40 := (hev 1 _ 40 rfl rfl).trans (hd ⟨1, .data⟩ (by simp) rfl); clear hev hev0 hd; go_wp2; exact sQ rfl
     ·intro xx af wv hbx hev hev0 hd; have e41 := (hev 2 _ 41 rfl rfl).trans (hd ⟨2, .data⟩ (by simp) rfl); clear hev hev0 hd; have hs1 := Lib.hid (HS8.out.call hbx); obtain ⟨yr0, yr1, yr2⟩ := hs1.out.rowCells 2 rfl (HSL.out _); go_wp2; exact sQ rfl
     ·intro xx af wv hbx hev hev0 hd; have e9 : af.tmps[9]?.getD undef = .pointer (some ⟨wr.heap.size, 0, none⟩) := hev0 9 rfl; clear hev hev0 hd; go_wp2; exact sQ rfl
     ·intro xx af wv hbx hev hev0 hd; have e43 := (hev 4 _ 43 rfl rfl).trans (hd ⟨4, .data⟩ (by simp) rfl); clear hev hev0 hd; have hs1 := Lib.hid (HS8.out.call hbx); obtain ⟨y0, y1, y2⟩ := hs1.out.k1 0 rfl rfl rfl rfl; go_wp2; exact sQ rfl
     ·intro xx af wv hbx hev hev0 hd
      have e42 := (hev 3 _ 42 rfl rfl).trans (hd ⟨3, .data⟩ (by simp) rfl)
      have e44 := (hev 5 _ 44 rfl rfl).trans (hd ⟨5, .data⟩ (by simp) rfl)
      clear hev hev0 hd
      go_wp2_with fail
      refine (HM.out _).mono ?_
      rintro e w8 ⟨rfl, hb8⟩
      go_wp2
      exact StepQ.mk _ hb8 rfl
     ·intro xx af wv hbx hev hev0 hd; clear hev hev0 hd; go_wp2; exact StepQ.mk _ (Ext.alloc (Below.refl _ _) _) ⟨_, rfl, hbx.size, Blk.new _ _ _⟩
     intro xx w9 hb9 hv
     obtain ⟨g9, hv7, hlg7, hB7⟩ := hv 7 (by decide)
     simp only [List.take, List.drop, fillA, Act.put]
     simp only [show xx 0 = _ from hv 0 (by decide), show xx 1 = _ from hv 1 (by decide), show xx 2 = _ from hv 2 (by decide), show xx 3 = _ from hv 3 (by decide), show xx 4 = _ from hv 4 (by decide), show xx 5 = _ from hv 5 (by decide), show xx 6 = _ from hv 6 (by decide), hv7]
     clear hv hv7
     have HS9 := Lib.hid (HS8.out.fill hb9 hlg7 hB7)
     clear hlg7 hB7
     clear hb9 HS8
     obtain ⟨x37, x38, x39⟩ := HS9.out.k0 0 rfl rfl rfl rfl
     obtain ⟨x40, x41, x42⟩ := HS9.out.k0 2 rfl rfl rfl rfl
     obtain ⟨x43, x44, x45⟩ := HS9.out.f0 0 rfl
     have x46 := HS9.out.ne 0 1 rfl rfl (by decide)
     have x47 := HS9.out.ne 1 0 rfl rfl (by decide)
     have x48 := HS9.out.ne 0 2 rfl rfl (by decide)
     have x49 := HS9.out.ne 2 0 rfl rfl (by decide)
     have x50 := HS9.out.ne 0 3 rfl rfl (by decide)
     have x51 := HS9.out.ne 3 0 rfl rfl (by decide)
     have x52 := HS9.out.ne 0 4 rfl rfl (by decide)
     have x53 := HS9.out.ne 4 0 rfl rfl (by decide)
     go_wp2_with fail
     have HS10 : Hid (St w [⟨g9, #[.bool (negB (m)), .string (bs (numB (m))), .string (bs (denomB (m)))], 25⟩, ⟨wr.heap.size, #[.int .i64 u.rank, .bool u.tn, .string (bs u.ta), .string (bs u.tb), .bool u.fn, .string (bs u.fa), .string (bs u.fb), .bool u.kn, .string (bs u.ka), .string (bs u.kb), .bool u.acc], 59⟩, ⟨w5.heap.size, #[.bool (negB (lf)), .string (bs (numB (lf))), .string (bs (denomB (lf)))], 25⟩, ⟨w3.heap.size, (rowA ((rk).set k ⟨(negB (nd)), (numB (nd)), (denomB (nd))⟩)), 25⟩, ⟨w.heap.size, #[.bool vn, .string (bs va), .string (bs vb), .slice (some ⟨b, o, none⟩) l.length c], 28⟩] _) := Lib.hid (St.set ((St.set ((St.set (HS9.out) 0 rfl 0 _)) 0 rfl 1 _)) 0 rfl 2 _)
     refine (HCM.out _).mono ?_
     rintro e w11 ⟨rfl, hb11⟩
     have HS11 := Lib.hid (HS10.out.call hb11)
     clear hb11 HS9 HS10
     clear x37 x38 x39 x40 x41 x42 x43 x44 x45 x46 x47 x48 x49 x50 x51 x52 x53
     obtain ⟨x54, x55, x56⟩ := HS11.out.k0 2 rfl rfl rfl rfl
     obtain ⟨x57, x58, x59⟩ := HS11.out.k0 0 rfl rfl rfl rfl
     go_wp2_with fail
     refine (HSU.out _).mono ?_
     rintro e w12 ⟨rfl, hb12⟩
     have HS12 := Lib.hid (HS11.out.call hb12)
     clear hb12 HS11
     clear x54 x55 x56 x57 x58 x59
     obtain ⟨x60, x61, x62⟩ := HS12.out.k0 2 rfl rfl rfl rfl
     obtain ⟨x63, x64, x65⟩ := HS12.out.f0 2 rfl
     have x66 := HS12.out.ne 2 0 rfl rfl (by decide)
     have x67 := HS12.out.ne 0 2 rfl rfl (by decide)
     have x68 := HS12.out.ne 2 1 rfl rfl (by decide)
     have x69 := HS12.out.ne 1 2 rfl rfl (by decide)
     have x70 := HS12.out.ne 2 3 rfl rfl (by decide)
     have x71 := HS12.out.ne 3 2 rfl rfl (by decide)
     have x72 := HS12.out.ne 2 4 rfl rfl (by decide)
     have x73 := HS12.out.ne 4 2 rfl rfl (by decide)
     go_wp2
     have HS13 : Hid (St w [⟨g9, #[.bool (negB (m)), .string (bs (numB (m))), .string (bs (denomB (m)))], 25⟩, ⟨wr.heap.size, #[.int .i64 u.rank, .bool u.tn, .string (bs u.ta), .string (bs u.tb), .bool u.fn, .string (bs u.fa), .string (bs u.fb), .bool u.kn, .string (bs u.ka), .string (bs u.kb), .bool u.acc], 59⟩, ⟨w5.heap.size, #[.bool (negB (ln)), .string (bs (numB (ln))), .string (bs (denomB (ln)))], 25⟩, ⟨w3.heap.size, (rowA ((rk).set k ⟨(negB (nd)), (numB (nd)), (denomB (nd))⟩)), 25⟩, ⟨w.heap.size, #[.bool vn, .string (bs va), .string (bs vb), .slice (some ⟨b, o, none⟩) l.length c], 28⟩] _) := Lib.hid (St.set ((St.set ((St.set (HS12.out) 2 rfl 0 _)) 2 rfl 1 _)) 2 rfl 2 _)
     go_roundw
     case rel => exact ⟨k + 1, by omega, by go_num, HG.out, by show St _ _ _; rw [← HLN.out, ← HRN.out, ← HRG.out]; exact HS13.out.sub (by simp)⟩
     case measure => simp [intOf]; omega
   ·obtain rfl : k = l.length := by omega
    have HRW : Hid (rowK l l.length = (ratesOf q l).map rtrOf) := sofar_end HSO.out
    have HRL : Hid ((rowK l l.length).length = l.length) := rowK_len (Nat.le_refl _)
    by_cases h2 : n2 = 0
    ·subst h2
     have R : Hid (ans = (ratesOf q l, true, 0)) := by show _ = _; rw [HD.out, if_neg (by decide)]
     obtain ⟨x12, x13, x14⟩ := HS.out.k0 2 rfl rfl rfl rfl
     have x15 := HS.out.cell 2 rfl 3 rfl
     go_wp2_with fail
     refine (HF.out _ _ HS.out.below (by rw [← HRW.out]; exact HS.out.rowL 1 rfl HRL.out (by omega))).mono ?_
     rintro e w6 ⟨rfl, hb6⟩
     have HS6 := Lib.hid (HS.out.call hb6)
     clear hb6 HS
     clear x12 x13 x14 x15
     go_wp2
     have HS7 := Lib.hid HS6.out
     go_ret3
     rw [R.out]
     exact ⟨_, rfl, by rw [← HRW.out]; exact HS7.out.rowL 1 rfl HRL.out (by omega), HS7.out.below⟩
    ·have q1 := (HNB.out n2 h2).1
     have q2 := (HNB.out n2 h2).2
     have R : Hid (ans = ([], false, 0)) := by show _ = _; rw [HD.out, if_pos h2]
     obtain ⟨x12, x13, x14⟩ := HS.out.k0 2 rfl rfl rfl rfl
     have x15 := HS.out.cell 2 rfl 3 rfl
     go_wp2_with fail
     refine (HF.out _ _ HS.out.below (by rw [← HRW.out]; exact HS.out.rowL 1 rfl HRL.out (by omega))).mono ?_
     rintro e w6 ⟨rfl, hb6⟩
     have HS6 := Lib.hid (HS.out.call hb6)
     clear hb6 HS
     clear x12 x13 x14 x15
     go_wp2
     have HS7 := Lib.hid HS6.out
     go_ret3
     rw [R.out]
     exact ⟨_, rfl, Slc.nil_ _ _ _ _ _ (by decide), HS7.out.below⟩
end Go.Proofs.YtcllocdhbicpkaaGreatDoor
