/-
Can a plan be confirmed: the document's Confirm (printed by gen_pln8.py).
-/
import Derived.Test.YtcllocdhbicpkaaGreatDoorPlnT
import Derived.Test.YtcllocdhbicpkaaGreatDoorPlnR
namespace Go.Proofs.YtcllocdhbicpkaaGreatDoor
open Go.RowKit

theorem carried_both (zl : List (Blc × Rat)) : carriedB zl = (!(zl.any impB) || zl.any (fun x => impB x && consB x)) := rfl
theorem any_part {p : Blc × Rat → Bool} {zl : List (Blc × Rat)} {j k : Nat} {x : Blc × Rat} (h : zl[j]? = some x) (hk : k ≤ j) : ((zl.take (j + 1)).drop k).any p = (((zl.take j).drop k).any p || p x) := by
 have hl := (List.getElem?_eq_some_iff.1 h).1
 rw [take_at h, List.drop_append_of_le_length (by rw [List.length_take]; omega), List.any_append]; simp
theorem any_yes {p : Blc × Rat → Bool} {zl : List (Blc × Rat)} {j k : Nat} {x : Blc × Rat} (h : zl[j]? = some x) (hk : k ≤ j) (hp : p x = true) : (zl.drop k).any p = true := by
 rw [List.any_eq_true]
 refine ⟨x, List.mem_of_getElem? (i := j - k) ?_, hp⟩
 rw [List.getElem?_drop, show k + (j - k) = j by omega]; exact h

set_option maxRecDepth 100000 in
set_option maxHeartbeats 2000000 in
theorem ref_Confirm (vn : Bool) (va vb : List UInt8) (v : Value) (l : List Blc) (rv : Value) (rs : List Rtr) (w : World) (h : BlocsL w v l) (hr : RatsL w rv rs) (hok : SmallBl 1000000 l) (hrs : SmallT 1000000 rs) (lva : va.length ≤ 1000000) (lvb : vb.length ≤ 1000000) :
  Calls Tryz.prog 20 #[.agg #[.bool vn, .string (bs va), .string (bs vb), v], rv] w fun e w' => e = .returned (.tuple #[.int .i64 (confR (decR vn va vb) l (rs.map Rtr.val)).1, .int .i64 (confR (decR vn va vb) l (rs.map Rtr.val)).2]) ∧ Below w.heap.size w w' := by
 have hD := fun W (hb : Below w.heap.size w W) => ref_Residue vn va vb v l rv rs W (h.below hb) (hr.below hb) hok hrs lva lvb
 have hdef := conf_def (decR vn va vb) l (rs.map Rtr.val)
 have hfit := resid_fits (value := decR vn va vb) (sized_dec lva lvb (by decide)) hok hrs
 have hzat : ∀ (k : Nat) (u : Blc) (t : Rtr), l[k]? = some u → rs[k]? = some t → (l.zip (rs.map Rtr.val))[k]? = some (u, t.val) := fun k u t hu ht => zip_at hu (by rw [List.getElem?_map, ht]; rfl)
 have hzl : rs.length = l.length → (l.zip (rs.map Rtr.val)).length = l.length := fun hlen => by rw [List.length_zip, List.length_map]; omega
 have hnb : ∀ n : Int, n ≠ 0 → (n == 0) = false ∧ (n != 0) = true := fun n h => ⟨beq_eq_false_iff_ne.2 h, by rw [bne, beq_eq_false_iff_ne.2 h]; rfl⟩
 generalize residR (decR vn va vb) l (rs.map Rtr.val) = res at *
 generalize confR (decR vn va vb) l (rs.map Rtr.val) = ans at *
 generalize l.zip (rs.map Rtr.val) = zl at *
 obtain ⟨cq, n⟩ := res
 dsimp only at hD hdef hfit
 have H := Lib.hid h
 have HR := Lib.hid hr
 have HOK := Lib.hid hok
 have HOR := Lib.hid hrs
 obtain ⟨A, c, rfl, hl, hc⟩ := h.slice
 obtain ⟨RA, rc, rfl, hrl, hrc⟩ := hr.slice
 unfold rat raw at hD
 clear h hr hok hrs lva lvb
 by_cases h0 : n ≠ 0
 ·rw [if_pos h0] at hdef
  have R := Lib.hid hdef
  have d1 := (hnb n h0).1
  have d2 := (hnb n h0).2
  have HD := Lib.hid hD
  clear hD hdef hfit hzat hzl hnb
  go_enter Tryz.func20, Tryz.ntmps20
  have HS := Lib.hid (St.start w)
  go_wp2_with fail
  have HS2 := Lib.hid (St.alloc (HS.out) #[.bool vn, .string (bs va), .string (bs vb), .slice A l.length c] 28 (w.heap.size) (by simp))
  refine (HD.out _ HS2.out.below).mono ?_
  rintro e w3 ⟨rfl, hb3⟩
  have HS3 := Lib.hid (HS2.out.call hb3)
  clear hb3 HS HS2
  go_wp2
  have HS4 := Lib.hid (St.alloc (HS3.out) #[.bool (negB (cq)), .string (bs (numB (cq))), .string (bs (denomB (cq)))] 25 (w3.heap.size) (by simp))
  go_ret2
  rw [R.out]
  exact ⟨rfl, HS4.out.below⟩
 ·have h0 : n = 0 := Classical.not_not.1 h0
  subst h0
  obtain ⟨hlen, h16, hcs⟩ := hfit rfl
  rw [if_neg (by decide)] at hdef
  have hzl := hzl hlen
  have hSg := fun W => ref_Signum (negB cq) (numB cq) (denomB cq) W
  rw [sgnR_dec] at hSg
  unfold raw at hSg
  have HSG := Lib.hid hSg
  have HD := Lib.hid hD
  clear hSg hD hnb
  have HLEN := Lib.hid hlen
  have HZL := Lib.hid hzl
  have HZ := Lib.hid hzat
  clear hzat hzl hfit hcs
  generalize rs.length = m at hlen hrl HR HD ⊢
  subst hlen
  by_cases hs : sgn cq.num < 0
  ·rw [if_pos hs] at hdef
   have R := Lib.hid hdef
   have d1 : decide (sgn cq.num < 0) = true := decide_eq_true hs
   generalize sgn cq.num = s at *
   clear hdef hs HZ
   go_enter Tryz.func20, Tryz.ntmps20
   have HS := Lib.hid (St.start w)
   go_wp2_with fail
   have HS2 := Lib.hid (St.alloc (HS.out) #[.bool vn, .string (bs va), .string (bs vb), .slice A l.length c] 28 (w.heap.size) (by simp))
   refine (HD.out _ HS2.out.below).mono ?_
   rintro e w3 ⟨rfl, hb3⟩
   have HS3 := Lib.hid (HS2.out.call hb3)
   clear hb3 HS HS2
   go_wp2_with fail
   have HS4 := Lib.hid (St.alloc (HS3.out) #[.bool (negB (cq)), .string (bs (numB (cq))), .string (bs (denomB (cq)))] 25 (w3.heap.size) (by simp))
   refine (HSG.out _).mono ?_
   rintro e w5 ⟨rfl, hb5⟩
   have HS5 := Lib.hid (HS4.out.call hb5)
   clear hb5 HS3 HS4
   go_wp2
   have HS6 := Lib.hid HS5.out
   go_ret2
   rw [R.out]
   exact ⟨rfl, HS6.out.below⟩
  ·rw [if_neg hs] at hdef
   have d1 : decide (sgn cq.num < 0) = false := decide_eq_false hs
   have hbs := below_start zl
   have hby := fun k x => @below_yes zl k x
   have hbn := fun k x => @below_no zl k x
   have hbe := @below_end zl
   have hst := dissent_start cq zl
   have hys := fun k x => @dissent_yes cq zl k x
   have hns := fun k x => @dissent_no cq zl k x
   have hes := @dissent_end cq zl
   unfold dissB at hys hns
   have hcar := carried_both zl
   have h1 := fun i => @confTail_below cq zl i
   have h2 := fun i => @confTail_dissent cq zl i
   have h3 := @confTail_end cq zl
   rw [← hdef] at h1 h2 h3
   generalize sgn cq.num = s at *
   generalize belowAt zl = bl at *
   generalize dissentAt cq zl = dd at *
   generalize carriedB zl = cB at *
   have HBY := Lib.hid hby
   have HBN := Lib.hid hbn
   have HBE := Lib.hid hbe
   have HBS := Lib.hid hbs
   have HYS := Lib.hid hys
   have HNS := Lib.hid hns
   have HES := Lib.hid hes
   have HST := Lib.hid hst
   have HE1 := Lib.hid h1
   have HE2 := Lib.hid h2
   have HE3 := Lib.hid h3
   have HCAR := Lib.hid hcar
   clear hdef hs hbs hby hbn hbe hys hns hes hst h1 h2 h3 hcar
   go_enter Tryz.func20, Tryz.ntmps20
   have HS := Lib.hid (St.start w)
   go_wp2_with fail
   have HS2 := Lib.hid (St.alloc (HS.out) #[.bool vn, .string (bs va), .string (bs vb), .slice A l.length c] 28 (w.heap.size) (by simp))
   refine (HD.out _ HS2.out.below).mono ?_
   rintro e w3 ⟨rfl, hb3⟩
   have HS3 := Lib.hid (HS2.out.call hb3)
   clear hb3 HS HS2
   go_wp2_with fail
   have HS4 := Lib.hid (St.alloc (HS3.out) #[.bool (negB (cq)), .string (bs (numB (cq))), .string (bs (denomB (cq)))] 25 (w3.heap.size) (by simp))
   refine (HSG.out _).mono ?_
   rintro e w5 ⟨rfl, hb5⟩
   have HS5 := Lib.hid (HS4.out.call hb5)
   clear hb5 HS3 HS4
   go_wp2
   go_loopw [8] (fun i wr => ∃ k : Nat, k ≤ l.length ∧ i = .int .i64 k ∧ Hid (bl = (belowAt (zl.drop k)).map (· + k)) ∧ Hid (St w [⟨w3.heap.size, #[.bool (negB (cq)), .string (bs (numB (cq))), .string (bs (denomB (cq)))], 25⟩, ⟨w.heap.size, #[.bool vn, .string (bs va), .string (bs vb), .slice A l.length c], 28⟩] wr)) (fun i _ => l.length - (intOf i).toNat)
   case atStart => exact ⟨0, Nat.zero_le _, rfl, HBS.out, HS5.out⟩
   case round =>
    clear HS5 HBS
    obtain ⟨k, hk, rfl, HB, HS⟩ := hrel
    by_cases hlt : k < l.length
    ·obtain ⟨b, o, u, rfl, hbb, hq, hx⟩ := H.out.at_ hlt
     obtain ⟨rb, ro, t, rfl, hbr, hqt, hy⟩ := HR.out.at_ (show k < rs.length by have := HLEN.out; omega)
     have ho := HOK.out u (List.mem_of_getElem? hq)
     have hot := HOR.out t (List.mem_of_getElem? hqt)
     have hz := HZ.out k u t hq hqt
     have hC := fun W => ref_Compare t.n t.a t.b u.fn u.fa u.fb W (by omega) (by omega) (Nat.le_trans ho.2.1.1 (by decide)) (Nat.le_trans ho.2.1.2 (by decide))
     change ∀ W, Calls Tryz.prog _ _ W (fun e w' => e = .returned (.int .i64 (sgn (t.val - u.floor).num)) ∧ _) at hC
     have hY := HBY.out k _ HB.out hz
     have hN := HBN.out k _ HB.out hz
     try dsimp only at hY hN
     generalize sgn (t.val - u.floor).num = d at *
     unfold raw at hC
     have HC := Lib.hid hC
     have HX := Lib.hid hx
     have HY := Lib.hid hy
     have e0 : (0 : Int) ≤ ((k : Nat) : Int) := by omega
     have e1 : ((k : Nat) : Int) < (l.length : Int) := by omega
     clear hC hx hy hq hqt ho hot hz
     by_cases hd : d < 0
     ·have d2 : decide (d < 0) = true := decide_eq_true hd
      have R := Lib.hid (HE1.out _ (hY hd))
      clear hY hN hd
      go_wp2
      refine wp_region_eq 11 [.slice (some ⟨rb, ro, none⟩) l.length rc, .int .i64 (k : Nat), .pointer (some ⟨rb, ro + k * 3, none⟩), .agg #[.bool t.n, .string (bs t.a), .string (bs t.b)], .pointer (some ⟨w.heap.size, 3, none⟩), .slice (some ⟨b, o, none⟩) l.length c, .int .i64 (k : Nat), .pointer (some ⟨b, o + k * 11, none⟩), .pointer (some ⟨b, o + k * 11 + 4, none⟩), .agg #[.bool u.fn, .string (bs u.fa), .string (bs u.fb)], .int .i64 d] rfl (by kernel_rfl) (by kernel_rfl) (by kernel_rfl) ?_ ?_
      refine ⟨?_, ?_, ?_, ?_, ?_, ?_, ?_, ?_, ?_, ?_, ?_, trivial⟩
      ·intro xx af wv hbx hev hev0 hd; have e1 : af.tmps[1]?.getD undef = .slice (some ⟨rb, ro, none⟩) l.length rc := hev0 1 rfl; clear hev hev0 hd; go_wp2; exact sQ rfl
      ·intro xx af wv hbx hev hev0 hd; have e8 : af.tmps[8]?.getD undef = .int .i64 (k : Nat) := hev0 8 rfl; clear hev hev0 hd; go_wp2; exact sQ rfl
      ·intro xx af wv hbx hev hev0 hd; have e31 := (hev 0 _ 31 rfl rfl).trans (hd ⟨0, .data⟩ (by simp) rfl); have e32 := (hev 1 _ 32 rfl rfl).trans (hd ⟨1, .data⟩ (by simp) rfl); clear hev hev0 hd; go_wp2; exact sQ rfl
      ·intro xx af wv hbx hev hev0 hd; have e33 := (hev 2 _ 33 rfl rfl).trans (hd ⟨2, .data⟩ (by simp) rfl); clear hev hev0 hd; have hs1 := Lib.hid (HS.out.call hbx); obtain ⟨y0, y1, y2⟩ := kE0 (HY.out _ hs1.out.below) rfl rfl rfl; go_wp2; exact sQ rfl
      ·intro xx af wv hbx hev hev0 hd; have e2 : af.tmps[2]?.getD undef = .pointer (some ⟨w.heap.size, 0, none⟩) := hev0 2 rfl; clear hev hev0 hd; go_wp2; exact sQ rfl
      ·intro xx af wv hbx hev hev0 hd; have e35 := (hev 4 _ 35 rfl rfl).trans (hd ⟨4, .data⟩ (by simp) rfl); clear hev hev0 hd; have hs1 := Lib.hid (HS.out.call hbx); have y0 := hs1.out.cell 1 rfl 3 rfl; go_wp2; exact sQ rfl
      ·intro xx af wv hbx hev hev0 hd; have e8 : af.tmps[8]?.getD undef = .int .i64 (k : Nat) := hev0 8 rfl; clear hev hev0 hd; go_wp2; exact sQ rfl
      ·intro xx af wv hbx hev hev0 hd; have e36 := (hev 5 _ 36 rfl rfl).trans (hd ⟨5, .data⟩ (by simp) rfl); have e37 := (hev 6 _ 37 rfl rfl).trans (hd ⟨6, .data⟩ (by simp) rfl); clear hev hev0 hd; go_wp2; exact sQ rfl
      ·intro xx af wv hbx hev hev0 hd; have e38 := (hev 7 _ 38 rfl rfl).trans (hd ⟨7, .data⟩ (by simp) rfl); clear hev hev0 hd; go_wp2; exact sQ rfl
      ·intro xx af wv hbx hev hev0 hd; have e39 := (hev 8 _ 39 rfl rfl).trans (hd ⟨8, .data⟩ (by simp) rfl); clear hev hev0 hd; have hs1 := Lib.hid (HS.out.call hbx); obtain ⟨y0, y1, y2⟩ := kE4 (HX.out _ hs1.out.below) rfl rfl rfl; go_wp2; exact sQ rfl
      ·intro xx af wv hbx hev hev0 hd
       have e34 := (hev 3 _ 34 rfl rfl).trans (hd ⟨3, .data⟩ (by simp) rfl)
       have e40 := (hev 9 _ 40 rfl rfl).trans (hd ⟨9, .data⟩ (by simp) rfl)
       clear hev hev0 hd
       go_wp2_with fail
       refine (HC.out _).mono ?_
       rintro e w8 ⟨rfl, hb8⟩
       go_wp2
       exact StepQ.mk _ hb8 rfl
      intro xx w6 hb9 hv
      simp only [List.take, List.drop, fillA, Act.put]
      simp only [show xx 0 = _ from hv 0 (by decide), show xx 1 = _ from hv 1 (by decide), show xx 2 = _ from hv 2 (by decide), show xx 3 = _ from hv 3 (by decide), show xx 4 = _ from hv 4 (by decide), show xx 5 = _ from hv 5 (by decide), show xx 6 = _ from hv 6 (by decide), show xx 7 = _ from hv 7 (by decide), show xx 8 = _ from hv 8 (by decide), show xx 9 = _ from hv 9 (by decide), show xx 10 = _ from hv 10 (by decide)]
      clear hv
      have HS6 := Lib.hid (HS.out.call hb9)
      clear hb9 HS
      go_wp2
      have HS7 := Lib.hid HS6.out
      go_ret2
      rw [R.out]
      exact ⟨rfl, HS7.out.below⟩
     ·have d2 : decide (d < 0) = false := decide_eq_false hd
      have R := Lib.hid (hN (by omega))
      clear hY hN hd
      go_wp2
      refine wp_region_eq 11 [.slice (some ⟨rb, ro, none⟩) l.length rc, .int .i64 (k : Nat), .pointer (some ⟨rb, ro + k * 3, none⟩), .agg #[.bool t.n, .string (bs t.a), .string (bs t.b)], .pointer (some ⟨w.heap.size, 3, none⟩), .slice (some ⟨b, o, none⟩) l.length c, .int .i64 (k : Nat), .pointer (some ⟨b, o + k * 11, none⟩), .pointer (some ⟨b, o + k * 11 + 4, none⟩), .agg #[.bool u.fn, .string (bs u.fa), .string (bs u.fb)], .int .i64 d] rfl (by kernel_rfl) (by kernel_rfl) (by kernel_rfl) ?_ ?_
      refine ⟨?_, ?_, ?_, ?_, ?_, ?_, ?_, ?_, ?_, ?_, ?_, trivial⟩
      ·intro xx af wv hbx hev hev0 hd; have e1 : af.tmps[1]?.getD undef = .slice (some ⟨rb, ro, none⟩) l.length rc := hev0 1 rfl; clear hev hev0 hd; go_wp2; exact sQ rfl
      ·intro xx af wv hbx hev hev0 hd; have e8 : af.tmps[8]?.getD undef = .int .i64 (k : Nat) := hev0 8 rfl; clear hev hev0 hd; go_wp2; exact sQ rfl
      ·intro xx af wv hbx hev hev0 hd; have e31 := (hev 0 _ 31 rfl rfl).trans (hd ⟨0, .data⟩ (by simp) rfl); have e32 := (hev 1 _ 32 rfl rfl).trans (hd ⟨1, .data⟩ (by simp) rfl); clear hev hev0 hd; go_wp2; exact sQ rfl
      ·intro xx af wv hbx hev hev0 hd; have e33 := (hev 2 _ 33 rfl rfl).trans (hd ⟨2, .data⟩ (by simp) rfl); clear hev hev0 hd; have hs1 := Lib.hid (HS.out.call hbx); obtain ⟨y0, y1, y2⟩ := kE0 (HY.out _ hs1.out.below) rfl rfl rfl; go_wp2; exact sQ rfl
      ·intro xx af wv hbx hev hev0 hd; have e2 : af.tmps[2]?.getD undef = .pointer (some ⟨w.heap.size, 0, none⟩) := hev0 2 rfl; clear hev hev0 hd; go_wp2; exact sQ rfl
      ·intro xx af wv hbx hev hev0 hd; have e35 := (hev 4 _ 35 rfl rfl).trans (hd ⟨4, .data⟩ (by simp) rfl); clear hev hev0 hd; have hs1 := Lib.hid (HS.out.call hbx); have y0 := hs1.out.cell 1 rfl 3 rfl; go_wp2; exact sQ rfl
      ·intro xx af wv hbx hev hev0 hd; have e8 : af.tmps[8]?.getD undef = .int .i64 (k : Nat) := hev0 8 rfl; clear hev hev0 hd; go_wp2; exact sQ rfl
      ·intro xx af wv hbx hev hev0 hd; have e36 := (hev 5 _ 36 rfl rfl).trans (hd ⟨5, .data⟩ (by simp) rfl); have e37 := (hev 6 _ 37 rfl rfl).trans (hd ⟨6, .data⟩ (by simp) rfl); clear hev hev0 hd; go_wp2; exact sQ rfl
      ·intro xx af wv hbx hev hev0 hd; have e38 := (hev 7 _ 38 rfl rfl).trans (hd ⟨7, .data⟩ (by simp) rfl); clear hev hev0 hd; go_wp2; exact sQ rfl
      ·intro xx af wv hbx hev hev0 hd; have e39 := (hev 8 _ 39 rfl rfl).trans (hd ⟨8, .data⟩ (by simp) rfl); clear hev hev0 hd; have hs1 := Lib.hid (HS.out.call hbx); obtain ⟨y0, y1, y2⟩ := kE4 (HX.out _ hs1.out.below) rfl rfl rfl; go_wp2; exact sQ rfl
      ·intro xx af wv hbx hev hev0 hd
       have e34 := (hev 3 _ 34 rfl rfl).trans (hd ⟨3, .data⟩ (by simp) rfl)
       have e40 := (hev 9 _ 40 rfl rfl).trans (hd ⟨9, .data⟩ (by simp) rfl)
       clear hev hev0 hd
       go_wp2_with fail
       refine (HC.out _).mono ?_
       rintro e w8 ⟨rfl, hb8⟩
       go_wp2
       exact StepQ.mk _ hb8 rfl
      intro xx w6 hb9 hv
      simp only [List.take, List.drop, fillA, Act.put]
      simp only [show xx 0 = _ from hv 0 (by decide), show xx 1 = _ from hv 1 (by decide), show xx 2 = _ from hv 2 (by decide), show xx 3 = _ from hv 3 (by decide), show xx 4 = _ from hv 4 (by decide), show xx 5 = _ from hv 5 (by decide), show xx 6 = _ from hv 6 (by decide), show xx 7 = _ from hv 7 (by decide), show xx 8 = _ from hv 8 (by decide), show xx 9 = _ from hv 9 (by decide), show xx 10 = _ from hv 10 (by decide)]
      clear hv
      have HS6 := Lib.hid (HS.out.call hb9)
      clear hb9 HS
      go_wp2
      have HS7 := Lib.hid HS6.out
      go_roundw
      case rel => exact ⟨k + 1, by omega, by go_num, R.out, HS7.out.sub (by simp)⟩
      case measure => simp [intOf]; omega
    ·obtain rfl : k = l.length := by omega
     have HB : Hid (bl = none) := by show _ = _; rw [← HZL.out] at HB; exact HBE.out HB.out
     go_wp2
     go_loopw [9, 10, 11] (fun a b i wr => ∃ (k : Nat) (sB yB : Bool), k ≤ l.length ∧ a = .bool sB ∧ b = .bool yB ∧ i = .int .i64 k ∧ Hid (sB = (zl.take k).any impB) ∧ Hid (yB = (zl.take k).any (fun x => impB x && consB x)) ∧ Hid (dd = (dissentAt cq (zl.drop k)).map (· + k)) ∧ Hid (St w [⟨w3.heap.size, #[.bool (negB (cq)), .string (bs (numB (cq))), .string (bs (denomB (cq)))], 25⟩, ⟨w.heap.size, #[.bool vn, .string (bs va), .string (bs vb), .slice A l.length c], 28⟩] wr)) (fun _ _ i _ => l.length - (intOf i).toNat)
     case atStart => exact ⟨0, false, false, Nat.zero_le _, rfl, rfl, rfl, rfl, rfl, HST.out, HS.out⟩
     case round =>
      clear HS HST
      obtain ⟨k, sB, yB, hk, rfl, rfl, rfl, HSB, HYB, HD5, HS⟩ := hrel
      obtain ⟨wo, hwo⟩ : ∃ wo : World, wo = wr := ⟨_, rfl⟩
      subst hwo
      by_cases hlt : k < l.length
      ·obtain ⟨b, o, u, rfl, hbb, hq, hx⟩ := H.out.at_ hlt
       obtain ⟨rb, ro, t, rfl, hbr, hqt, hy⟩ := HR.out.at_ (show k < rs.length by have := HLEN.out; omega)
       have ho := HOK.out u (List.mem_of_getElem? hq)
       have hot := HOR.out t (List.mem_of_getElem? hqt)
       have hz := HZ.out k u t hq hqt
       have hI := fun W => ref_impaired t.n t.a t.b W (by omega) (by omega)
       have hA := fun W => ref_consents u t.n t.a t.b W (by omega) (by omega) (Nat.le_trans ho.2.2.1 (by decide)) (Nat.le_trans ho.2.2.2 (by decide))
       change ∀ W, Calls Tryz.prog _ _ W (fun e w' => e = .returned (.bool (impB (u, t.val))) ∧ _) at hI
       change ∀ W, Calls Tryz.prog _ _ W (fun e w' => e = .returned (.bool (consB (u, t.val))) ∧ _) at hA
       have hY := HYS.out k _ HD5.out hz
       have hN := HNS.out k _ HD5.out hz
       have hN1 := any_take (p := impB) hz
       have hN2 := any_take (p := fun x => impB x && consB x) hz
       rw [← HSB.out] at hN1
       rw [← HYB.out] at hN2
       try dsimp only at hN2 hY hN
       generalize impB (u, t.val) = iB at *
       generalize consB (u, t.val) = cC at *
       clear hz
       unfold raw at hI hA
       have HI := Lib.hid hI
       have HA := Lib.hid hA
       have HX := Lib.hid hx
       have HY := Lib.hid hy
       have e0 : (0 : Int) ≤ ((k : Nat) : Int) := by omega
       have e1 : ((k : Nat) : Int) < (l.length : Int) := by omega
       clear hI hA hx hy hq hqt ho hot
       cases iB with
       | false =>
        have R1 := Lib.hid (show sB = (zl.take (k + 1)).any impB by rw [hN1, Bool.or_false])
        have R2 := Lib.hid (show yB = (zl.take (k + 1)).any (fun x => impB x && consB x) by rw [hN2]; simp)
        have R := Lib.hid (hN (by simp))
        clear hN1 hN2 hY hN HSB HYB HD5
        obtain ⟨x1, x2, x3⟩ := kE0 (HY.out _ HS.out.below) rfl rfl rfl
        go_wp2_with fail
        refine (HI.out _).mono ?_
        rintro e w6 ⟨rfl, hb6⟩
        have HS6 := Lib.hid (HS.out.call hb6)
        clear hb6 HS
        clear x1 x2 x3
        go_wp2
        have HS7 := Lib.hid HS6.out
        go_roundw
        case rel => exact ⟨k + 1, sB, yB, by omega, rfl, rfl, by go_num, R1.out, R2.out, R.out, HS7.out.sub (by simp)⟩
        case measure => simp [intOf]; omega
       | true =>
        have R1 := Lib.hid (show true = (zl.take (k + 1)).any impB by rw [hN1, Bool.or_true])
        cases cC with
        | true =>
         have R2 := Lib.hid (show true = (zl.take (k + 1)).any (fun x => impB x && consB x) by rw [hN2]; simp)
         have R := Lib.hid (hN (by simp))
         clear hN1 hN2 hY hN HSB HYB HD5
         obtain ⟨x1, x2, x3⟩ := kE0 (HY.out _ HS.out.below) rfl rfl rfl
         go_wp2_with fail
         refine (HI.out _).mono ?_
         rintro e w6 ⟨rfl, hb6⟩
         have HS6 := Lib.hid (HS.out.call hb6)
         clear hb6 HS
         clear x1 x2 x3
         go_wp2
         refine wp_region_eq 9 [.pointer (some ⟨w.heap.size, 3, none⟩), .slice (some ⟨b, o, none⟩) l.length c, .int .i64 (k : Nat), .pointer (some ⟨b, o + k * 11, none⟩), .agg #[.int .i64 u.rank, .bool u.tn, .string (bs u.ta), .string (bs u.tb), .bool u.fn, .string (bs u.fa), .string (bs u.fb), .bool u.kn, .string (bs u.ka), .string (bs u.kb), .bool u.acc], .slice (some ⟨rb, ro, none⟩) l.length rc, .int .i64 (k : Nat), .pointer (some ⟨rb, ro + k * 3, none⟩), .agg #[.bool t.n, .string (bs t.a), .string (bs t.b)]] rfl (by kernel_rfl) (by kernel_rfl) (by kernel_rfl) ?_ ?_
         refine ⟨?_, ?_, ?_, ?_, ?_, ?_, ?_, ?_, ?_, trivial⟩
         ·intro xx af wv hbx hev hev0 hd; have e2 : af.tmps[2]?.getD undef = .pointer (some ⟨w.heap.size, 0, none⟩) := hev0 2 rfl; clear hev hev0 hd; go_wp2; exact sQ rfl
         ·intro xx af wv hbx hev hev0 hd; have e56 := (hev 0 _ 56 rfl rfl).trans (hd ⟨0, .data⟩ (by simp) rfl); clear hev hev0 hd; have hs1 := Lib.hid (HS6.out.call hbx); have y0 := hs1.out.cell 1 rfl 3 rfl; go_wp2; exact sQ rfl
         ·intro xx af wv hbx hev hev0 hd; have e11 : af.tmps[11]?.getD undef = .int .i64 (k : Nat) := hev0 11 rfl; clear hev hev0 hd; go_wp2; exact sQ rfl
         ·intro xx af wv hbx hev hev0 hd; have e57 := (hev 1 _ 57 rfl rfl).trans (hd ⟨1, .data⟩ (by simp) rfl); have e58 := (hev 2 _ 58 rfl rfl).trans (hd ⟨2, .data⟩ (by simp) rfl); clear hev hev0 hd; go_wp2; exact sQ rfl
         ·intro xx af wv hbx hev hev0 hd; have e59 := (hev 3 _ 59 rfl rfl).trans (hd ⟨3, .data⟩ (by simp) rfl); clear hev hev0 hd; have hs1 := Lib.hid (HS6.out.call hbx); obtain ⟨y0, y1, y2, y3, y4, y5, y6, y7, y8, y9, y10⟩ := kE (HX.out _ hs1.out.below) rfl rfl rfl rfl rfl rfl rfl rfl rfl rfl rfl; go_wp2; exact sQ rfl
         ·intro xx af wv hbx hev hev0 hd; have e1 : af.tmps[1]?.getD undef = .slice (some ⟨rb, ro, none⟩) l.length rc := hev0 1 rfl; clear hev hev0 hd; go_wp2; exact sQ rfl
         ·intro xx af wv hbx hev hev0 hd; have e11 : af.tmps[11]?.getD undef = .int .i64 (k : Nat) := hev0 11 rfl; clear hev hev0 hd; go_wp2; exact sQ rfl
         ·intro xx af wv hbx hev hev0 hd; have e61 := (hev 5 _ 61 rfl rfl).trans (hd ⟨5, .data⟩ (by simp) rfl); have e62 := (hev 6 _ 62 rfl rfl).trans (hd ⟨6, .data⟩ (by simp) rfl); clear hev hev0 hd; go_wp2; exact sQ rfl
         ·intro xx af wv hbx hev hev0 hd; have e63 := (hev 7 _ 63 rfl rfl).trans (hd ⟨7, .data⟩ (by simp) rfl); clear hev hev0 hd; have hs1 := Lib.hid (HS6.out.call hbx); obtain ⟨y0, y1, y2⟩ := kE0 (HY.out _ hs1.out.below) rfl rfl rfl; go_wp2; exact sQ rfl
         intro xx w7 hb9 hv
         simp only [List.take, List.drop, fillA, Act.put]
         simp only [show xx 0 = _ from hv 0 (by decide), show xx 1 = _ from hv 1 (by decide), show xx 2 = _ from hv 2 (by decide), show xx 3 = _ from hv 3 (by decide), show xx 4 = _ from hv 4 (by decide), show xx 5 = _ from hv 5 (by decide), show xx 6 = _ from hv 6 (by decide), show xx 7 = _ from hv 7 (by decide), show xx 8 = _ from hv 8 (by decide)]
         clear hv
         have HS7 := Lib.hid (HS6.out.call hb9)
         clear hb9 HS6
         go_wp2_with fail
         refine (HA.out _).mono ?_
         rintro e w8 ⟨rfl, hb8⟩
         have HS8 := Lib.hid (HS7.out.call hb8)
         clear hb8 HS7
         go_wp2
         have HS9 := Lib.hid HS8.out
         go_roundw
         case rel => exact ⟨k + 1, true, true, by omega, rfl, rfl, by go_num, R1.out, R2.out, R.out, HS9.out.sub (by simp)⟩
         case measure => simp [intOf]; omega
        | false =>
         have R2 := Lib.hid (show yB = (zl.take (k + 1)).any (fun x => impB x && consB x) by rw [hN2]; simp)
         clear hN1 hN2 HSB HYB HD5
         by_cases hs0 : s = 0
         ·subst hs0
          have q1 : IntKind.i64.wrap (((k : Nat) : Int) + 1) = ((k : Nat) : Int) + 1 := IntWalk.i64_in _ (by omega)
          have HY9 := Lib.hid (fun (h : (zl.drop (k + 1)).any (fun y => decide (0 < sgn y.2.num)) = true) => HE2.out _ HB.out (hY (by rw [h]; rfl)))
          have HN9 := Lib.hid (fun (h : (zl.drop (k + 1)).any (fun y => decide (0 < sgn y.2.num)) = false) => hN (by rw [h]; rfl))
          clear hY hN
          obtain ⟨x1, x2, x3⟩ := kE0 (HY.out _ HS.out.below) rfl rfl rfl
          go_wp2_with fail
          refine (HI.out _).mono ?_
          rintro e w6 ⟨rfl, hb6⟩
          have HS6 := Lib.hid (HS.out.call hb6)
          clear hb6 HS
          clear x1 x2 x3
          go_wp2
          refine wp_region_eq 9 [.pointer (some ⟨w.heap.size, 3, none⟩), .slice (some ⟨b, o, none⟩) l.length c, .int .i64 (k : Nat), .pointer (some ⟨b, o + k * 11, none⟩), .agg #[.int .i64 u.rank, .bool u.tn, .string (bs u.ta), .string (bs u.tb), .bool u.fn, .string (bs u.fa), .string (bs u.fb), .bool u.kn, .string (bs u.ka), .string (bs u.kb), .bool u.acc], .slice (some ⟨rb, ro, none⟩) l.length rc, .int .i64 (k : Nat), .pointer (some ⟨rb, ro + k * 3, none⟩), .agg #[.bool t.n, .string (bs t.a), .string (bs t.b)]] rfl (by kernel_rfl) (by kernel_rfl) (by kernel_rfl) ?_ ?_
          refine ⟨?_, ?_, ?_, ?_, ?_, ?_, ?_, ?_, ?_, trivial⟩
          ·intro xx af wv hbx hev hev0 hd; have e2 : af.tmps[2]?.getD undef = .pointer (some ⟨w.heap.size, 0, none⟩) := hev0 2 rfl; clear hev hev0 hd; go_wp2; exact sQ rfl
          ·intro xx af wv hbx hev hev0 hd; have e56 := (hev 0 _ 56 rfl rfl).trans (hd ⟨0, .data⟩ (by simp) rfl); clear hev hev0 hd; have hs1 := Lib.hid (HS6.out.call hbx); have y0 := hs1.out.cell 1 rfl 3 rfl; go_wp2; exact sQ rfl
          ·intro xx af wv hbx hev hev0 hd; have e11 : af.tmps[11]?.getD undef = .int .i64 (k : Nat) := hev0 11 rfl; clear hev hev0 hd; go_wp2; exact sQ rfl
          ·intro xx af wv hbx hev hev0 hd; have e57 := (hev 1 _ 57 rfl rfl).trans (hd ⟨1, .data⟩ (by simp) rfl); have e58 := (hev 2 _ 58 rfl rfl).trans (hd ⟨2, .data⟩ (by simp) rfl); clear hev hev0 hd; go_wp2; exact sQ rfl
          ·intro xx af wv hbx hev hev0 hd; have e59 := (hev 3 _ 59 rfl rfl).trans (hd ⟨3, .data⟩ (by simp) rfl); clear hev hev0 hd; have hs1 := Lib.hid (HS6.out.call hbx); obtain ⟨y0, y1, y2, y3, y4, y5, y6, y7, y8, y9, y10⟩ := kE (HX.out _ hs1.out.below) rfl rfl rfl rfl rfl rfl rfl rfl rfl rfl rfl; go_wp2; exact sQ rfl
          ·intro xx af wv hbx hev hev0 hd; have e1 : af.tmps[1]?.getD undef = .slice (some ⟨rb, ro, none⟩) l.length rc := hev0 1 rfl; clear hev hev0 hd; go_wp2; exact sQ rfl
          ·intro xx af wv hbx hev hev0 hd; have e11 : af.tmps[11]?.getD undef = .int .i64 (k : Nat) := hev0 11 rfl; clear hev hev0 hd; go_wp2; exact sQ rfl
          ·intro xx af wv hbx hev hev0 hd; have e61 := (hev 5 _ 61 rfl rfl).trans (hd ⟨5, .data⟩ (by simp) rfl); have e62 := (hev 6 _ 62 rfl rfl).trans (hd ⟨6, .data⟩ (by simp) rfl); clear hev hev0 hd; go_wp2; exact sQ rfl
          ·intro xx af wv hbx hev hev0 hd; have e63 := (hev 7 _ 63 rfl rfl).trans (hd ⟨7, .data⟩ (by simp) rfl); clear hev hev0 hd; have hs1 := Lib.hid (HS6.out.call hbx); obtain ⟨y0, y1, y2⟩ := kE0 (HY.out _ hs1.out.below) rfl rfl rfl; go_wp2; exact sQ rfl
          intro xx w7 hb9 hv
          simp only [List.take, List.drop, fillA, Act.put]
          simp only [show xx 0 = _ from hv 0 (by decide), show xx 1 = _ from hv 1 (by decide), show xx 2 = _ from hv 2 (by decide), show xx 3 = _ from hv 3 (by decide), show xx 4 = _ from hv 4 (by decide), show xx 5 = _ from hv 5 (by decide), show xx 6 = _ from hv 6 (by decide), show xx 7 = _ from hv 7 (by decide), show xx 8 = _ from hv 8 (by decide)]
          clear hv
          have HS7 := Lib.hid (HS6.out.call hb9)
          clear hb9 HS6
          go_wp2_with fail
          refine (HA.out _).mono ?_
          rintro e w8 ⟨rfl, hb8⟩
          have HS8 := Lib.hid (HS7.out.call hb8)
          clear hb8 HS7
          obtain ⟨x4, x5, x6⟩ := HS8.out.k0 0 rfl rfl rfl rfl
          go_wp2_with fail
          refine (HSG.out _).mono ?_
          rintro e w9 ⟨rfl, hb9⟩
          have HS9 := Lib.hid (HS8.out.call hb9)
          clear hb9 HS8
          clear x4 x5 x6
          go_wp2
          have HS10 := Lib.hid HS9.out
          go_loopw [12] (fun i wr => ∃ j : Nat, k + 1 ≤ j ∧ j ≤ l.length ∧ i = .int .i64 j ∧ Hid (((zl.take j).drop (k + 1)).any (fun y => decide (0 < sgn y.2.num)) = false) ∧ Hid (St w [⟨w3.heap.size, #[.bool (negB (cq)), .string (bs (numB (cq))), .string (bs (denomB (cq)))], 25⟩, ⟨w.heap.size, #[.bool vn, .string (bs va), .string (bs vb), .slice (some ⟨b, o, none⟩) l.length c], 28⟩] wr)) (fun i _ => l.length - (intOf i).toNat)
          case atStart => exact ⟨k + 1, Nat.le_refl _, hlt, by go_num, by show _ = _; rw [List.drop_take]; simp, HS10.out⟩
          case round =>
           clear HS10
           obtain ⟨j, hkj, hj, rfl, HNO, HT⟩ := hrel
           by_cases hlj : j < l.length
           ·obtain ⟨rb2, ro2, t2, he, hbr2, hqt2, hy2⟩ := HR.out.at_ (show j < rs.length by have := HLEN.out; omega)
            have hb2 : rb = rb2 := by simp at he; omega
            have ho2 : ro = ro2 := by simp at he; omega
            subst hb2
            subst ho2
            obtain ⟨u2, hu2⟩ : ∃ u2, l[j]? = some u2 := ⟨_, List.getElem?_eq_getElem hlj⟩
            have hot2 := HOR.out t2 (List.mem_of_getElem? hqt2)
            have hstep := any_part (p := fun y : Blc × Rat => decide (0 < sgn y.2.num)) (HZ.out j u2 t2 hu2 hqt2) hkj
            rw [HNO.out, Bool.false_or] at hstep
            dsimp only at hstep
            have hyes := any_yes (p := fun y : Blc × Rat => decide (0 < sgn y.2.num)) (HZ.out j u2 t2 hu2 hqt2) hkj
            dsimp only at hyes
            have hSS := fun W => ref_Sign t2.n t2.a t2.b W (by omega) (by omega)
            change ∀ W, Calls Tryz.prog _ _ W (fun e w' => e = .returned (.int .i64 (sgn t2.val.num)) ∧ _) at hSS
            generalize sgn t2.val.num = d2 at *
            unfold raw at hSS
            have HSS := Lib.hid hSS
            have HY2 := Lib.hid hy2
            have e2 : (0 : Int) ≤ ((j : Nat) : Int) := by omega
            have e3 : ((j : Nat) : Int) < (l.length : Int) := by omega
            clear he hu2 hqt2 hot2 hSS hy2 HNO hbr2
            by_cases hd2 : 0 < d2
            ·have d3 : decide (0 < d2) = true := decide_eq_true hd2
             have R9 := Lib.hid (HY9.out (hyes d3))
             clear hyes hstep hd2
             obtain ⟨x7, x8, x9⟩ := kE0 (HY2.out _ HT.out.below) rfl rfl rfl
             go_wp2_with fail
             refine (HSS.out _).mono ?_
             rintro e w11 ⟨rfl, hb11⟩
             have HT11 := Lib.hid (HT.out.call hb11)
             clear hb11 HT
             clear x7 x8 x9
             go_wp2
             have HT12 := Lib.hid HT11.out
             go_ret2
             rw [R9.out]
             exact ⟨rfl, HT12.out.below⟩
            ·have d3 : decide (0 < d2) = false := decide_eq_false hd2
             have R9 := Lib.hid (hstep.trans d3)
             clear hyes hstep hd2
             obtain ⟨x7, x8, x9⟩ := kE0 (HY2.out _ HT.out.below) rfl rfl rfl
             go_wp2_with fail
             refine (HSS.out _).mono ?_
             rintro e w11 ⟨rfl, hb11⟩
             have HT11 := Lib.hid (HT.out.call hb11)
             clear hb11 HT
             clear x7 x8 x9
             go_wp2
             have HT12 := Lib.hid HT11.out
             go_roundw
             case rel => exact ⟨j + 1, by omega, by omega, by go_num, R9.out, HT12.out.sub (by simp)⟩
             case measure => simp [intOf]; omega
           ·obtain rfl : j = l.length := by omega
            have R : Hid (dd = (dissentAt cq (zl.drop (k + 1))).map (· + (k + 1))) := by
             have := HNO.out
             rw [← HZL.out, List.take_length] at this
             exact HN9.out this
            go_wp2
            have HT11 := Lib.hid HT.out
            go_roundw
            case rel => exact ⟨k + 1, true, yB, by omega, rfl, rfl, by go_num, R1.out, R2.out, R.out, HT11.out.sub (by simp)⟩
            case measure => simp [intOf]; omega
         ·have q2 : (s == 0) = false := beq_eq_false_iff_ne.2 hs0
          have q3 : (s != 0) = true := by rw [bne, q2]; rfl
          have R := Lib.hid (HE2.out _ HB.out (hY (by rw [q2]; simp)))
          clear hY hN
          obtain ⟨x1, x2, x3⟩ := kE0 (HY.out _ HS.out.below) rfl rfl rfl
          go_wp2_with fail
          refine (HI.out _).mono ?_
          rintro e w6 ⟨rfl, hb6⟩
          have HS6 := Lib.hid (HS.out.call hb6)
          clear hb6 HS
          clear x1 x2 x3
          go_wp2
          refine wp_region_eq 9 [.pointer (some ⟨w.heap.size, 3, none⟩), .slice (some ⟨b, o, none⟩) l.length c, .int .i64 (k : Nat), .pointer (some ⟨b, o + k * 11, none⟩), .agg #[.int .i64 u.rank, .bool u.tn, .string (bs u.ta), .string (bs u.tb), .bool u.fn, .string (bs u.fa), .string (bs u.fb), .bool u.kn, .string (bs u.ka), .string (bs u.kb), .bool u.acc], .slice (some ⟨rb, ro, none⟩) l.length rc, .int .i64 (k : Nat), .pointer (some ⟨rb, ro + k * 3, none⟩), .agg #[.bool t.n, .string (bs t.a), .string (bs t.b)]] rfl (by kernel_rfl) (by kernel_rfl) (by kernel_rfl) ?_ ?_
          refine ⟨?_, ?_, ?_, ?_, ?_, ?_, ?_, ?_, ?_, trivial⟩
          ·intro xx af wv hbx hev hev0 hd; have e2 : af.tmps[2]?.getD undef = .pointer (some ⟨w.heap.size, 0, none⟩) := hev0 2 rfl; clear hev hev0 hd; go_wp2; exact sQ rfl
          ·intro xx af wv hbx hev hev0 hd; have e56 := (hev 0 _ 56 rfl rfl).trans (hd ⟨0, .data⟩ (by simp) rfl); clear hev hev0 hd; have hs1 := Lib.hid (HS6.out.call hbx); have y0 := hs1.out.cell 1 rfl 3 rfl; go_wp2; exact sQ rfl
          ·intro xx af wv hbx hev hev0 hd; have e11 : af.tmps[11]?.getD undef = .int .i64 (k : Nat) := hev0 11 rfl; clear hev hev0 hd; go_wp2; exact sQ rfl
          ·intro xx af wv hbx hev hev0 hd; have e57 := (hev 1 _ 57 rfl rfl).trans (hd ⟨1, .data⟩ (by simp) rfl); have e58 := (hev 2 _ 58 rfl rfl).trans (hd ⟨2, .data⟩ (by simp) rfl); clear hev hev0 hd; go_wp2; exact sQ rfl
          ·intro xx af wv hbx hev hev0 hd; have e59 := (hev 3 _ 59 rfl rfl).trans (hd ⟨3, .data⟩ (by simp) rfl); clear hev hev0 hd; have hs1 := Lib.hid (HS6.out.call hbx); obtain ⟨y0, y1, y2, y3, y4, y5, y6, y7, y8, y9, y10⟩ := kE (HX.out _ hs1.out.below) rfl rfl rfl rfl rfl rfl rfl rfl rfl rfl rfl; go_wp2; exact sQ rfl
          ·intro xx af wv hbx hev hev0 hd; have e1 : af.tmps[1]?.getD undef = .slice (some ⟨rb, ro, none⟩) l.length rc := hev0 1 rfl; clear hev hev0 hd; go_wp2; exact sQ rfl
          ·intro xx af wv hbx hev hev0 hd; have e11 : af.tmps[11]?.getD undef = .int .i64 (k : Nat) := hev0 11 rfl; clear hev hev0 hd; go_wp2; exact sQ rfl
          ·intro xx af wv hbx hev hev0 hd; have e61 := (hev 5 _ 61 rfl rfl).trans (hd ⟨5, .data⟩ (by simp) rfl); have e62 := (hev 6 _ 62 rfl rfl).trans (hd ⟨6, .data⟩ (by simp) rfl); clear hev hev0 hd; go_wp2; exact sQ rfl
          ·intro xx af wv hbx hev hev0 hd; have e63 := (hev 7 _ 63 rfl rfl).trans (hd ⟨7, .data⟩ (by simp) rfl); clear hev hev0 hd; have hs1 := Lib.hid (HS6.out.call hbx); obtain ⟨y0, y1, y2⟩ := kE0 (HY.out _ hs1.out.below) rfl rfl rfl; go_wp2; exact sQ rfl
          intro xx w7 hb9 hv
          simp only [List.take, List.drop, fillA, Act.put]
          simp only [show xx 0 = _ from hv 0 (by decide), show xx 1 = _ from hv 1 (by decide), show xx 2 = _ from hv 2 (by decide), show xx 3 = _ from hv 3 (by decide), show xx 4 = _ from hv 4 (by decide), show xx 5 = _ from hv 5 (by decide), show xx 6 = _ from hv 6 (by decide), show xx 7 = _ from hv 7 (by decide), show xx 8 = _ from hv 8 (by decide)]
          clear hv
          have HS7 := Lib.hid (HS6.out.call hb9)
          clear hb9 HS6
          go_wp2_with fail
          refine (HA.out _).mono ?_
          rintro e w8 ⟨rfl, hb8⟩
          have HS8 := Lib.hid (HS7.out.call hb8)
          clear hb8 HS7
          obtain ⟨x4, x5, x6⟩ := HS8.out.k0 0 rfl rfl rfl rfl
          go_wp2_with fail
          refine (HSG.out _).mono ?_
          rintro e w9 ⟨rfl, hb9⟩
          have HS9 := Lib.hid (HS8.out.call hb9)
          clear hb9 HS8
          clear x4 x5 x6
          go_wp2
          have HS10 := Lib.hid HS9.out
          go_ret2
          rw [R.out]
          exact ⟨rfl, HS10.out.below⟩
      ·obtain rfl : k = l.length := by omega
       have hR : dd = none := by have := HD5.out; rw [← HZL.out] at this; exact HES.out this
       have hE := HE3.out HB.out hR
       have hcc : cB = (!sB || yB) := by have h1 := HSB.out; have h2 := HYB.out; rw [← HZL.out, List.take_length] at h1 h2; rw [h1, h2]; exact HCAR.out
       subst hcc
       clear HSB HYB HD5 hR
       cases sB with
       | false =>
        have R := Lib.hid (show ans = (-1, 0) by rw [hE]; rfl)
        clear hE
        go_wp2
        have HS6 := Lib.hid HS.out
        go_ret2
        rw [R.out]
        exact ⟨rfl, HS6.out.below⟩
       | true =>
        cases yB with
        | true =>
         have R := Lib.hid (show ans = (-1, 0) by rw [hE]; rfl)
         clear hE
         go_wp2
         have HS6 := Lib.hid HS.out
         go_ret2
         rw [R.out]
         exact ⟨rfl, HS6.out.below⟩
        | false =>
         have R := Lib.hid (show ans = (-1, 48) by rw [hE]; rfl)
         clear hE
         go_wp2
         have HS6 := Lib.hid HS.out
         go_ret2
         rw [R.out]
         exact ⟨rfl, HS6.out.below⟩
end Go.Proofs.YtcllocdhbicpkaaGreatDoor
