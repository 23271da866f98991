/-
Can a plan be confirmed: the program's Confirm (printed by gen_pln8.py).
-/
import Derived.Test.YtcllocdhbicpkaaGreatDoorPlnP
import Derived.Test.YtcllocdhbicpkaaGreatDoorPlnS
namespace Go.Proofs.YtcllocdhbicpkaaGreatDoor
open Go.RowKit

theorem resid_fits {value : Rat} {l : List Blc} {rs : List Rtr} (hv : Sized 1000000 value) (hok : SmallBl 1000000 l) (hrs : SmallT 1000000 rs) (h : (residR value l (rs.map Rtr.val)).2 = 0) :
  rs.length = l.length ∧ l.length ≤ 16 ∧ Sized 17179869184 (residR value l (rs.map Rtr.val)).1 := by
 obtain ⟨h1, h2, _, h3⟩ := residR_ok h
 have h16 := (checkVn_zero h1).2.1
 rw [List.length_map] at h2
 refine ⟨h2, h16, ?_⟩
 rw [h3]
 show Sized _ (resid value (l.zip (rs.map Rtr.val)))
 rw [← residTo_end]
 have hzl : (l.zip (rs.map Rtr.val)).length = l.length := by rw [List.length_zip, List.length_map]; omega
 exact (residTo_sized hv (fun x hx => by
  obtain ⟨h1, h2⟩ := mem_zip hx
  obtain ⟨t, ht, e⟩ := List.mem_map.1 h2
  exact ⟨hok.total (by decide) h1, by rw [← e]; exact hrs.val (by decide) ht⟩) _ (Nat.le_refl _)).mono (by rw [hzl]; omega)
def confTail (c : Rat) (zl : List (Blc × Rat)) : Int × Int :=
 match belowAt zl with
 | some i => ((i : Nat), 47)
 | none => match dissentAt c zl with
  | some i => ((i : Nat), 18)
  | none => if carriedB zl then (-1, 0) else (-1, 48)
theorem conf_def (value : Rat) (l : List Blc) (rs : List Rat) : confR value l rs = if (residR value l rs).2 ≠ 0 then (-1, (residR value l rs).2) else if sgn (residR value l rs).1.num < 0 then (-1, 46) else confTail (residR value l rs).1 (l.zip rs) := rfl
theorem confTail_below {c : Rat} {zl : List (Blc × Rat)} {i : Nat} (h : belowAt zl = some i) : confTail c zl = (((i : Nat) : Int), 47) := by unfold confTail; rw [h]
theorem confTail_dissent {c : Rat} {zl : List (Blc × Rat)} {i : Nat} (h : belowAt zl = none) (h2 : dissentAt c zl = some i) : confTail c zl = (((i : Nat) : Int), 18) := by unfold confTail; rw [h, h2]
theorem confTail_end {c : Rat} {zl : List (Blc × Rat)} (h : belowAt zl = none) (h2 : dissentAt c zl = none) : confTail c zl = if carriedB zl then (-1, 0) else (-1, 48) := by unfold confTail; rw [h, h2]

set_option maxRecDepth 100000 in
set_option maxHeartbeats 2000000 in
theorem plan_Confirm (vn : Bool) (va vb : List UInt8) (v : Value) (l : List Blc) (rv : Value) (rs : List Rtr) (w : World) (h : BlocsL w v l) (hr : RatsL w rv rs) (hok : SmallBl 1000000 l) (hrs : SmallT 1000000 rs) (lva : va.length ≤ 1000000) (lvb : vb.length ≤ 1000000) :
  Calls Tryz.prog 19 #[.agg #[.bool vn, .string (bs va), .string (bs vb), v], rv] w fun e w' => e = .returned (.tuple #[.int .i64 (confR (decR vn va vb) l (rs.map Rtr.val)).1, .int .i64 (confR (decR vn va vb) l (rs.map Rtr.val)).2]) ∧ Below w.heap.size w w' := by
 have hD := fun W (hb : Below w.heap.size w W) => plan_Residue vn va vb v l rv rs W (h.below hb) (hr.below hb) hok hrs lva lvb
 have hdef := conf_def (decR vn va vb) l (rs.map Rtr.val)
 have hfit := resid_fits (value := decR vn va vb) (sized_dec lva lvb (by decide)) hok hrs
 have hT := fun (hlen : rs.length = l.length) cn ca cb W (hb : Below w.heap.size w W) lca lcb => plan_statute vn va vb v l rv rs W cn ca cb (h.below hb) (hr.below hb) hok hrs hlen lca lcb
 have hK := fun (hlen : rs.length = l.length) W (hb : Below w.heap.size w W) => plan_carried vn va vb v l rv rs W (h.below hb) (hr.below hb) hok hrs hlen
 have hzat : ∀ (k : Nat) (u : Blc) (t : Rtr), l[k]? = some u → rs[k]? = some t → (l.zip (rs.map Rtr.val))[k]? = some (u, t.val) := fun k u t hu ht => zip_at hu (by rw [List.getElem?_map, ht]; rfl)
 have hzl : rs.length = l.length → (l.zip (rs.map Rtr.val)).length = l.length := fun hlen => by rw [List.length_zip, List.length_map]; omega
 have hnb : ∀ n : Int, n ≠ 0 → (n == 0) = false ∧ (n != 0) = true := fun n h => ⟨beq_eq_false_iff_ne.2 h, by rw [bne, beq_eq_false_iff_ne.2 h]; rfl⟩
 generalize residR (decR vn va vb) l (rs.map Rtr.val) = res at *
 generalize confR (decR vn va vb) l (rs.map Rtr.val) = ans at *
 generalize l.zip (rs.map Rtr.val) = zl at *
 obtain ⟨cq, n⟩ := res
 dsimp only at hD hdef hfit
 have H := Lib.hid h
 have HR := Lib.hid hr
 have HOK := Lib.hid hok
 have HOR := Lib.hid hrs
 obtain ⟨A, c, rfl, hl, hc⟩ := h.slice
 obtain ⟨RA, rc, rfl, hrl, hrc⟩ := hr.slice
 unfold rat raw at hD
 clear h hr hok hrs lva lvb
 by_cases h0 : n ≠ 0
 ·rw [if_pos h0] at hdef
  have R := Lib.hid hdef
  have d1 := (hnb n h0).1
  have d2 := (hnb n h0).2
  have HD := Lib.hid hD
  clear hD hdef hfit hzat hzl hnb hT hK
  go_enter Tryz.func19, Tryz.ntmps19
  have HS := Lib.hid (St.start w)
  go_wp2_with fail
  have HS2 := Lib.hid (St.alloc (HS.out) #[.bool vn, .string (bs va), .string (bs vb), .slice A l.length c] 28 (w.heap.size) (by simp))
  refine (HD.out _ HS2.out.below).mono ?_
  rintro e w3 ⟨rfl, hb3⟩
  have HS3 := Lib.hid (HS2.out.call hb3)
  clear hb3 HS HS2
  go_wp2
  have HS4 := Lib.hid (St.alloc (HS3.out) #[.bool (negB (cq)), .string (bs (numB (cq))), .string (bs (denomB (cq)))] 25 (w3.heap.size) (by simp))
  go_ret2
  rw [R.out]
  exact ⟨rfl, HS4.out.below⟩
 ·have h0 : n = 0 := Classical.not_not.1 h0
  subst h0
  obtain ⟨hlen, h16, hcs⟩ := hfit rfl
  rw [if_neg (by decide)] at hdef
  have hzl := hzl hlen
  have hSg := fun W => rational_Sign (negB cq) (numB cq) (denomB cq) W (Nat.le_trans hcs.num (by decide)) (Nat.le_trans hcs.denom (by decide))
  change ∀ W, Calls Tryz.prog _ _ W (fun e w' => e = .returned (.int .i64 (sgn (decR (negB cq) (numB cq) (denomB cq)).num)) ∧ _) at hSg
  rw [show decR (negB cq) (numB cq) (denomB cq) = cq from dec_enc _] at hSg
  unfold raw at hSg
  have HSG := Lib.hid hSg
  have HD := Lib.hid hD
  clear hSg hD hnb
  have HLEN := Lib.hid hlen
  have HZL := Lib.hid hzl
  have HZ := Lib.hid hzat
  have HT := Lib.hid (hT hlen (negB cq) (numB cq) (denomB cq))
  have HK := Lib.hid (hK hlen)
  clear hT hK hzat hzl hfit
  generalize rs.length = m at hlen hrl HR HD HT HK ⊢
  subst hlen
  rw [show decR (negB cq) (numB cq) (denomB cq) = cq from dec_enc _] at HT
  have HT2 : Hid (∀ W, Below w.heap.size w W → Calls Tryz.prog _ _ W (fun e w' => e = .returned (.int .i64 (optI (dissentAt cq zl))) ∧ Below W.heap.size W w')) := fun W hb => HT.out W hb hcs.num hcs.denom
  clear HT hcs
  by_cases hs : sgn cq.num < 0
  ·rw [if_pos hs] at hdef
   have R := Lib.hid hdef
   have d1 : decide (sgn cq.num < 0) = true := decide_eq_true hs
   generalize sgn cq.num = s at *
   clear hdef hs HT2 HK HZ
   go_enter Tryz.func19, Tryz.ntmps19
   have HS := Lib.hid (St.start w)
   go_wp2_with fail
   have HS2 := Lib.hid (St.alloc (HS.out) #[.bool vn, .string (bs va), .string (bs vb), .slice A l.length c] 28 (w.heap.size) (by simp))
   refine (HD.out _ HS2.out.below).mono ?_
   rintro e w3 ⟨rfl, hb3⟩
   have HS3 := Lib.hid (HS2.out.call hb3)
   clear hb3 HS HS2
   go_wp2_with fail
   have HS4 := Lib.hid (St.alloc (HS3.out) #[.bool (negB (cq)), .string (bs (numB (cq))), .string (bs (denomB (cq)))] 25 (w3.heap.size) (by simp))
   refine (HSG.out _).mono ?_
   rintro e w5 ⟨rfl, hb5⟩
   have HS5 := Lib.hid (HS4.out.call hb5)
   clear hb5 HS3 HS4
   go_wp2
   have HS6 := Lib.hid HS5.out
   go_ret2
   rw [R.out]
   exact ⟨rfl, HS6.out.below⟩
  ·rw [if_neg hs] at hdef
   have d1 : decide (sgn cq.num < 0) = false := decide_eq_false hs
   generalize sgn cq.num = s at *
   have hbs := below_start zl
   have hby := fun k x => @below_yes zl k x
   have hbn := fun k x => @below_no zl k x
   have hbe := @below_end zl
   have h1 := fun i => @confTail_below cq zl i
   have h2 := fun i => @confTail_dissent cq zl i
   have h3 := @confTail_end cq zl
   rw [← hdef] at h1 h2 h3
   generalize belowAt zl = bl at *
   generalize dissentAt cq zl = dd at *
   generalize carriedB zl = cB at *
   have HBY := Lib.hid hby
   have HBN := Lib.hid hbn
   have HBE := Lib.hid hbe
   have HBS := Lib.hid hbs
   have HE1 := Lib.hid h1
   have HE2 := Lib.hid h2
   have HE3 := Lib.hid h3
   clear hdef hs hbs hby hbn hbe h1 h2 h3
   go_enter Tryz.func19, Tryz.ntmps19
   have HS := Lib.hid (St.start w)
   go_wp2_with fail
   have HS2 := Lib.hid (St.alloc (HS.out) #[.bool vn, .string (bs va), .string (bs vb), .slice A l.length c] 28 (w.heap.size) (by simp))
   refine (HD.out _ HS2.out.below).mono ?_
   rintro e w3 ⟨rfl, hb3⟩
   have HS3 := Lib.hid (HS2.out.call hb3)
   clear hb3 HS HS2
   go_wp2_with fail
   have HS4 := Lib.hid (St.alloc (HS3.out) #[.bool (negB (cq)), .string (bs (numB (cq))), .string (bs (denomB (cq)))] 25 (w3.heap.size) (by simp))
   refine (HSG.out _).mono ?_
   rintro e w5 ⟨rfl, hb5⟩
   have HS5 := Lib.hid (HS4.out.call hb5)
   clear hb5 HS3 HS4
   have x1 := HS5.out.cell 1 rfl 3 rfl
   go_wp2
   go_loopw [26] (fun i wr => ∃ k : Nat, k ≤ l.length ∧ i = .int .i64 k ∧ Hid (bl = (belowAt (zl.drop k)).map (· + k)) ∧ Hid (St w [⟨w3.heap.size, #[.bool (negB (cq)), .string (bs (numB (cq))), .string (bs (denomB (cq)))], 25⟩, ⟨w.heap.size, #[.bool vn, .string (bs va), .string (bs vb), .slice A l.length c], 28⟩] wr)) (fun i _ => l.length - (intOf i).toNat)
   case atStart => exact ⟨0, Nat.zero_le _, rfl, HBS.out, HS5.out⟩
   case round =>
    clear HS5 HBS
    obtain ⟨k, hk, rfl, HB, HS⟩ := hrel
    by_cases hlt : k < l.length
    ·obtain ⟨b, o, u, rfl, hbb, hq, hx⟩ := H.out.at_ hlt
     obtain ⟨rb, ro, t, rfl, hbr, hqt, hy⟩ := HR.out.at_ (show k < rs.length by have := HLEN.out; omega)
     have ho := HOK.out u (List.mem_of_getElem? hq)
     have hot := HOR.out t (List.mem_of_getElem? hqt)
     have hz := HZ.out k u t hq hqt
     have hC := fun W => rational_Compare t.n t.a t.b u.fn u.fa u.fb W (by omega) (by omega) (Nat.le_trans ho.2.1.1 (by decide)) (Nat.le_trans ho.2.1.2 (by decide))
     change ∀ W, Calls Tryz.prog _ _ W (fun e w' => e = .returned (.int .i64 (sgn (t.val - u.floor).num)) ∧ _) at hC
     have hY := HBY.out k _ HB.out hz
     have hN := HBN.out k _ HB.out hz
     try dsimp only at hY hN
     generalize sgn (t.val - u.floor).num = d at *
     unfold raw at hC
     have HC := Lib.hid hC
     have HX := Lib.hid hx
     have HY := Lib.hid hy
     have e0 : (0 : Int) ≤ ((k : Nat) : Int) := by omega
     have e1 : ((k : Nat) : Int) < (l.length : Int) := by omega
     clear hC hx hy hq hqt ho hot hz
     by_cases hd : d < 0
     ·have d2 : decide (d < 0) = true := decide_eq_true hd
      have R := Lib.hid (HE1.out _ (hY hd))
      clear hY hN hd
      have x2 : b < wr.heap.size := Nat.lt_of_lt_of_le hbb HS.out.below.size
      have x3 : ¬ b = wr.heap.size := by omega
      obtain ⟨x4, x5, x6, x7, x8, x9, x10, x11, x12, x13, x14⟩ := kE (HX.out _ HS.out.below) rfl rfl rfl rfl rfl rfl rfl rfl rfl rfl rfl
      go_wp2
      clear x2 x3 x4 x5 x6 x7 x8 x9 x10 x11 x12 x13 x14
      have HS6 := Lib.hid (St.alloc (HS.out) #[.int .i64 u.rank, .bool u.tn, .string (bs u.ta), .string (bs u.tb), .bool u.fn, .string (bs u.fa), .string (bs u.fb), .bool u.kn, .string (bs u.ka), .string (bs u.kb), .bool u.acc] 59 (wr.heap.size) (by simp))
      clear HS
      refine wp_region_eq 7 [.slice (some ⟨rb, ro, none⟩) l.length rc, .int .i64 (k : Nat), .pointer (some ⟨rb, ro + k * 3, none⟩), .agg #[.bool t.n, .string (bs t.a), .string (bs t.b)], .pointer (some ⟨wr.heap.size, 4, none⟩), .agg #[.bool u.fn, .string (bs u.fa), .string (bs u.fb)], .int .i64 d] rfl (by kernel_rfl) (by kernel_rfl) (by kernel_rfl) ?_ ?_
      refine ⟨?_, ?_, ?_, ?_, ?_, ?_, ?_, trivial⟩
      ·intro xx af wv hbx hev hev0 hd; have e1 : af.tmps[1]?.getD undef = .slice (some ⟨rb, ro, none⟩) l.length rc := hev0 1 rfl; clear hev hev0 hd; go_wp2; exact sQ rfl
      ·intro xx af wv hbx hev hev0 hd; have e8 : af.tmps[8]?.getD undef = .int .i64 (k : Nat) := hev0 8 rfl; clear hev hev0 hd; go_wp2; exact sQ rfl
      ·intro xx af wv hbx hev hev0 hd; have e31 := (hev 0 _ 31 rfl rfl).trans (hd ⟨0, .data⟩ (by simp) rfl); have e32 := (hev 1 _ 32 rfl rfl).trans (hd ⟨1, .data⟩ (by simp) rfl); clear hev hev0 hd; go_wp2; exact sQ rfl
      ·intro xx af wv hbx hev hev0 hd; have e33 := (hev 2 _ 33 rfl rfl).trans (hd ⟨2, .data⟩ (by simp) rfl); clear hev hev0 hd; have hs1 := Lib.hid (HS6.out.call hbx); obtain ⟨y0, y1, y2⟩ := kE0 (HY.out _ hs1.out.below) rfl rfl rfl; go_wp2; exact sQ rfl
      ·intro xx af wv hbx hev hev0 hd; have e9 : af.tmps[9]?.getD undef = .pointer (some ⟨wr.heap.size, 0, none⟩) := hev0 9 rfl; clear hev hev0 hd; go_wp2; exact sQ rfl
      ·intro xx af wv hbx hev hev0 hd; have e35 := (hev 4 _ 35 rfl rfl).trans (hd ⟨4, .data⟩ (by simp) rfl); clear hev hev0 hd; have hs1 := Lib.hid (HS6.out.call hbx); obtain ⟨y0, y1, y2⟩ := hs1.out.k4 0 rfl rfl rfl rfl; go_wp2; exact sQ rfl
      ·intro xx af wv hbx hev hev0 hd
       have e34 := (hev 3 _ 34 rfl rfl).trans (hd ⟨3, .data⟩ (by simp) rfl)
       have e36 := (hev 5 _ 36 rfl rfl).trans (hd ⟨5, .data⟩ (by simp) rfl)
       clear hev hev0 hd
       go_wp2_with fail
       refine (HC.out _).mono ?_
       rintro e w8 ⟨rfl, hb8⟩
       go_wp2
       exact StepQ.mk _ hb8 rfl
      intro xx w8 hb9 hv
      simp only [List.take, List.drop, fillA, Act.put]
      simp only [show xx 0 = _ from hv 0 (by decide), show xx 1 = _ from hv 1 (by decide), show xx 2 = _ from hv 2 (by decide), show xx 3 = _ from hv 3 (by decide), show xx 4 = _ from hv 4 (by decide), show xx 5 = _ from hv 5 (by decide), show xx 6 = _ from hv 6 (by decide)]
      clear hv
      have HS8 := Lib.hid (HS6.out.call hb9)
      clear hb9 HS6
      go_wp2
      have HS9 := Lib.hid HS8.out
      go_ret2
      rw [R.out]
      exact ⟨rfl, HS9.out.below⟩
     ·have d2 : decide (d < 0) = false := decide_eq_false hd
      have R := Lib.hid (hN (by omega))
      clear hY hN hd
      have x2 : b < wr.heap.size := Nat.lt_of_lt_of_le hbb HS.out.below.size
      have x3 : ¬ b = wr.heap.size := by omega
      obtain ⟨x4, x5, x6, x7, x8, x9, x10, x11, x12, x13, x14⟩ := kE (HX.out _ HS.out.below) rfl rfl rfl rfl rfl rfl rfl rfl rfl rfl rfl
      go_wp2
      clear x2 x3 x4 x5 x6 x7 x8 x9 x10 x11 x12 x13 x14
      have HS6 := Lib.hid (St.alloc (HS.out) #[.int .i64 u.rank, .bool u.tn, .string (bs u.ta), .string (bs u.tb), .bool u.fn, .string (bs u.fa), .string (bs u.fb), .bool u.kn, .string (bs u.ka), .string (bs u.kb), .bool u.acc] 59 (wr.heap.size) (by simp))
      clear HS
      refine wp_region_eq 7 [.slice (some ⟨rb, ro, none⟩) l.length rc, .int .i64 (k : Nat), .pointer (some ⟨rb, ro + k * 3, none⟩), .agg #[.bool t.n, .string (bs t.a), .string (bs t.b)], .pointer (some ⟨wr.heap.size, 4, none⟩), .agg #[.bool u.fn, .string (bs u.fa), .string (bs u.fb)], .int .i64 d] rfl (by kernel_rfl) (by kernel_rfl) (by kernel_rfl) ?_ ?_
      refine ⟨?_, ?_, ?_, ?_, ?_, ?_, ?_, trivial⟩
      ·intro xx af wv hbx hev hev0 hd; have e1 : af.tmps[1]?.getD undef = .slice (some ⟨rb, ro, none⟩) l.length rc := hev0 1 rfl; clear hev hev0 hd; go_wp2; exact sQ rfl
      ·intro xx af wv hbx hev hev0 hd; have e8 : af.tmps[8]?.getD undef = .int .i64 (k : Nat) := hev0 8 rfl; clear hev hev0 hd; go_wp2; exact sQ rfl
      ·intro xx af wv hbx hev hev0 hd; have e31 := (hev 0 _ 31 rfl rfl).trans (hd ⟨0, .data⟩ (by simp) rfl); have e32 := (hev 1 _ 32 rfl rfl).trans (hd ⟨1, .data⟩ (by simp) rfl); clear hev hev0 hd; go_wp2; exact sQ rfl
      ·intro xx af wv hbx hev hev0 hd; have e33 := (hev 2 _ 33 rfl rfl).trans (hd ⟨2, .data⟩ (by simp) rfl); clear hev hev0 hd; have hs1 := Lib.hid (HS6.out.call hbx); obtain ⟨y0, y1, y2⟩ := kE0 (HY.out _ hs1.out.below) rfl rfl rfl; go_wp2; exact sQ rfl
      ·intro xx af wv hbx hev hev0 hd; have e9 : af.tmps[9]?.getD undef = .pointer (some ⟨wr.heap.size, 0, none⟩) := hev0 9 rfl; clear hev hev0 hd; go_wp2; exact sQ rfl
      ·intro xx af wv hbx hev hev0 hd; have e35 := (hev 4 _ 35 rfl rfl).trans (hd ⟨4, .data⟩ (by simp) rfl); clear hev hev0 hd; have hs1 := Lib.hid (HS6.out.call hbx); obtain ⟨y0, y1, y2⟩ := hs1.out.k4 0 rfl rfl rfl rfl; go_wp2; exact sQ rfl
      ·intro xx af wv hbx hev hev0 hd
       have e34 := (hev 3 _ 34 rfl rfl).trans (hd ⟨3, .data⟩ (by simp) rfl)
       have e36 := (hev 5 _ 36 rfl rfl).trans (hd ⟨5, .data⟩ (by simp) rfl)
       clear hev hev0 hd
       go_wp2_with fail
       refine (HC.out _).mono ?_
       rintro e w8 ⟨rfl, hb8⟩
       go_wp2
       exact StepQ.mk _ hb8 rfl
      intro xx w8 hb9 hv
      simp only [List.take, List.drop, fillA, Act.put]
      simp only [show xx 0 = _ from hv 0 (by decide), show xx 1 = _ from hv 1 (by decide), show xx 2 = _ from hv 2 (by decide), show xx 3 = _ from hv 3 (by decide), show xx 4 = _ from hv 4 (by decide), show xx 5 = _ from hv 5 (by decide), show xx 6 = _ from hv 6 (by decide)]
      clear hv
      have HS8 := Lib.hid (HS6.out.call hb9)
      clear hb9 HS6
      go_wp2
      have HS9 := Lib.hid HS8.out
      go_roundw
      case rel => exact ⟨k + 1, by omega, by go_num, R.out, HS9.out.sub (by simp)⟩
      case measure => simp [intOf]; omega
    ·obtain rfl : k = l.length := by omega
     have HB : Hid (bl = none) := by show _ = _; rw [← HZL.out] at HB; exact HBE.out HB.out
     cases dd with
     | some i =>
      have R := Lib.hid (HE2.out _ HB.out rfl)
      have d3 : decide ((0 : Int) ≤ ((i : Nat) : Int)) = true := decide_eq_true (by omega)
      have HT : Hid (∀ W, Below w.heap.size w W → Calls Tryz.prog _ _ W (fun e w' => e = .returned (.int .i64 (i : Nat)) ∧ Below W.heap.size W w')) := HT2.out
      clear HT2
      obtain ⟨x2, x3, x4⟩ := HS.out.k0 1 rfl rfl rfl rfl
      have x5 := HS.out.cell 1 rfl 3 rfl
      obtain ⟨x6, x7, x8⟩ := HS.out.k0 0 rfl rfl rfl rfl
      go_wp2_with fail
      refine (HT.out _ HS.out.below).mono ?_
      rintro e w6 ⟨rfl, hb6⟩
      have HS6 := Lib.hid (HS.out.call hb6)
      clear hb6 HS
      clear x2 x3 x4 x5 x6 x7 x8
      go_wp2
      have HS7 := Lib.hid HS6.out
      go_ret2
      rw [R.out]
      exact ⟨rfl, HS7.out.below⟩
     | none =>
      have hE := HE3.out HB.out rfl
      have HT : Hid (∀ W, Below w.heap.size w W → Calls Tryz.prog _ _ W (fun e w' => e = .returned (.int .i64 (-1)) ∧ Below W.heap.size W w')) := HT2.out
      clear HT2
      cases cB with
      | true =>
       have R := Lib.hid (show ans = (-1, 0) by rw [hE]; rfl)
       clear hE
       obtain ⟨x2, x3, x4⟩ := HS.out.k0 1 rfl rfl rfl rfl
       have x5 := HS.out.cell 1 rfl 3 rfl
       obtain ⟨x6, x7, x8⟩ := HS.out.k0 0 rfl rfl rfl rfl
       go_wp2_with fail
       refine (HT.out _ HS.out.below).mono ?_
       rintro e w6 ⟨rfl, hb6⟩
       have HS6 := Lib.hid (HS.out.call hb6)
       clear hb6 HS
       clear x2 x3 x4 x5 x6 x7 x8
       obtain ⟨x9, x10, x11⟩ := HS6.out.k0 1 rfl rfl rfl rfl
       have x12 := HS6.out.cell 1 rfl 3 rfl
       go_wp2_with fail
       refine (HK.out _ HS6.out.below).mono ?_
       rintro e w7 ⟨rfl, hb7⟩
       have HS7 := Lib.hid (HS6.out.call hb7)
       clear hb7 HS6
       clear x9 x10 x11 x12
       go_wp2
       have HS8 := Lib.hid HS7.out
       go_ret2
       rw [R.out]
       exact ⟨rfl, HS8.out.below⟩
      | false =>
       have R := Lib.hid (show ans = (-1, 48) by rw [hE]; rfl)
       clear hE
       obtain ⟨x2, x3, x4⟩ := HS.out.k0 1 rfl rfl rfl rfl
       have x5 := HS.out.cell 1 rfl 3 rfl
       obtain ⟨x6, x7, x8⟩ := HS.out.k0 0 rfl rfl rfl rfl
       go_wp2_with fail
       refine (HT.out _ HS.out.below).mono ?_
       rintro e w6 ⟨rfl, hb6⟩
       have HS6 := Lib.hid (HS.out.call hb6)
       clear hb6 HS
       clear x2 x3 x4 x5 x6 x7 x8
       obtain ⟨x9, x10, x11⟩ := HS6.out.k0 1 rfl rfl rfl rfl
       have x12 := HS6.out.cell 1 rfl 3 rfl
       go_wp2_with fail
       refine (HK.out _ HS6.out.below).mono ?_
       rintro e w7 ⟨rfl, hb7⟩
       have HS7 := Lib.hid (HS6.out.call hb7)
       clear hb7 HS6
       clear x9 x10 x11 x12
       go_wp2
       have HS8 := Lib.hid HS7.out
       go_ret2
       rw [R.out]
       exact ⟨rfl, HS8.out.below⟩
end Go.Proofs.YtcllocdhbicpkaaGreatDoor
