/-
Is a plan carried: the program's test (printed by gen_pln7.py).
-/
import Derived.Test.YtcllocdhbicpkaaGreatDoorPlnO
namespace Go.Proofs.YtcllocdhbicpkaaGreatDoor
open Go.RowKit

theorem any_take {p : Blc × Rat → Bool} {zl : List (Blc × Rat)} {k : Nat} {x : Blc × Rat} (h : zl[k]? = some x) : (zl.take (k + 1)).any p = ((zl.take k).any p || p x) := by rw [take_at h, List.any_append]; simp
theorem carried_yes {zl : List (Blc × Rat)} {k : Nat} {x : Blc × Rat} (h : zl[k]? = some x) (h1 : impB x = true) (h2 : consB x = true) : carriedB zl = true := by
 unfold carriedB
 rw [Bool.or_eq_true, List.any_eq_true]
 exact .inr ⟨x, List.mem_of_getElem? h, by rw [h1, h2]; rfl⟩
theorem carried_end {zl : List (Blc × Rat)} (h : (zl.take zl.length).any (fun x => impB x && consB x) = false) : carriedB zl = !((zl.take zl.length).any impB) := by
 rw [List.take_length] at *
 unfold carriedB
 rw [h, Bool.or_false]

set_option maxRecDepth 100000 in
set_option maxHeartbeats 1000000 in
theorem plan_carried (vn : Bool) (va vb : List UInt8) (v : Value) (l : List Blc) (rv : Value) (rs : List Rtr) (w : World) (h : BlocsL w v l) (hr : RatsL w rv rs) (hok : SmallBl 1000000 l) (hrs : SmallT 1000000 rs) (hlen : rs.length = l.length) :
  Calls Tryz.prog 42 #[.agg #[.bool vn, .string (bs va), .string (bs vb), v], rv] w fun e w' => e = .returned (.bool (carriedB (l.zip (rs.map Rtr.val)))) ∧ Below w.heap.size w w' := by
 have H := Lib.hid h
 have HR := Lib.hid hr
 have hzat : ∀ (k : Nat) (u : Blc) (t : Rtr), l[k]? = some u → rs[k]? = some t → (l.zip (rs.map Rtr.val))[k]? = some (u, t.val) := fun k u t hu ht => zip_at hu (by rw [List.getElem?_map, ht]; rfl)
 have hzl : (l.zip (rs.map Rtr.val)).length = l.length := by rw [List.length_zip, List.length_map]; omega
 generalize l.zip (rs.map Rtr.val) = zl at *
 have HZ := Lib.hid hzat
 have HZL := Lib.hid hzl
 have HOK := Lib.hid hok
 have HOR := Lib.hid hrs
 obtain ⟨A, c, rfl, hl, hc⟩ := h.slice
 obtain ⟨RA, rc, rfl, hrl, hrc⟩ := hr.slice
 clear hr
 rw [hlen] at HR hrl ⊢
 have HLEN := Lib.hid hlen
 clear h hlen hok hrs hzat hzl
 go_enter Tryz.func42, Tryz.ntmps42
 have HS := Lib.hid (St.start w)
 go_wp2
 go_loopw [5, 11] (fun a i wr => ∃ (k : Nat) (aB : Bool), k ≤ l.length ∧ i = .int .i64 k ∧ a = .bool aB ∧ Hid (aB = !((zl.take k).any impB)) ∧ Hid ((zl.take k).any (fun x => impB x && consB x) = false) ∧ Hid (St w [⟨w.heap.size, #[.bool vn, .string (bs va), .string (bs vb), .slice A l.length c], 28⟩] wr)) (fun _ i _ => l.length - (intOf i).toNat)
 case atStart => exact ⟨0, true, Nat.zero_le _, rfl, rfl, rfl, rfl, (St.alloc (HS.out) #[.bool vn, .string (bs va), .string (bs vb), .slice A l.length c] 28 (w.heap.size) (by simp))⟩
 case round =>
  obtain ⟨k, aB, hk, rfl, rfl, HAB, HNO, HS⟩ := hrel
  by_cases hlt : k < l.length
  ·obtain ⟨b, o, u, rfl, hbb, hq, hx⟩ := H.out.at_ hlt
   obtain ⟨rb, ro, t, rfl, hbr, hqt, hy⟩ := HR.out.at_ (show k < rs.length by have := HLEN.out; omega)
   have ho := HOK.out u (List.mem_of_getElem? hq)
   have hot := HOR.out t (List.mem_of_getElem? hqt)
   have hz := HZ.out k u t hq hqt
   have hI := fun W => plan_impaired t.n t.a t.b W (by omega) (by omega)
   have hA := fun W => plan_accepts u t.n t.a t.b W (by omega) (by omega) (Nat.le_trans ho.2.2.1 (by decide)) (Nat.le_trans ho.2.2.2 (by decide))
   change ∀ W, Calls Tryz.prog _ _ W (fun e w' => e = .returned (.bool (impB (u, t.val))) ∧ _) at hI
   change ∀ W, Calls Tryz.prog _ _ W (fun e w' => e = .returned (.bool (consB (u, t.val))) ∧ _) at hA
   have hY : impB (u, t.val) = true → consB (u, t.val) = true → carriedB zl = true := carried_yes hz
   have hN1 := any_take (p := impB) hz
   have hN2 := any_take (p := fun x => impB x && consB x) hz
   rw [HNO.out] at hN2
   try dsimp only at hN2
   generalize impB (u, t.val) = iB at *
   generalize consB (u, t.val) = cB at *
   unfold raw at hI hA
   have HI := Lib.hid hI
   have HA := Lib.hid hA
   have HX := Lib.hid hx
   have HY := Lib.hid hy
   have e0 : (0 : Int) ≤ ((k : Nat) : Int) := by omega
   have e1 : ((k : Nat) : Int) < (l.length : Int) := by omega
   clear hI hA hx hy hq hqt ho hot
   cases iB
   ·have HN1 := Lib.hid (show aB = !((zl.take (k + 1)).any impB) by rw [hN1, Bool.or_false]; exact HAB.out)
    have HN2 := Lib.hid (show (zl.take (k + 1)).any (fun x => impB x && consB x) = false by rw [hN2]; rfl)
    clear hY hN1 hN2 hz
    have x1 : b < wr.heap.size := Nat.lt_of_lt_of_le hbb HS.out.below.size
    have x2 : ¬ b = wr.heap.size := by omega
    have x3 : rb < wr.heap.size := Nat.lt_of_lt_of_le hbr HS.out.below.size
    have x4 : ¬ rb = wr.heap.size := by omega
    obtain ⟨x5, x6, x7, x8, x9, x10, x11, x12, x13, x14, x15⟩ := kE (HX.out _ HS.out.below) rfl rfl rfl rfl rfl rfl rfl rfl rfl rfl rfl
    obtain ⟨x16, x17, x18⟩ := kE0 (HY.out _ HS.out.below) rfl rfl rfl
    go_wp2_with fail
    have HS2 := Lib.hid (St.alloc (HS.out) #[.int .i64 u.rank, .bool u.tn, .string (bs u.ta), .string (bs u.tb), .bool u.fn, .string (bs u.fa), .string (bs u.fb), .bool u.kn, .string (bs u.ka), .string (bs u.kb), .bool u.acc] 59 (wr.heap.size) (by simp))
    refine (HI.out _).mono ?_
    rintro e w3 ⟨rfl, hb3⟩
    have HS3 := Lib.hid (HS2.out.call hb3)
    clear hb3 HS HS2
    clear x1 x2 x3 x4 x5 x6 x7 x8 x9 x10 x11 x12 x13 x14 x15 x16 x17 x18
    go_wp2
    have HS4 := Lib.hid HS3.out
    go_roundw
    case rel => exact ⟨k + 1, aB, by omega, by go_num, rfl, HN1.out, HN2.out, HS4.out.sub (by simp)⟩
    case measure => simp [intOf]; omega
   ·cases cB
    ·have HN1 := Lib.hid (show false = !((zl.take (k + 1)).any impB) by rw [hN1, Bool.or_true]; rfl)
     have HN2 := Lib.hid (show (zl.take (k + 1)).any (fun x => impB x && consB x) = false by rw [hN2]; rfl)
     clear hY hN1 hN2 hz
     have x1 : b < wr.heap.size := Nat.lt_of_lt_of_le hbb HS.out.below.size
     have x2 : ¬ b = wr.heap.size := by omega
     have x3 : rb < wr.heap.size := Nat.lt_of_lt_of_le hbr HS.out.below.size
     have x4 : ¬ rb = wr.heap.size := by omega
     obtain ⟨x5, x6, x7, x8, x9, x10, x11, x12, x13, x14, x15⟩ := kE (HX.out _ HS.out.below) rfl rfl rfl rfl rfl rfl rfl rfl rfl rfl rfl
     obtain ⟨x16, x17, x18⟩ := kE0 (HY.out _ HS.out.below) rfl rfl rfl
     go_wp2_with fail
     have HS2 := Lib.hid (St.alloc (HS.out) #[.int .i64 u.rank, .bool u.tn, .string (bs u.ta), .string (bs u.tb), .bool u.fn, .string (bs u.fa), .string (bs u.fb), .bool u.kn, .string (bs u.ka), .string (bs u.kb), .bool u.acc] 59 (wr.heap.size) (by simp))
     refine (HI.out _).mono ?_
     rintro e w3 ⟨rfl, hb3⟩
     have HS3 := Lib.hid (HS2.out.call hb3)
     clear hb3 HS HS2
     clear x1 x2 x3 x4 x5 x6 x7 x8 x9 x10 x11 x12 x13 x14 x15 x16 x17 x18
     go_wp2
     refine wp_region_eq 5 [.agg #[.int .i64 u.rank, .bool u.tn, .string (bs u.ta), .string (bs u.tb), .bool u.fn, .string (bs u.fa), .string (bs u.fb), .bool u.kn, .string (bs u.ka), .string (bs u.kb), .bool u.acc], .slice (some ⟨rb, ro, none⟩) l.length rc, .int .i64 (k : Nat), .pointer (some ⟨rb, ro + k * 3, none⟩), .agg #[.bool t.n, .string (bs t.a), .string (bs t.b)]] rfl (by kernel_rfl) (by kernel_rfl) (by kernel_rfl) ?_ ?_
     refine ⟨?_, ?_, ?_, ?_, ?_, trivial⟩
     ·intro xx af wv hbx hev hev0 hd; have e7 : af.tmps[7]?.getD undef = .pointer (some ⟨wr.heap.size, 0, none⟩) := hev0 7 rfl; clear hev hev0 hd; have hs1 := Lib.hid (HS3.out.call hbx); obtain ⟨y0, y1, y2, y3, y4, y5, y6, y7, y8, y9, y10⟩ := hs1.out.kA 0 rfl rfl rfl rfl rfl rfl rfl rfl rfl rfl rfl rfl; go_wp2; exact sQ rfl
     ·intro xx af wv hbx hev hev0 hd; have e1 : af.tmps[1]?.getD undef = .slice (some ⟨rb, ro, none⟩) l.length rc := hev0 1 rfl; clear hev hev0 hd; go_wp2; exact sQ rfl
     ·intro xx af wv hbx hev hev0 hd; have e6 : af.tmps[6]?.getD undef = .int .i64 (k : Nat) := hev0 6 rfl; clear hev hev0 hd; go_wp2; exact sQ rfl
     ·intro xx af wv hbx hev hev0 hd; have e22 := (hev 1 _ 22 rfl rfl).trans (hd ⟨1, .data⟩ (by simp) rfl); have e23 := (hev 2 _ 23 rfl rfl).trans (hd ⟨2, .data⟩ (by simp) rfl); clear hev hev0 hd; go_wp2; exact sQ rfl
     ·intro xx af wv hbx hev hev0 hd; have e24 := (hev 3 _ 24 rfl rfl).trans (hd ⟨3, .data⟩ (by simp) rfl); clear hev hev0 hd; have hs1 := Lib.hid (HS3.out.call hbx); obtain ⟨y0, y1, y2⟩ := kE0 (HY.out _ hs1.out.below) rfl rfl rfl; go_wp2; exact sQ rfl
     intro xx w4 hb9 hv
     simp only [List.take, List.drop, fillA, Act.put]
     simp only [show xx 0 = _ from hv 0 (by decide), show xx 1 = _ from hv 1 (by decide), show xx 2 = _ from hv 2 (by decide), show xx 3 = _ from hv 3 (by decide), show xx 4 = _ from hv 4 (by decide)]
     clear hv
     have HS4 := Lib.hid (HS3.out.call hb9)
     clear hb9 HS3
     go_wp2_with fail
     refine (HA.out _).mono ?_
     rintro e w5 ⟨rfl, hb5⟩
     have HS5 := Lib.hid (HS4.out.call hb5)
     clear hb5 HS4
     go_wp2
     have HS6 := Lib.hid HS5.out
     go_roundw
     case rel => exact ⟨k + 1, false, by omega, by go_num, rfl, HN1.out, HN2.out, HS6.out.sub (by simp)⟩
     case measure => simp [intOf]; omega
    ·have R := Lib.hid (hY rfl rfl)
     clear hY hN1 hN2 hz
     have x1 : b < wr.heap.size := Nat.lt_of_lt_of_le hbb HS.out.below.size
     have x2 : ¬ b = wr.heap.size := by omega
     have x3 : rb < wr.heap.size := Nat.lt_of_lt_of_le hbr HS.out.below.size
     have x4 : ¬ rb = wr.heap.size := by omega
     obtain ⟨x5, x6, x7, x8, x9, x10, x11, x12, x13, x14, x15⟩ := kE (HX.out _ HS.out.below) rfl rfl rfl rfl rfl rfl rfl rfl rfl rfl rfl
     obtain ⟨x16, x17, x18⟩ := kE0 (HY.out _ HS.out.below) rfl rfl rfl
     go_wp2_with fail
     have HS2 := Lib.hid (St.alloc (HS.out) #[.int .i64 u.rank, .bool u.tn, .string (bs u.ta), .string (bs u.tb), .bool u.fn, .string (bs u.fa), .string (bs u.fb), .bool u.kn, .string (bs u.ka), .string (bs u.kb), .bool u.acc] 59 (wr.heap.size) (by simp))
     refine (HI.out _).mono ?_
     rintro e w3 ⟨rfl, hb3⟩
     have HS3 := Lib.hid (HS2.out.call hb3)
     clear hb3 HS HS2
     clear x1 x2 x3 x4 x5 x6 x7 x8 x9 x10 x11 x12 x13 x14 x15 x16 x17 x18
     go_wp2
     refine wp_region_eq 5 [.agg #[.int .i64 u.rank, .bool u.tn, .string (bs u.ta), .string (bs u.tb), .bool u.fn, .string (bs u.fa), .string (bs u.fb), .bool u.kn, .string (bs u.ka), .string (bs u.kb), .bool u.acc], .slice (some ⟨rb, ro, none⟩) l.length rc, .int .i64 (k : Nat), .pointer (some ⟨rb, ro + k * 3, none⟩), .agg #[.bool t.n, .string (bs t.a), .string (bs t.b)]] rfl (by kernel_rfl) (by kernel_rfl) (by kernel_rfl) ?_ ?_
     refine ⟨?_, ?_, ?_, ?_, ?_, trivial⟩
     ·intro xx af wv hbx hev hev0 hd; have e7 : af.tmps[7]?.getD undef = .pointer (some ⟨wr.heap.size, 0, none⟩) := hev0 7 rfl; clear hev hev0 hd; have hs1 := Lib.hid (HS3.out.call hbx); obtain ⟨y0, y1, y2, y3, y4, y5, y6, y7, y8, y9, y10⟩ := hs1.out.kA 0 rfl rfl rfl rfl rfl rfl rfl rfl rfl rfl rfl rfl; go_wp2; exact sQ rfl
     ·intro xx af wv hbx hev hev0 hd; have e1 : af.tmps[1]?.getD undef = .slice (some ⟨rb, ro, none⟩) l.length rc := hev0 1 rfl; clear hev hev0 hd; go_wp2; exact sQ rfl
     ·intro xx af wv hbx hev hev0 hd; have e6 : af.tmps[6]?.getD undef = .int .i64 (k : Nat) := hev0 6 rfl; clear hev hev0 hd; go_wp2; exact sQ rfl
     ·intro xx af wv hbx hev hev0 hd; have e22 := (hev 1 _ 22 rfl rfl).trans (hd ⟨1, .data⟩ (by simp) rfl); have e23 := (hev 2 _ 23 rfl rfl).trans (hd ⟨2, .data⟩ (by simp) rfl); clear hev hev0 hd; go_wp2; exact sQ rfl
     ·intro xx af wv hbx hev hev0 hd; have e24 := (hev 3 _ 24 rfl rfl).trans (hd ⟨3, .data⟩ (by simp) rfl); clear hev hev0 hd; have hs1 := Lib.hid (HS3.out.call hbx); obtain ⟨y0, y1, y2⟩ := kE0 (HY.out _ hs1.out.below) rfl rfl rfl; go_wp2; exact sQ rfl
     intro xx w4 hb9 hv
     simp only [List.take, List.drop, fillA, Act.put]
     simp only [show xx 0 = _ from hv 0 (by decide), show xx 1 = _ from hv 1 (by decide), show xx 2 = _ from hv 2 (by decide), show xx 3 = _ from hv 3 (by decide), show xx 4 = _ from hv 4 (by decide)]
     clear hv
     have HS4 := Lib.hid (HS3.out.call hb9)
     clear hb9 HS3
     go_wp2_with fail
     refine (HA.out _).mono ?_
     rintro e w5 ⟨rfl, hb5⟩
     have HS5 := Lib.hid (HS4.out.call hb5)
     clear hb5 HS4
     go_wp2
     go_ret
     have HS6 := Lib.hid HS5.out
     rw [R.out]
     exact ⟨rfl, HS6.out.below⟩
  ·obtain rfl : k = l.length := by omega
   have R : Hid (carriedB zl = aB) := by show _ = _; rw [← HZL.out] at HAB HNO; rw [HAB.out, carried_end HNO.out]
   go_wp2
   go_ret
   have HS2 := Lib.hid HS.out
   rw [R.out]
   exact ⟨rfl, HS2.out.below⟩
end Go.Proofs.YtcllocdhbicpkaaGreatDoor
