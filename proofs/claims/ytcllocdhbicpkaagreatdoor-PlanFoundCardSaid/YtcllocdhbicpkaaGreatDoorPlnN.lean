/-
What a plan leaves: the program's and the document's (printed by gen_pln3.py).
-/
import Derived.Test.YtcllocdhbicpkaaGreatDoorPlnK
namespace Go.Proofs.YtcllocdhbicpkaaGreatDoor
open Go.RowKit

set_option maxRecDepth 100000 in
set_option maxHeartbeats 1000000 in
theorem plan_residue (vn : Bool) (va vb : List UInt8) (v : Value) (l : List Blc) (rv : Value) (rs : List Rtr) (w : World) (h : BlocsL w v l) (hr : RatsL w rv rs) (hok : SmallBl 1000000 l) (hrs : SmallT 1000000 rs) (lva : va.length ≤ 1000000) (lvb : vb.length ≤ 1000000) (hlen : rs.length = l.length) (h16 : l.length ≤ 16) :
  Calls Tryz.prog 38 #[.agg #[.bool vn, .string (bs va), .string (bs vb), v], rv] w fun e w' => e = .returned (rat (resid (decR vn va vb) (l.zip (rs.map Rtr.val)))) ∧ Below w.heap.size w w' := by
 have H := Lib.hid h
 have HR := Lib.hid hr
 have sq : Sized 1000000 (decR vn va vb) := sized_dec lva lvb (by decide)
 have hv := fun W => rational_Add vn va vb false [] [] W (by omega) (by omega) (by decide) (by decide)
 rw [dec_zero3, Rat.add_zero] at hv
 generalize decR vn va vb = q at *
 have hall : ∀ x ∈ l.zip (rs.map Rtr.val), Sized 1000000 x.1.total ∧ Sized 1000000 x.2 := fun x hx => by
  obtain ⟨h1, h2⟩ := mem_zip hx
  obtain ⟨t, ht, e⟩ := List.mem_map.1 h2
  exact ⟨hok.total (by decide) h1, by rw [← e]; exact hrs.val (by decide) ht⟩
 have hzat : ∀ (k : Nat) (u : Blc) (t : Rtr), l[k]? = some u → rs[k]? = some t → (l.zip (rs.map Rtr.val))[k]? = some (u, t.val) := fun k u t hu ht => zip_at hu (by rw [List.getElem?_map, ht]; rfl)
 have hzl : (l.zip (rs.map Rtr.val)).length = l.length := by rw [List.length_zip, List.length_map]; omega
 generalize l.zip (rs.map Rtr.val) = zl at *
 have hsz : ∀ k, k ≤ l.length → Sized 17179869184 (residTo q zl k) := fun k hk => (residTo_sized sq hall k (by omega)).mono (by omega)
 have HE : Hid (residTo q zl l.length = resid q zl) := by show _ = _; rw [← hzl]; exact residTo_end q zl
 have HSZ := Lib.hid hsz
 have HZ := Lib.hid hzat
 have HOK := Lib.hid hok
 have HOR := Lib.hid hrs
 obtain ⟨A, c, rfl, hl, hc⟩ := h.slice
 obtain ⟨RA, rc, rfl, hrl, hrc⟩ := hr.slice
 clear hr
 rw [hlen] at HR hrl ⊢
 have HLEN := Lib.hid hlen
 unfold rat raw at hv
 have HV := Lib.hid hv
 clear h hlen hok hrs lva lvb sq hv hall hzat hsz hzl
 go_enter Tryz.func38, Tryz.ntmps38
 have HS := Lib.hid (St.start w)
 go_wp2_with fail
 have HS2 := Lib.hid (St.alloc ((St.alloc (HS.out) #[.bool vn, .string (bs va), .string (bs vb), .slice A l.length c] 28 (w.heap.size) (by simp))) #[.bool false, .string (bs []), .string (bs [])] 25 (w.heap.size + 1) (by simp))
 refine (HV.out _).mono ?_
 rintro e w3 ⟨rfl, hb3⟩
 have HS3 := Lib.hid (HS2.out.call hb3)
 clear hb3 HS HS2
 have x1 := HS3.out.cell 1 rfl 3 rfl
 have x2 := HS3.out.lt 1 rfl
 have x3 : ¬ w.heap.size = w3.heap.size := by omega
 have x4 : ¬ w3.heap.size = w.heap.size := by omega
 go_wp2
 go_loopw [15] (fun i wr => ∃ k : Nat, k ≤ l.length ∧ i = .int .i64 k ∧ Hid (St w [⟨w3.heap.size, #[.bool (negB (residTo q zl k)), .string (bs (numB (residTo q zl k))), .string (bs (denomB (residTo q zl k)))], 25⟩, ⟨w.heap.size + 1, #[.bool false, .string (bs []), .string (bs [])], 25⟩, ⟨w.heap.size, #[.bool vn, .string (bs va), .string (bs vb), .slice A l.length c], 28⟩] wr)) (fun i _ => l.length - (intOf i).toNat)
 case atStart => exact ⟨0, Nat.zero_le _, rfl, by rw [show residTo q zl 0 = q from rfl]; exact (St.alloc (HS3.out) #[.bool (negB (q)), .string (bs (numB (q))), .string (bs (denomB (q)))] 25 (w3.heap.size) (by simp))⟩
 case round =>
  obtain ⟨k, hk, rfl, HS⟩ := hrel
  by_cases hlt : k < l.length
  ·obtain ⟨b, o, u, rfl, hbb, hq, hx⟩ := H.out.at_ hlt
   obtain ⟨rb, ro, t, rfl, hbr, hqt, hy⟩ := HR.out.at_ (show k < rs.length by have := HLEN.out; omega)
   have ho := HOK.out u (List.mem_of_getElem? hq)
   have hot := HOR.out t (List.mem_of_getElem? hqt)
   have hstep := residTo_step (value := q) (HZ.out k u t hq hqt)
   dsimp only at hstep
   have hM := fun W => rational_Multiply t.n t.a t.b u.tn u.ta u.tb W (by omega) (by omega) (Nat.le_trans ho.1.1 (by decide)) (Nat.le_trans ho.1.2 (by decide))
   rw [show decR t.n t.a t.b * decR u.tn u.ta u.tb = u.total * t.val from Rat.mul_comm _ _] at hM
   have hS := fun W => rational_SubtractR (residTo q zl k) (u.total * t.val) W (HSZ.out k hk) (((sized_dec ho.1.1 ho.1.2 (by decide)).mul (sized_dec hot.1 hot.2 (by decide))).mono (by decide))
   rw [← hstep] at hS
   generalize u.total * t.val = m at *
   unfold rat raw at hM hS
   have HM := Lib.hid hM
   have HS5 := Lib.hid hS
   have HX := Lib.hid hx
   have HY := Lib.hid hy
   have e0 : (0 : Int) ≤ ((k : Nat) : Int) := by omega
   have e1 : ((k : Nat) : Int) < (l.length : Int) := by omega
   clear hM hS hx hy hq hqt ho hot hstep
   have x5 : b < wr.heap.size := Nat.lt_of_lt_of_le hbb HS.out.below.size
   have x6 : ¬ b = wr.heap.size := by omega
   obtain ⟨x7, x8, x9, x10, x11, x12, x13, x14, x15, x16, x17⟩ := kE (HX.out _ HS.out.below) rfl rfl rfl rfl rfl rfl rfl rfl rfl rfl rfl
   go_wp2
   clear x5 x6 x7 x8 x9 x10 x11 x12 x13 x14 x15 x16 x17
   have HS4 := Lib.hid (St.alloc (HS.out) #[.int .i64 u.rank, .bool u.tn, .string (bs u.ta), .string (bs u.tb), .bool u.fn, .string (bs u.fa), .string (bs u.fb), .bool u.kn, .string (bs u.ka), .string (bs u.kb), .bool u.acc] 59 (wr.heap.size) (by simp))
   clear HS
   refine wp_region_eq 9 [.agg #[.bool (negB (residTo q zl k)), .string (bs (numB (residTo q zl k))), .string (bs (denomB (residTo q zl k)))], .slice (some ⟨rb, ro, none⟩) l.length rc, .int .i64 (k : Nat), .pointer (some ⟨rb, ro + k * 3, none⟩), .agg #[.bool t.n, .string (bs t.a), .string (bs t.b)], .pointer (some ⟨wr.heap.size, 1, none⟩), .agg #[.bool u.tn, .string (bs u.ta), .string (bs u.tb)], .agg #[.bool (negB (m)), .string (bs (numB (m))), .string (bs (denomB (m)))], .agg #[.bool (negB (residTo q zl (k + 1))), .string (bs (numB (residTo q zl (k + 1)))), .string (bs (denomB (residTo q zl (k + 1))))]] rfl (by kernel_rfl) (by kernel_rfl) (by kernel_rfl) ?_ ?_
   refine ⟨?_, ?_, ?_, ?_, ?_, ?_, ?_, ?_, ?_, trivial⟩
   ·intro xx af wv hbx hev hev0 hd; have e5 : af.tmps[5]?.getD undef = .pointer (some ⟨w3.heap.size, 0, none⟩) := hev0 5 rfl; clear hev hev0 hd; have hs1 := Lib.hid (HS4.out.call hbx); obtain ⟨y0, y1, y2⟩ := hs1.out.k0 1 rfl rfl rfl rfl; go_wp2; exact sQ rfl
   ·intro xx af wv hbx hev hev0 hd; have e1 : af.tmps[1]?.getD undef = .slice (some ⟨rb, ro, none⟩) l.length rc := hev0 1 rfl; clear hev hev0 hd; go_wp2; exact sQ rfl
   ·intro xx af wv hbx hev hev0 hd; have e6 : af.tmps[6]?.getD undef = .int .i64 (k : Nat) := hev0 6 rfl; clear hev hev0 hd; go_wp2; exact sQ rfl
   ·intro xx af wv hbx hev hev0 hd; have e21 := (hev 1 _ 21 rfl rfl).trans (hd ⟨1, .data⟩ (by simp) rfl); have e22 := (hev 2 _ 22 rfl rfl).trans (hd ⟨2, .data⟩ (by simp) rfl); clear hev hev0 hd; go_wp2; exact sQ rfl
   ·intro xx af wv hbx hev hev0 hd; have e23 := (hev 3 _ 23 rfl rfl).trans (hd ⟨3, .data⟩ (by simp) rfl); clear hev hev0 hd; have hs1 := Lib.hid (HS4.out.call hbx); obtain ⟨y0, y1, y2⟩ := kE0 (HY.out _ hs1.out.below) rfl rfl rfl; go_wp2; exact sQ rfl
   ·intro xx af wv hbx hev hev0 hd; have e7 : af.tmps[7]?.getD undef = .pointer (some ⟨wr.heap.size, 0, none⟩) := hev0 7 rfl; clear hev hev0 hd; go_wp2; exact sQ rfl
   ·intro xx af wv hbx hev hev0 hd; have e25 := (hev 5 _ 25 rfl rfl).trans (hd ⟨5, .data⟩ (by simp) rfl); clear hev hev0 hd; have hs1 := Lib.hid (HS4.out.call hbx); obtain ⟨y0, y1, y2⟩ := hs1.out.k1 0 rfl rfl rfl rfl; go_wp2; exact sQ rfl
   ·intro xx af wv hbx hev hev0 hd
    have e24 := (hev 4 _ 24 rfl rfl).trans (hd ⟨4, .data⟩ (by simp) rfl)
    have e26 := (hev 6 _ 26 rfl rfl).trans (hd ⟨6, .data⟩ (by simp) rfl)
    clear hev hev0 hd
    go_wp2_with fail
    refine (HM.out _).mono ?_
    rintro e w8 ⟨rfl, hb8⟩
    go_wp2
    exact StepQ.mk _ hb8 rfl
   ·intro xx af wv hbx hev hev0 hd
    have e20 := (hev 0 _ 20 rfl rfl).trans (hd ⟨0, .data⟩ (by simp) rfl)
    have e27 := (hev 7 _ 27 rfl rfl).trans (hd ⟨7, .data⟩ (by simp) rfl)
    clear hev hev0 hd
    go_wp2_with fail
    refine (HS5.out _).mono ?_
    rintro e w8 ⟨rfl, hb8⟩
    go_wp2
    exact StepQ.mk _ hb8 rfl
   intro xx w6 hb9 hv
   simp only [List.take, List.drop, fillA, Act.put]
   simp only [show xx 0 = _ from hv 0 (by decide), show xx 1 = _ from hv 1 (by decide), show xx 2 = _ from hv 2 (by decide), show xx 3 = _ from hv 3 (by decide), show xx 4 = _ from hv 4 (by decide), show xx 5 = _ from hv 5 (by decide), show xx 6 = _ from hv 6 (by decide), show xx 7 = _ from hv 7 (by decide), show xx 8 = _ from hv 8 (by decide)]
   clear hv
   have HS6 := Lib.hid (HS4.out.call hb9)
   clear hb9 HS4
   obtain ⟨x18, x19, x20⟩ := HS6.out.k0 1 rfl rfl rfl rfl
   obtain ⟨x21, x22, x23⟩ := HS6.out.f0 1 rfl
   have x24 := HS6.out.ne 1 0 rfl rfl (by decide)
   have x25 := HS6.out.ne 0 1 rfl rfl (by decide)
   have x26 := HS6.out.ne 1 2 rfl rfl (by decide)
   have x27 := HS6.out.ne 2 1 rfl rfl (by decide)
   have x28 := HS6.out.ne 1 3 rfl rfl (by decide)
   have x29 := HS6.out.ne 3 1 rfl rfl (by decide)
   go_wp2
   have HS7 : Hid (St w [⟨wr.heap.size, #[.int .i64 u.rank, .bool u.tn, .string (bs u.ta), .string (bs u.tb), .bool u.fn, .string (bs u.fa), .string (bs u.fb), .bool u.kn, .string (bs u.ka), .string (bs u.kb), .bool u.acc], 59⟩, ⟨w3.heap.size, #[.bool (negB (residTo q zl (k + 1))), .string (bs (numB (residTo q zl (k + 1)))), .string (bs (denomB (residTo q zl (k + 1))))], 25⟩, ⟨w.heap.size + 1, #[.bool false, .string (bs []), .string (bs [])], 25⟩, ⟨w.heap.size, #[.bool vn, .string (bs va), .string (bs vb), .slice (some ⟨b, o, none⟩) l.length c], 28⟩] _) := Lib.hid (St.set ((St.set ((St.set (HS6.out) 1 rfl 0 _)) 1 rfl 1 _)) 1 rfl 2 _)
   go_roundw
   case rel => exact ⟨k + 1, by omega, by go_num, HS7.out.sub (by simp)⟩
   case measure => simp [intOf]; omega
  ·obtain rfl : k = l.length := by omega
   obtain ⟨x5, x6, x7⟩ := HS.out.k0 0 rfl rfl rfl rfl
   obtain ⟨x8, x9, x10⟩ := HS.out.k0 1 rfl rfl rfl rfl
   obtain ⟨x11, x12, x13⟩ := HS.out.f0 1 rfl
   have x14 := HS.out.ne 1 0 rfl rfl (by decide)
   have x15 := HS.out.ne 0 1 rfl rfl (by decide)
   have x16 := HS.out.ne 1 2 rfl rfl (by decide)
   have x17 := HS.out.ne 2 1 rfl rfl (by decide)
   go_wp2
   have HS4 : Hid (St w [⟨w3.heap.size, #[.bool (negB (residTo q zl l.length)), .string (bs (numB (residTo q zl l.length))), .string (bs (denomB (residTo q zl l.length)))], 25⟩, ⟨w.heap.size + 1, #[.bool (negB (residTo q zl l.length)), .string (bs (numB (residTo q zl l.length))), .string (bs (denomB (residTo q zl l.length)))], 25⟩, ⟨w.heap.size, #[.bool vn, .string (bs va), .string (bs vb), .slice A l.length c], 28⟩] _) := Lib.hid (St.set ((St.set ((St.set (HS.out) 1 rfl 0 _)) 1 rfl 1 _)) 1 rfl 2 _)
   refine bodyPost_ret (raw_result rfl _ _ _ _ _ _ rfl (HS4.out.blk 1 rfl)) rfl ?_
   rw [← HE.out]
   exact ⟨rfl, HS4.out.below⟩

set_option maxRecDepth 100000 in
set_option maxHeartbeats 1000000 in
theorem ref_residue (vn : Bool) (va vb : List UInt8) (v : Value) (l : List Blc) (rv : Value) (rs : List Rtr) (w : World) (h : BlocsL w v l) (hr : RatsL w rv rs) (hok : SmallBl 1000000 l) (hrs : SmallT 1000000 rs) (lva : va.length ≤ 1000000) (lvb : vb.length ≤ 1000000) (hlen : rs.length = l.length) (h16 : l.length ≤ 16) :
  Calls Tryz.prog 39 #[.agg #[.bool vn, .string (bs va), .string (bs vb), v], rv] w fun e w' => e = .returned (rat (resid (decR vn va vb) (l.zip (rs.map Rtr.val)))) ∧ Below w.heap.size w w' := by
 have H := Lib.hid h
 have HR := Lib.hid hr
 have sq : Sized 1000000 (decR vn va vb) := sized_dec lva lvb (by decide)
 have hv := fun W => ref_Fix vn va vb W (by omega) (by omega)
 generalize decR vn va vb = q at *
 have hall : ∀ x ∈ l.zip (rs.map Rtr.val), Sized 1000000 x.1.total ∧ Sized 1000000 x.2 := fun x hx => by
  obtain ⟨h1, h2⟩ := mem_zip hx
  obtain ⟨t, ht, e⟩ := List.mem_map.1 h2
  exact ⟨hok.total (by decide) h1, by rw [← e]; exact hrs.val (by decide) ht⟩
 have hzat : ∀ (k : Nat) (u : Blc) (t : Rtr), l[k]? = some u → rs[k]? = some t → (l.zip (rs.map Rtr.val))[k]? = some (u, t.val) := fun k u t hu ht => zip_at hu (by rw [List.getElem?_map, ht]; rfl)
 have hzl : (l.zip (rs.map Rtr.val)).length = l.length := by rw [List.length_zip, List.length_map]; omega
 generalize l.zip (rs.map Rtr.val) = zl at *
 have hsz : ∀ k, k ≤ l.length → Sized 17179869184 (residTo q zl k) := fun k hk => (residTo_sized sq hall k (by omega)).mono (by omega)
 have HE : Hid (residTo q zl l.length = resid q zl) := by show _ = _; rw [← hzl]; exact residTo_end q zl
 have HSZ := Lib.hid hsz
 have HZ := Lib.hid hzat
 have HOK := Lib.hid hok
 have HOR := Lib.hid hrs
 obtain ⟨A, c, rfl, hl, hc⟩ := h.slice
 obtain ⟨RA, rc, rfl, hrl, hrc⟩ := hr.slice
 clear hr
 rw [hlen] at HR hrl ⊢
 have HLEN := Lib.hid hlen
 unfold rat raw at hv
 have HV := Lib.hid hv
 clear h hlen hok hrs lva lvb sq hv hall hzat hsz hzl
 go_enter Tryz.func39, Tryz.ntmps39
 have HS := Lib.hid (St.start w)
 go_wp2_with fail
 have HS2 := Lib.hid (St.alloc ((St.alloc (HS.out) #[.bool vn, .string (bs va), .string (bs vb), .slice A l.length c] 28 (w.heap.size) (by simp))) #[.bool false, .string (bs []), .string (bs [])] 25 (w.heap.size + 1) (by simp))
 refine (HV.out _).mono ?_
 rintro e w3 ⟨rfl, hb3⟩
 have HS3 := Lib.hid (HS2.out.call hb3)
 clear hb3 HS HS2
 go_wp2
 go_loopw [6] (fun i wr => ∃ k : Nat, k ≤ l.length ∧ i = .int .i64 k ∧ Hid (St w [⟨w3.heap.size, #[.bool (negB (residTo q zl k)), .string (bs (numB (residTo q zl k))), .string (bs (denomB (residTo q zl k)))], 25⟩, ⟨w.heap.size + 1, #[.bool false, .string (bs []), .string (bs [])], 25⟩, ⟨w.heap.size, #[.bool vn, .string (bs va), .string (bs vb), .slice A l.length c], 28⟩] wr)) (fun i _ => l.length - (intOf i).toNat)
 case atStart => exact ⟨0, Nat.zero_le _, rfl, by rw [show residTo q zl 0 = q from rfl]; exact (St.alloc (HS3.out) #[.bool (negB (q)), .string (bs (numB (q))), .string (bs (denomB (q)))] 25 (w3.heap.size) (by simp))⟩
 case round =>
  obtain ⟨k, hk, rfl, HS⟩ := hrel
  by_cases hlt : k < l.length
  ·obtain ⟨b, o, u, rfl, hbb, hq, hx⟩ := H.out.at_ hlt
   obtain ⟨rb, ro, t, rfl, hbr, hqt, hy⟩ := HR.out.at_ (show k < rs.length by have := HLEN.out; omega)
   have ho := HOK.out u (List.mem_of_getElem? hq)
   have hot := HOR.out t (List.mem_of_getElem? hqt)
   have hstep := residTo_step (value := q) (HZ.out k u t hq hqt)
   dsimp only at hstep
   have hM := fun W => ref_Multiply u.tn u.ta u.tb t.n t.a t.b W (Nat.le_trans ho.1.1 (by decide)) (Nat.le_trans ho.1.2 (by decide)) (by omega) (by omega)
   rw [show decR u.tn u.ta u.tb * decR t.n t.a t.b = u.total * t.val from rfl] at hM
   have hS := fun W => ref_Minus (residTo q zl k) (u.total * t.val) W (HSZ.out k hk) (((sized_dec ho.1.1 ho.1.2 (by decide)).mul (sized_dec hot.1 hot.2 (by decide))).mono (by decide))
   rw [← hstep] at hS
   generalize u.total * t.val = m at *
   unfold rat raw at hM hS
   have HM := Lib.hid hM
   have HS5 := Lib.hid hS
   have HX := Lib.hid hx
   have HY := Lib.hid hy
   have e0 : (0 : Int) ≤ ((k : Nat) : Int) := by omega
   have e1 : ((k : Nat) : Int) < (l.length : Int) := by omega
   clear hM hS hx hy hq hqt ho hot hstep
   have x1 := HS.out.cell 2 rfl 3 rfl
   go_wp2
   clear x1
   refine wp_region_eq 13 [.agg #[.bool (negB (residTo q zl k)), .string (bs (numB (residTo q zl k))), .string (bs (denomB (residTo q zl k)))], .pointer (some ⟨w.heap.size, 3, none⟩), .slice (some ⟨b, o, none⟩) l.length c, .int .i64 (k : Nat), .pointer (some ⟨b, o + k * 11, none⟩), .pointer (some ⟨b, o + k * 11 + 1, none⟩), .agg #[.bool u.tn, .string (bs u.ta), .string (bs u.tb)], .slice (some ⟨rb, ro, none⟩) l.length rc, .int .i64 (k : Nat), .pointer (some ⟨rb, ro + k * 3, none⟩), .agg #[.bool t.n, .string (bs t.a), .string (bs t.b)], .agg #[.bool (negB (m)), .string (bs (numB (m))), .string (bs (denomB (m)))], .agg #[.bool (negB (residTo q zl (k + 1))), .string (bs (numB (residTo q zl (k + 1)))), .string (bs (denomB (residTo q zl (k + 1))))]] rfl (by kernel_rfl) (by kernel_rfl) (by kernel_rfl) ?_ ?_
   refine ⟨?_, ?_, ?_, ?_, ?_, ?_, ?_, ?_, ?_, ?_, ?_, ?_, ?_, trivial⟩
   ·intro xx af wv hbx hev hev0 hd; have e5 : af.tmps[5]?.getD undef = .pointer (some ⟨w3.heap.size, 0, none⟩) := hev0 5 rfl; clear hev hev0 hd; have hs1 := Lib.hid (HS.out.call hbx); obtain ⟨y0, y1, y2⟩ := hs1.out.k0 0 rfl rfl rfl rfl; go_wp2; exact sQ rfl
   ·intro xx af wv hbx hev hev0 hd; have e2 : af.tmps[2]?.getD undef = .pointer (some ⟨w.heap.size, 0, none⟩) := hev0 2 rfl; clear hev hev0 hd; go_wp2; exact sQ rfl
   ·intro xx af wv hbx hev hev0 hd; have e18 := (hev 1 _ 18 rfl rfl).trans (hd ⟨1, .data⟩ (by simp) rfl); clear hev hev0 hd; have hs1 := Lib.hid (HS.out.call hbx); have y0 := hs1.out.cell 2 rfl 3 rfl; go_wp2; exact sQ rfl
   ·intro xx af wv hbx hev hev0 hd; have e6 : af.tmps[6]?.getD undef = .int .i64 (k : Nat) := hev0 6 rfl; clear hev hev0 hd; go_wp2; exact sQ rfl
   ·intro xx af wv hbx hev hev0 hd; have e19 := (hev 2 _ 19 rfl rfl).trans (hd ⟨2, .data⟩ (by simp) rfl); have e20 := (hev 3 _ 20 rfl rfl).trans (hd ⟨3, .data⟩ (by simp) rfl); clear hev hev0 hd; go_wp2; exact sQ rfl
   ·intro xx af wv hbx hev hev0 hd; have e21 := (hev 4 _ 21 rfl rfl).trans (hd ⟨4, .data⟩ (by simp) rfl); clear hev hev0 hd; go_wp2; exact sQ rfl
   ·intro xx af wv hbx hev hev0 hd; have e22 := (hev 5 _ 22 rfl rfl).trans (hd ⟨5, .data⟩ (by simp) rfl); clear hev hev0 hd; have hs1 := Lib.hid (HS.out.call hbx); obtain ⟨y0, y1, y2⟩ := kE1 (HX.out _ hs1.out.below) rfl rfl rfl; go_wp2; exact sQ rfl
   ·intro xx af wv hbx hev hev0 hd; have e1 : af.tmps[1]?.getD undef = .slice (some ⟨rb, ro, none⟩) l.length rc := hev0 1 rfl; clear hev hev0 hd; go_wp2; exact sQ rfl
   ·intro xx af wv hbx hev hev0 hd; have e6 : af.tmps[6]?.getD undef = .int .i64 (k : Nat) := hev0 6 rfl; clear hev hev0 hd; go_wp2; exact sQ rfl
   ·intro xx af wv hbx hev hev0 hd; have e24 := (hev 7 _ 24 rfl rfl).trans (hd ⟨7, .data⟩ (by simp) rfl); have e25 := (hev 8 _ 25 rfl rfl).trans (hd ⟨8, .data⟩ (by simp) rfl); clear hev hev0 hd; go_wp2; exact sQ rfl
   ·intro xx af wv hbx hev hev0 hd; have e26 := (hev 9 _ 26 rfl rfl).trans (hd ⟨9, .data⟩ (by simp) rfl); clear hev hev0 hd; have hs1 := Lib.hid (HS.out.call hbx); obtain ⟨y0, y1, y2⟩ := kE0 (HY.out _ hs1.out.below) rfl rfl rfl; go_wp2; exact sQ rfl
   ·intro xx af wv hbx hev hev0 hd
    have e23 := (hev 6 _ 23 rfl rfl).trans (hd ⟨6, .data⟩ (by simp) rfl)
    have e27 := (hev 10 _ 27 rfl rfl).trans (hd ⟨10, .data⟩ (by simp) rfl)
    clear hev hev0 hd
    go_wp2_with fail
    refine (HM.out _).mono ?_
    rintro e w8 ⟨rfl, hb8⟩
    go_wp2
    exact StepQ.mk _ hb8 rfl
   ·intro xx af wv hbx hev hev0 hd
    have e17 := (hev 0 _ 17 rfl rfl).trans (hd ⟨0, .data⟩ (by simp) rfl)
    have e28 := (hev 11 _ 28 rfl rfl).trans (hd ⟨11, .data⟩ (by simp) rfl)
    clear hev hev0 hd
    go_wp2_with fail
    refine (HS5.out _).mono ?_
    rintro e w8 ⟨rfl, hb8⟩
    go_wp2
    exact StepQ.mk _ hb8 rfl
   intro xx w4 hb9 hv
   simp only [List.take, List.drop, fillA, Act.put]
   simp only [show xx 0 = _ from hv 0 (by decide), show xx 1 = _ from hv 1 (by decide), show xx 2 = _ from hv 2 (by decide), show xx 3 = _ from hv 3 (by decide), show xx 4 = _ from hv 4 (by decide), show xx 5 = _ from hv 5 (by decide), show xx 6 = _ from hv 6 (by decide), show xx 7 = _ from hv 7 (by decide), show xx 8 = _ from hv 8 (by decide), show xx 9 = _ from hv 9 (by decide), show xx 10 = _ from hv 10 (by decide), show xx 11 = _ from hv 11 (by decide), show xx 12 = _ from hv 12 (by decide)]
   clear hv
   have HS4 := Lib.hid (HS.out.call hb9)
   clear hb9 HS
   obtain ⟨x2, x3, x4⟩ := HS4.out.k0 0 rfl rfl rfl rfl
   obtain ⟨x5, x6, x7⟩ := HS4.out.f0 0 rfl
   have x8 := HS4.out.ne 0 1 rfl rfl (by decide)
   have x9 := HS4.out.ne 1 0 rfl rfl (by decide)
   have x10 := HS4.out.ne 0 2 rfl rfl (by decide)
   have x11 := HS4.out.ne 2 0 rfl rfl (by decide)
   go_wp2
   have HS5 : Hid (St w [⟨w3.heap.size, #[.bool (negB (residTo q zl (k + 1))), .string (bs (numB (residTo q zl (k + 1)))), .string (bs (denomB (residTo q zl (k + 1))))], 25⟩, ⟨w.heap.size + 1, #[.bool false, .string (bs []), .string (bs [])], 25⟩, ⟨w.heap.size, #[.bool vn, .string (bs va), .string (bs vb), .slice (some ⟨b, o, none⟩) l.length c], 28⟩] _) := Lib.hid (St.set ((St.set ((St.set (HS4.out) 0 rfl 0 _)) 0 rfl 1 _)) 0 rfl 2 _)
   go_roundw
   case rel => exact ⟨k + 1, by omega, by go_num, HS5.out.sub (by simp)⟩
   case measure => simp [intOf]; omega
  ·obtain rfl : k = l.length := by omega
   have x1 := HS.out.cell 2 rfl 3 rfl
   obtain ⟨x2, x3, x4⟩ := HS.out.k0 0 rfl rfl rfl rfl
   obtain ⟨x5, x6, x7⟩ := HS.out.k0 1 rfl rfl rfl rfl
   obtain ⟨x8, x9, x10⟩ := HS.out.f0 1 rfl
   have x11 := HS.out.ne 1 0 rfl rfl (by decide)
   have x12 := HS.out.ne 0 1 rfl rfl (by decide)
   have x13 := HS.out.ne 1 2 rfl rfl (by decide)
   have x14 := HS.out.ne 2 1 rfl rfl (by decide)
   go_wp2
   have HS4 : Hid (St w [⟨w3.heap.size, #[.bool (negB (residTo q zl l.length)), .string (bs (numB (residTo q zl l.length))), .string (bs (denomB (residTo q zl l.length)))], 25⟩, ⟨w.heap.size + 1, #[.bool (negB (residTo q zl l.length)), .string (bs (numB (residTo q zl l.length))), .string (bs (denomB (residTo q zl l.length)))], 25⟩, ⟨w.heap.size, #[.bool vn, .string (bs va), .string (bs vb), .slice A l.length c], 28⟩] _) := Lib.hid (St.set ((St.set ((St.set (HS.out) 1 rfl 0 _)) 1 rfl 1 _)) 1 rfl 2 _)
   refine bodyPost_ret (raw_result rfl _ _ _ _ _ _ rfl (HS4.out.blk 1 rfl)) rfl ?_
   rw [← HE.out]
   exact ⟨rfl, HS4.out.below⟩
end Go.Proofs.YtcllocdhbicpkaaGreatDoor
