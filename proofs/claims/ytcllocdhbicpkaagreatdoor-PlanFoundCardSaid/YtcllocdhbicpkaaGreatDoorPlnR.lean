/-
What a plan leaves, checked: the document's Residue (printed by gen_pln6.py).
-/
import Derived.Test.YtcllocdhbicpkaaGreatDoorPlnQ
import Derived.Test.YtcllocdhbicpkaaGreatDoorPlnM
namespace Go.Proofs.YtcllocdhbicpkaaGreatDoor
open Go.RowKit

set_option maxRecDepth 100000 in
set_option maxHeartbeats 1000000 in
theorem ref_Residue (vn : Bool) (va vb : List UInt8) (v : Value) (l : List Blc) (rv : Value) (rs : List Rtr) (w : World) (h : BlocsL w v l) (hr : RatsL w rv rs) (hok : SmallBl 1000000 l) (hrs : SmallT 1000000 rs) (lva : va.length ≤ 1000000) (lvb : vb.length ≤ 1000000) :
  Calls Tryz.prog 18 #[.agg #[.bool vn, .string (bs va), .string (bs vb), v], rv] w fun e w' => e = .returned (.tuple #[rat (residR (decR vn va vb) l (rs.map Rtr.val)).1, .int .i64 (residR (decR vn va vb) l (rs.map Rtr.val)).2]) ∧ Below w.heap.size w w' := by
 have hC := fun W (hb : Below w.heap.size w W) => ref_CheckVenture vn va vb v l W (h.below hb) (hok.mono (by decide)) (by omega) (by omega)
 have hD := fun W (hb : Below w.heap.size w W) (hlen : rs.length = l.length) (h16 : l.length ≤ 16) => ref_residue vn va vb v l rv rs W (h.below hb) (hr.below hb) hok hrs lva lvb hlen h16
 have HR := Lib.hid hr
 have HOR := Lib.hid hrs
 have hdef := resid_def (decR vn va vb) l rs
 have h16 := fun h : checkVn (decR vn va vb) l = 0 => (checkVn_zero h).2.1
 have hnb : ∀ n : Int, n ≠ 0 → (n == 0) = false ∧ (n != 0) = true := fun n h => ⟨beq_eq_false_iff_ne.2 h, by rw [bne, beq_eq_false_iff_ne.2 h]; rfl⟩
 generalize checkVn (decR vn va vb) l = n at *
 generalize residR (decR vn va vb) l (rs.map Rtr.val) = ans at *
 generalize resid (decR vn va vb) (l.zip (rs.map Rtr.val)) = q at *
 obtain ⟨A, c, rfl, hl, hc⟩ := h.slice
 obtain ⟨RA, rc, rfl, hrl, hrc⟩ := hr.slice
 unfold rat raw at hD ⊢
 have HC := Lib.hid hC
 clear h hr hok hrs lva lvb hC
 by_cases h0 : n = 0
 ·subst h0
  have h16 := h16 rfl
  rw [if_neg (by decide)] at hdef
  by_cases hlen : rs.length = l.length
  ·rw [if_neg (by omega)] at hdef
   have HD := Lib.hid (fun W (hb : Below w.heap.size w W) => hD W hb hlen h16)
   clear hD hnb
   have HLEN := Lib.hid hlen
   generalize rs.length = m at hlen hrl HR HD ⊢
   subst hlen
   have HA : Hid (∀ aB, (rs.map Rtr.val).all rateB = aB → ans = if aB = false then (0, 1) else (q, 0)) := fun aB h => by rw [hdef, h]
   clear hdef
   go_enter Tryz.func18, Tryz.ntmps18
   have HS := Lib.hid (St.start w)
   go_wp2_with fail
   have HS2 := Lib.hid (St.alloc ((St.alloc (HS.out) #[.bool vn, .string (bs va), .string (bs vb), .slice A l.length c] 28 (w.heap.size) (by simp))) #[.bool false, .string (bs []), .string (bs [])] 25 (w.heap.size + 1) (by simp))
   refine (HC.out _ HS2.out.below).mono ?_
   rintro e w3 ⟨rfl, hb3⟩
   have HS3 := Lib.hid (HS2.out.call hb3)
   clear hb3 HS HS2
   have x1 := HS3.out.cell 1 rfl 3 rfl
   go_wp2
   go_loopw [7] (fun i wr => ∃ k : Nat, k ≤ l.length ∧ i = .int .i64 k ∧ Hid ((rs.take k).all (fun t => rateB t.val) = true) ∧ Hid (St w [⟨w.heap.size + 1, #[.bool false, .string (bs []), .string (bs [])], 25⟩, ⟨w.heap.size, #[.bool vn, .string (bs va), .string (bs vb), .slice A l.length c], 28⟩] wr)) (fun i _ => l.length - (intOf i).toNat)
   case atStart => exact ⟨0, Nat.zero_le _, rfl, rfl, HS3.out⟩
   case round =>
    clear HS3
    obtain ⟨k, hk, rfl, HALL, HS⟩ := hrel
    by_cases hlt : k < l.length
    ·obtain ⟨rb, ro, t, rfl, hbr, hqt, hy⟩ := HR.out.at_ (show k < rs.length by have := HLEN.out; omega)
     have hot := HOR.out t (List.mem_of_getElem? hqt)
     have hT := fun W => ref_rate t.n t.a t.b W (by omega) (by omega)
     change ∀ W, Calls Tryz.prog _ _ W (fun e w' => e = .returned (.bool (rateB t.val)) ∧ _) at hT
     have hall := take_all (f := fun t => rateB t.val) hqt
     rw [HALL.out, Bool.true_and] at hall
     have hno : rateB t.val = false → ans = (0, 1) := fun h => by
      have := HA.out false (by rw [List.all_map, List.all_eq_false]; exact ⟨t, List.mem_of_getElem? hqt, by show ¬ rateB t.val = true; rw [h]; decide⟩)
      rw [this, if_pos rfl]
     generalize rateB t.val = tB at *
     unfold raw at hT
     have HT := Lib.hid hT
     have HY := Lib.hid hy
     have HALL1 := Lib.hid hall
     have e0 : (0 : Int) ≤ ((k : Nat) : Int) := by omega
     have e1 : ((k : Nat) : Int) < (l.length : Int) := by omega
     clear hT hy hqt hot hall HALL
     cases tB
     ·have R := Lib.hid (hno rfl)
      clear hno
      obtain ⟨x2, x3, x4⟩ := kE0 (HY.out _ HS.out.below) rfl rfl rfl
      go_wp2_with fail
      refine (HT.out _).mono ?_
      rintro e w4 ⟨rfl, hb4⟩
      have HS4 := Lib.hid (HS.out.call hb4)
      clear hb4 HS
      clear x2 x3 x4
      obtain ⟨x5, x6, x7⟩ := HS4.out.k0 0 rfl rfl rfl rfl
      obtain ⟨x8, x9, x10⟩ := HS4.out.f0 0 rfl
      have x11 := HS4.out.ne 0 1 rfl rfl (by decide)
      have x12 := HS4.out.ne 1 0 rfl rfl (by decide)
      go_wp2
      have HS5 : Hid (St w [⟨w.heap.size + 1, #[.bool false, .string (bs []), .string (bs [])], 25⟩, ⟨w.heap.size, #[.bool vn, .string (bs va), .string (bs vb), .slice A l.length c], 28⟩] _) := Lib.hid (St.set ((St.set ((St.set (HS4.out) 0 rfl 0 _)) 0 rfl 1 _)) 0 rfl 2 _)
      refine bodyPost_ret (raw_result2 rfl _ _ _ _ _ _ rfl (HS5.out.blk 0 rfl)) rfl ?_
      rw [R.out, show negB ((0 : Rat), (1 : Int)).1 = false from enc00.1, show numB ((0 : Rat), (1 : Int)).1 = [] from enc00.2.1, show denomB ((0 : Rat), (1 : Int)).1 = [] from enc00.2.2]
      exact ⟨rfl, HS5.out.below⟩
     ·clear hno
      obtain ⟨x2, x3, x4⟩ := kE0 (HY.out _ HS.out.below) rfl rfl rfl
      go_wp2_with fail
      refine (HT.out _).mono ?_
      rintro e w4 ⟨rfl, hb4⟩
      have HS4 := Lib.hid (HS.out.call hb4)
      clear hb4 HS
      clear x2 x3 x4
      go_wp2
      have HS5 := Lib.hid HS4.out
      go_roundw
      case rel => exact ⟨k + 1, by omega, by go_num, HALL1.out, HS5.out.sub (by simp)⟩
      case measure => simp [intOf]; omega
    ·obtain rfl : k = l.length := by omega
     have R : Hid (ans = (q, 0)) := by
      have := HALL.out
      rw [← HLEN.out, List.take_length] at this
      exact HA.out true (by rw [List.all_map]; exact this)
     clear HALL HA
     obtain ⟨x2, x3, x4⟩ := HS.out.k0 1 rfl rfl rfl rfl
     have x5 := HS.out.cell 1 rfl 3 rfl
     go_wp2_with fail
     refine (HD.out _ HS.out.below).mono ?_
     rintro e w4 ⟨rfl, hb4⟩
     have HS4 := Lib.hid (HS.out.call hb4)
     clear hb4 HS
     clear x2 x3 x4 x5
     obtain ⟨x6, x7, x8⟩ := HS4.out.k0 0 rfl rfl rfl rfl
     obtain ⟨x9, x10, x11⟩ := HS4.out.f0 0 rfl
     have x12 := HS4.out.ne 0 1 rfl rfl (by decide)
     have x13 := HS4.out.ne 1 0 rfl rfl (by decide)
     go_wp2
     have HS5 : Hid (St w [⟨w.heap.size + 1, #[.bool (negB (q)), .string (bs (numB (q))), .string (bs (denomB (q)))], 25⟩, ⟨w.heap.size, #[.bool vn, .string (bs va), .string (bs vb), .slice A l.length c], 28⟩] _) := Lib.hid (St.set ((St.set ((St.set (HS4.out) 0 rfl 0 _)) 0 rfl 1 _)) 0 rfl 2 _)
     refine bodyPost_ret (raw_result2 rfl _ _ _ _ _ _ rfl (HS5.out.blk 0 rfl)) rfl ?_
     rw [R.out]
     exact ⟨rfl, HS5.out.below⟩
  ·rw [if_pos hlen] at hdef
   have R := Lib.hid hdef
   have d1 : ((rs.length : Int) != (l.length : Int)) = true := by rw [bne, beq_eq_false_iff_ne.2 (by omega)]; rfl
   have d2 : (rs.length != l.length) = true := by rw [bne, beq_eq_false_iff_ne.2 hlen]; rfl
   have d3 : (rs.length == l.length) = false := beq_eq_false_iff_ne.2 hlen
   clear hD hnb hdef
   go_enter Tryz.func18, Tryz.ntmps18
   have HS := Lib.hid (St.start w)
   go_wp2_with fail
   have HS2 := Lib.hid (St.alloc ((St.alloc (HS.out) #[.bool vn, .string (bs va), .string (bs vb), .slice A l.length c] 28 (w.heap.size) (by simp))) #[.bool false, .string (bs []), .string (bs [])] 25 (w.heap.size + 1) (by simp))
   refine (HC.out _ HS2.out.below).mono ?_
   rintro e w3 ⟨rfl, hb3⟩
   have HS3 := Lib.hid (HS2.out.call hb3)
   clear hb3 HS HS2
   have x1 := HS3.out.cell 1 rfl 3 rfl
   obtain ⟨x2, x3, x4⟩ := HS3.out.k0 0 rfl rfl rfl rfl
   obtain ⟨x5, x6, x7⟩ := HS3.out.f0 0 rfl
   have x8 := HS3.out.ne 0 1 rfl rfl (by decide)
   have x9 := HS3.out.ne 1 0 rfl rfl (by decide)
   go_wp2
   have HS4 : Hid (St w [⟨w.heap.size + 1, #[.bool false, .string (bs []), .string (bs [])], 25⟩, ⟨w.heap.size, #[.bool vn, .string (bs va), .string (bs vb), .slice A l.length c], 28⟩] _) := Lib.hid (St.set ((St.set ((St.set (HS3.out) 0 rfl 0 _)) 0 rfl 1 _)) 0 rfl 2 _)
   refine bodyPost_ret (raw_result2 rfl _ _ _ _ _ _ rfl (HS4.out.blk 0 rfl)) rfl ?_
   rw [R.out, show negB ((0 : Rat), (4 : Int)).1 = false from enc00.1, show numB ((0 : Rat), (4 : Int)).1 = [] from enc00.2.1, show denomB ((0 : Rat), (4 : Int)).1 = [] from enc00.2.2]
   exact ⟨rfl, HS4.out.below⟩
 ·rw [if_pos h0] at hdef
  have R := Lib.hid hdef
  have d1 := (hnb n h0).1
  have d2 := (hnb n h0).2
  clear hD hnb hdef
  go_enter Tryz.func18, Tryz.ntmps18
  have HS := Lib.hid (St.start w)
  go_wp2_with fail
  have HS2 := Lib.hid (St.alloc ((St.alloc (HS.out) #[.bool vn, .string (bs va), .string (bs vb), .slice A l.length c] 28 (w.heap.size) (by simp))) #[.bool false, .string (bs []), .string (bs [])] 25 (w.heap.size + 1) (by simp))
  refine (HC.out _ HS2.out.below).mono ?_
  rintro e w3 ⟨rfl, hb3⟩
  have HS3 := Lib.hid (HS2.out.call hb3)
  clear hb3 HS HS2
  obtain ⟨x1, x2, x3⟩ := HS3.out.k0 0 rfl rfl rfl rfl
  obtain ⟨x4, x5, x6⟩ := HS3.out.f0 0 rfl
  have x7 := HS3.out.ne 0 1 rfl rfl (by decide)
  have x8 := HS3.out.ne 1 0 rfl rfl (by decide)
  go_wp2
  have HS4 : Hid (St w [⟨w.heap.size + 1, #[.bool false, .string (bs []), .string (bs [])], 25⟩, ⟨w.heap.size, #[.bool vn, .string (bs va), .string (bs vb), .slice A l.length c], 28⟩] _) := Lib.hid (St.set ((St.set ((St.set (HS3.out) 0 rfl 0 _)) 0 rfl 1 _)) 0 rfl 2 _)
  refine bodyPost_ret (raw_result2 rfl _ _ _ _ _ _ rfl (HS4.out.blk 0 rfl)) rfl ?_
  rw [R.out, show negB ((0 : Rat), (n : Int)).1 = false from enc00.1, show numB ((0 : Rat), (n : Int)).1 = [] from enc00.2.1, show denomB ((0 : Rat), (n : Int)).1 = [] from enc00.2.2]
  exact ⟨rfl, HS4.out.below⟩
end Go.Proofs.YtcllocdhbicpkaaGreatDoor
