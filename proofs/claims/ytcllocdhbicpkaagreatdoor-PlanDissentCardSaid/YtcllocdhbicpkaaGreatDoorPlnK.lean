/-
Products, the greater of two, the tests of a rate: the program's and the document's (printed by gen_pln1.py).
-/
import Derived.Test.YtcllocdhbicpkaaGreatDoorW0


namespace Go.Proofs.YtcllocdhbicpkaaGreatDoor
open Go.RowKit

abbrev blcV (x : Blc) : Value := .agg #[.int .i64 x.rank, .bool x.tn, .string (bs x.ta), .string (bs x.tb), .bool x.fn, .string (bs x.fa), .string (bs x.fb), .bool x.kn, .string (bs x.ka), .string (bs x.kb), .bool x.acc]

set_option maxRecDepth 100000 in
set_option maxHeartbeats 1000000 in
theorem ref_Multiply (n1 : Bool) (a1 b1 : List UInt8) (n2 : Bool) (a2 b2 : List UInt8) (w : World) (la1 : a1.length ≤ 17179869184) (lb1 : b1.length ≤ 17179869184) (la2 : a2.length ≤ 17179869184) (lb2 : b2.length ≤ 17179869184) :
  Calls Tryz.prog 27 #[raw n1 a1 b1, raw n2 a2 b2] w fun e w' => e = .returned (rat (decR n1 a1 b1 * decR n2 a2 b2)) ∧ Below w.heap.size w w' := by
 have c1 := fun W => ref_Fix n1 a1 b1 W (by omega) (by omega)
 have c2 := fun W => ref_Fix n2 a2 b2 W (by omega) (by omega)
 have sp := sized_dec (neg := n1) la1 lb1 (by decide)
 have sq := sized_dec (neg := n2) la2 lb2 (by decide)
 generalize decR n1 a1 b1 = p at *
 generalize decR n2 a2 b2 = q at *
 clear la1 lb1 la2 lb2
 have ad := fun W => ref_Times p q W sp sq
 clear sp sq
 generalize p * q = r at *
 unfold rat raw at *
 generalize negB p = np at *
 generalize numB p = bp at *
 generalize denomB p = dp at *
 generalize negB q = nq at *
 generalize numB q = bq at *
 generalize denomB q = dq at *
 generalize negB r = nr at *
 generalize numB r = br at *
 generalize denomB r = dr at *
 have C1 := Lib.hid c1
 have C2 := Lib.hid c2
 have AD := Lib.hid ad
 clear c1 c2 ad
 go_enter Tryz.func27, Tryz.ntmps27
 have HS := Lib.hid (St.start w)
 go_wp2
 have HS2 := Lib.hid (St.alloc ((St.alloc ((St.alloc (HS.out) #[.bool n1, .string (bs a1), .string (bs b1)] 25 (w.heap.size) (by simp))) #[.bool n2, .string (bs a2), .string (bs b2)] 25 (w.heap.size + 1) (by simp))) #[.bool false, .string (bs []), .string (bs [])] 25 (w.heap.size + 1 + 1) (by simp))
 clear HS
 refine wp_region_eq 5 [.agg #[.bool n1, .string (bs a1), .string (bs b1)], .agg #[.bool np, .string (bs bp), .string (bs dp)], .agg #[.bool n2, .string (bs a2), .string (bs b2)], .agg #[.bool nq, .string (bs bq), .string (bs dq)], .agg #[.bool nr, .string (bs br), .string (bs dr)]] rfl (by kernel_rfl) (by kernel_rfl) (by kernel_rfl) ?_ ?_
 refine ⟨?_, ?_, ?_, ?_, ?_, trivial⟩
 ·intro xx af wv hbx hev hev0 hd; have e2 : af.tmps[2]?.getD undef = .pointer (some ⟨w.heap.size, 0, none⟩) := hev0 2 rfl; clear hev hev0 hd; have hs1 := Lib.hid (HS2.out.call hbx); obtain ⟨y0, y1, y2⟩ := hs1.out.k0 2 rfl rfl rfl rfl; go_wp2; exact sQ rfl
 ·intro xx af wv hbx hev hev0 hd
  have e5 := (hev 0 _ 5 rfl rfl).trans (hd ⟨0, .data⟩ (by simp) rfl)
  clear hev hev0 hd
  go_wp2_with fail
  refine (C1.out _).mono ?_
  rintro e w8 ⟨rfl, hb8⟩
  go_wp2
  exact StepQ.mk _ hb8 rfl
 ·intro xx af wv hbx hev hev0 hd; have e3 : af.tmps[3]?.getD undef = .pointer (some ⟨w.heap.size + 1, 0, none⟩) := hev0 3 rfl; clear hev hev0 hd; have hs1 := Lib.hid (HS2.out.call hbx); obtain ⟨y0, y1, y2⟩ := hs1.out.k0 1 rfl rfl rfl rfl; go_wp2; exact sQ rfl
 ·intro xx af wv hbx hev hev0 hd
  have e7 := (hev 2 _ 7 rfl rfl).trans (hd ⟨2, .data⟩ (by simp) rfl)
  clear hev hev0 hd
  go_wp2_with fail
  refine (C2.out _).mono ?_
  rintro e w8 ⟨rfl, hb8⟩
  go_wp2
  exact StepQ.mk _ hb8 rfl
 ·intro xx af wv hbx hev hev0 hd
  have e6 := (hev 1 _ 6 rfl rfl).trans (hd ⟨1, .data⟩ (by simp) rfl)
  have e8 := (hev 3 _ 8 rfl rfl).trans (hd ⟨3, .data⟩ (by simp) rfl)
  clear hev hev0 hd
  go_wp2_with fail
  refine (AD.out _).mono ?_
  rintro e w8 ⟨rfl, hb8⟩
  go_wp2
  exact StepQ.mk _ hb8 rfl
 intro xx w6 hb9 hv
 simp only [List.take, List.drop, fillA, Act.put]
 simp only [show xx 0 = _ from hv 0 (by decide), show xx 1 = _ from hv 1 (by decide), show xx 2 = _ from hv 2 (by decide), show xx 3 = _ from hv 3 (by decide), show xx 4 = _ from hv 4 (by decide)]
 clear hv
 have HS6 := Lib.hid (HS2.out.call hb9)
 clear hb9 HS2
 obtain ⟨x1, x2, x3⟩ := HS6.out.k0 0 rfl rfl rfl rfl
 obtain ⟨x4, x5, x6⟩ := HS6.out.f0 0 rfl
 have x7 := HS6.out.ne 0 1 rfl rfl (by decide)
 have x8 := HS6.out.ne 1 0 rfl rfl (by decide)
 have x9 := HS6.out.ne 0 2 rfl rfl (by decide)
 have x10 := HS6.out.ne 2 0 rfl rfl (by decide)
 go_wp2
 have HS7 : Hid (St w [⟨w.heap.size + 1 + 1, #[.bool nr, .string (bs br), .string (bs dr)], 25⟩, ⟨w.heap.size + 1, #[.bool n2, .string (bs a2), .string (bs b2)], 25⟩, ⟨w.heap.size, #[.bool n1, .string (bs a1), .string (bs b1)], 25⟩] _) := Lib.hid (St.set ((St.set ((St.set (HS6.out) 0 rfl 0 _)) 0 rfl 1 _)) 0 rfl 2 _)
 refine bodyPost_ret (raw_result rfl _ _ _ _ _ _ rfl (HS7.out.blk 0 rfl)) rfl ?_
 exact ⟨rfl, HS7.out.below⟩

set_option maxRecDepth 100000 in
set_option maxHeartbeats 1000000 in
theorem ref_Subtract (n1 : Bool) (a1 b1 : List UInt8) (n2 : Bool) (a2 b2 : List UInt8) (w : World) (la1 : a1.length ≤ 17179869184) (lb1 : b1.length ≤ 17179869184) (la2 : a2.length ≤ 17179869184) (lb2 : b2.length ≤ 17179869184) :
  Calls Tryz.prog 29 #[raw n1 a1 b1, raw n2 a2 b2] w fun e w' => e = .returned (rat (decR n1 a1 b1 - decR n2 a2 b2)) ∧ Below w.heap.size w w' := by
 have c1 := fun W => ref_Fix n1 a1 b1 W (by omega) (by omega)
 have c2 := fun W => ref_Fix n2 a2 b2 W (by omega) (by omega)
 have sp := sized_dec (neg := n1) la1 lb1 (by decide)
 have sq := sized_dec (neg := n2) la2 lb2 (by decide)
 generalize decR n1 a1 b1 = p at *
 generalize decR n2 a2 b2 = q at *
 clear la1 lb1 la2 lb2
 have ad := fun W => ref_Minus p q W sp sq
 clear sp sq
 generalize p - q = r at *
 unfold rat raw at *
 generalize negB p = np at *
 generalize numB p = bp at *
 generalize denomB p = dp at *
 generalize negB q = nq at *
 generalize numB q = bq at *
 generalize denomB q = dq at *
 generalize negB r = nr at *
 generalize numB r = br at *
 generalize denomB r = dr at *
 have C1 := Lib.hid c1
 have C2 := Lib.hid c2
 have AD := Lib.hid ad
 clear c1 c2 ad
 go_enter Tryz.func29, Tryz.ntmps29
 have HS := Lib.hid (St.start w)
 go_wp2
 have HS2 := Lib.hid (St.alloc ((St.alloc ((St.alloc (HS.out) #[.bool n1, .string (bs a1), .string (bs b1)] 25 (w.heap.size) (by simp))) #[.bool n2, .string (bs a2), .string (bs b2)] 25 (w.heap.size + 1) (by simp))) #[.bool false, .string (bs []), .string (bs [])] 25 (w.heap.size + 1 + 1) (by simp))
 clear HS
 refine wp_region_eq 5 [.agg #[.bool n1, .string (bs a1), .string (bs b1)], .agg #[.bool np, .string (bs bp), .string (bs dp)], .agg #[.bool n2, .string (bs a2), .string (bs b2)], .agg #[.bool nq, .string (bs bq), .string (bs dq)], .agg #[.bool nr, .string (bs br), .string (bs dr)]] rfl (by kernel_rfl) (by kernel_rfl) (by kernel_rfl) ?_ ?_
 refine ⟨?_, ?_, ?_, ?_, ?_, trivial⟩
 ·intro xx af wv hbx hev hev0 hd; have e2 : af.tmps[2]?.getD undef = .pointer (some ⟨w.heap.size, 0, none⟩) := hev0 2 rfl; clear hev hev0 hd; have hs1 := Lib.hid (HS2.out.call hbx); obtain ⟨y0, y1, y2⟩ := hs1.out.k0 2 rfl rfl rfl rfl; go_wp2; exact sQ rfl
 ·intro xx af wv hbx hev hev0 hd
  have e5 := (hev 0 _ 5 rfl rfl).trans (hd ⟨0, .data⟩ (by simp) rfl)
  clear hev hev0 hd
  go_wp2_with fail
  refine (C1.out _).mono ?_
  rintro e w8 ⟨rfl, hb8⟩
  go_wp2
  exact StepQ.mk _ hb8 rfl
 ·intro xx af wv hbx hev hev0 hd; have e3 : af.tmps[3]?.getD undef = .pointer (some ⟨w.heap.size + 1, 0, none⟩) := hev0 3 rfl; clear hev hev0 hd; have hs1 := Lib.hid (HS2.out.call hbx); obtain ⟨y0, y1, y2⟩ := hs1.out.k0 1 rfl rfl rfl rfl; go_wp2; exact sQ rfl
 ·intro xx af wv hbx hev hev0 hd
  have e7 := (hev 2 _ 7 rfl rfl).trans (hd ⟨2, .data⟩ (by simp) rfl)
  clear hev hev0 hd
  go_wp2_with fail
  refine (C2.out _).mono ?_
  rintro e w8 ⟨rfl, hb8⟩
  go_wp2
  exact StepQ.mk _ hb8 rfl
 ·intro xx af wv hbx hev hev0 hd
  have e6 := (hev 1 _ 6 rfl rfl).trans (hd ⟨1, .data⟩ (by simp) rfl)
  have e8 := (hev 3 _ 8 rfl rfl).trans (hd ⟨3, .data⟩ (by simp) rfl)
  clear hev hev0 hd
  go_wp2_with fail
  refine (AD.out _).mono ?_
  rintro e w8 ⟨rfl, hb8⟩
  go_wp2
  exact StepQ.mk _ hb8 rfl
 intro xx w6 hb9 hv
 simp only [List.take, List.drop, fillA, Act.put]
 simp only [show xx 0 = _ from hv 0 (by decide), show xx 1 = _ from hv 1 (by decide), show xx 2 = _ from hv 2 (by decide), show xx 3 = _ from hv 3 (by decide), show xx 4 = _ from hv 4 (by decide)]
 clear hv
 have HS6 := Lib.hid (HS2.out.call hb9)
 clear hb9 HS2
 obtain ⟨x1, x2, x3⟩ := HS6.out.k0 0 rfl rfl rfl rfl
 obtain ⟨x4, x5, x6⟩ := HS6.out.f0 0 rfl
 have x7 := HS6.out.ne 0 1 rfl rfl (by decide)
 have x8 := HS6.out.ne 1 0 rfl rfl (by decide)
 have x9 := HS6.out.ne 0 2 rfl rfl (by decide)
 have x10 := HS6.out.ne 2 0 rfl rfl (by decide)
 go_wp2
 have HS7 : Hid (St w [⟨w.heap.size + 1 + 1, #[.bool nr, .string (bs br), .string (bs dr)], 25⟩, ⟨w.heap.size + 1, #[.bool n2, .string (bs a2), .string (bs b2)], 25⟩, ⟨w.heap.size, #[.bool n1, .string (bs a1), .string (bs b1)], 25⟩] _) := Lib.hid (St.set ((St.set ((St.set (HS6.out) 0 rfl 0 _)) 0 rfl 1 _)) 0 rfl 2 _)
 refine bodyPost_ret (raw_result rfl _ _ _ _ _ _ rfl (HS7.out.blk 0 rfl)) rfl ?_
 exact ⟨rfl, HS7.out.below⟩

set_option maxRecDepth 100000 in
set_option maxHeartbeats 1000000 in
theorem ref_Less (p q : Rat) (w : World) (sp : Sized 17179869184 p) (sq : Sized 17179869184 q) :
  Calls Tryz.prog 53 #[rat p, rat q] w fun e w' => e = .returned (.bool (decide (sgn (p - q).num < 0))) ∧ Below w.heap.size w w' := by
 have mi := fun W => ref_Minus p q W sp sq
 have sg := fun W => ref_Signum (negB (p - q)) (numB (p - q)) (denomB (p - q)) W
 rw [sgnR_dec] at sg
 clear sp sq
 generalize sgn (p - q).num = s at *
 generalize p - q = r at *
 unfold rat raw at *
 generalize negB p = np at *
 generalize numB p = bp at *
 generalize denomB p = dp at *
 generalize negB q = nq at *
 generalize numB q = bq at *
 generalize denomB q = dq at *
 generalize negB r = nr at *
 generalize numB r = br at *
 generalize denomB r = dr at *
 have MI := Lib.hid mi
 have SG := Lib.hid sg
 clear mi sg
 go_enter Tryz.func53, Tryz.ntmps53
 have HS := Lib.hid (St.start w)
 go_wp2_with fail
 have HS2 := Lib.hid (St.alloc ((St.alloc (HS.out) #[.bool np, .string (bs bp), .string (bs dp)] 25 (w.heap.size) (by simp))) #[.bool nq, .string (bs bq), .string (bs dq)] 25 (w.heap.size + 1) (by simp))
 refine (MI.out _).mono ?_
 rintro e w3 ⟨rfl, hb3⟩
 have HS3 := Lib.hid (HS2.out.call hb3)
 clear hb3 HS HS2
 go_wp2_with fail
 refine (SG.out _).mono ?_
 rintro e w4 ⟨rfl, hb4⟩
 have HS4 := Lib.hid (HS3.out.call hb4)
 clear hb4 HS3
 go_wp2
 go_ret
 have HS5 := Lib.hid HS4.out
 exact ⟨rfl, HS5.out.below⟩

theorem less_iff {p q : Rat} : decide (sgn (p - q).num < 0) = decide (p < q) := by
 rw [Bool.eq_iff_iff, decide_eq_true_eq, decide_eq_true_eq, sgn_lt]; constructor <;> intro h <;> grind
theorem geq_iff {p q : Rat} : decide (0 ≤ sgn (p - q).num) = !decide (p < q) := by
 rw [← less_iff, Bool.eq_iff_iff]; simp

set_option maxRecDepth 100000 in
set_option maxHeartbeats 1000000 in
theorem ref_Greater (p q : Rat) (w : World) (sp : Sized 17179869184 p) (sq : Sized 17179869184 q) :
  Calls Tryz.prog 59 #[rat p, rat q] w fun e w' => e = .returned (rat (maxR p q)) ∧ Below w.heap.size w w' := by
 have ls := fun W => ref_Less p q W sp sq
 have hm : maxR p q = if decide (p < q) = true then q else p := by unfold maxR; by_cases h : p < q <;> simp [h]
 rw [less_iff] at ls
 rw [hm]
 clear sp sq hm
 generalize decide (p < q) = d at *
 cases d
 ·rw [if_neg (by decide)]
  unfold rat raw at *
  generalize negB p = np at *
  generalize numB p = bp at *
  generalize denomB p = dp at *
  generalize negB q = nq at *
  generalize numB q = bq at *
  generalize denomB q = dq at *
  have LS := Lib.hid ls
  clear ls
  go_enter Tryz.func59, Tryz.ntmps59
  have HS := Lib.hid (St.start w)
  go_wp2_with fail
  have HS2 := Lib.hid (St.alloc ((St.alloc ((St.alloc (HS.out) #[.bool np, .string (bs bp), .string (bs dp)] 25 (w.heap.size) (by simp))) #[.bool nq, .string (bs bq), .string (bs dq)] 25 (w.heap.size + 1) (by simp))) #[.bool false, .string (bs []), .string (bs [])] 25 (w.heap.size + 1 + 1) (by simp))
  refine (LS.out _).mono ?_
  rintro e w3 ⟨rfl, hb3⟩
  have HS3 := Lib.hid (HS2.out.call hb3)
  clear hb3 HS HS2
  obtain ⟨x1, x2, x3⟩ := HS3.out.k0 2 rfl rfl rfl rfl
  obtain ⟨x4, x5, x6⟩ := HS3.out.k0 0 rfl rfl rfl rfl
  obtain ⟨x7, x8, x9⟩ := HS3.out.f0 0 rfl
  have x10 := HS3.out.ne 0 1 rfl rfl (by decide)
  have x11 := HS3.out.ne 1 0 rfl rfl (by decide)
  have x12 := HS3.out.ne 0 2 rfl rfl (by decide)
  have x13 := HS3.out.ne 2 0 rfl rfl (by decide)
  go_wp2
  have HS4 : Hid (St w [⟨w.heap.size + 1 + 1, #[.bool np, .string (bs bp), .string (bs dp)], 25⟩, ⟨w.heap.size + 1, #[.bool nq, .string (bs bq), .string (bs dq)], 25⟩, ⟨w.heap.size, #[.bool np, .string (bs bp), .string (bs dp)], 25⟩] _) := Lib.hid (St.set ((St.set ((St.set (HS3.out) 0 rfl 0 _)) 0 rfl 1 _)) 0 rfl 2 _)
  refine bodyPost_ret (raw_result rfl _ _ _ _ _ _ rfl (HS4.out.blk 0 rfl)) rfl ?_
  exact ⟨rfl, HS4.out.below⟩
 ·rw [if_pos rfl]
  unfold rat raw at *
  generalize negB p = np at *
  generalize numB p = bp at *
  generalize denomB p = dp at *
  generalize negB q = nq at *
  generalize numB q = bq at *
  generalize denomB q = dq at *
  have LS := Lib.hid ls
  clear ls
  go_enter Tryz.func59, Tryz.ntmps59
  have HS := Lib.hid (St.start w)
  go_wp2_with fail
  have HS2 := Lib.hid (St.alloc ((St.alloc ((St.alloc (HS.out) #[.bool np, .string (bs bp), .string (bs dp)] 25 (w.heap.size) (by simp))) #[.bool nq, .string (bs bq), .string (bs dq)] 25 (w.heap.size + 1) (by simp))) #[.bool false, .string (bs []), .string (bs [])] 25 (w.heap.size + 1 + 1) (by simp))
  refine (LS.out _).mono ?_
  rintro e w3 ⟨rfl, hb3⟩
  have HS3 := Lib.hid (HS2.out.call hb3)
  clear hb3 HS HS2
  obtain ⟨x1, x2, x3⟩ := HS3.out.k0 1 rfl rfl rfl rfl
  obtain ⟨x4, x5, x6⟩ := HS3.out.k0 0 rfl rfl rfl rfl
  obtain ⟨x7, x8, x9⟩ := HS3.out.f0 0 rfl
  have x10 := HS3.out.ne 0 1 rfl rfl (by decide)
  have x11 := HS3.out.ne 1 0 rfl rfl (by decide)
  have x12 := HS3.out.ne 0 2 rfl rfl (by decide)
  have x13 := HS3.out.ne 2 0 rfl rfl (by decide)
  go_wp2
  have HS4 : Hid (St w [⟨w.heap.size + 1 + 1, #[.bool nq, .string (bs bq), .string (bs dq)], 25⟩, ⟨w.heap.size + 1, #[.bool nq, .string (bs bq), .string (bs dq)], 25⟩, ⟨w.heap.size, #[.bool np, .string (bs bp), .string (bs dp)], 25⟩] _) := Lib.hid (St.set ((St.set ((St.set (HS3.out) 0 rfl 0 _)) 0 rfl 1 _)) 0 rfl 2 _)
  refine bodyPost_ret (raw_result rfl _ _ _ _ _ _ rfl (HS4.out.blk 0 rfl)) rfl ?_
  exact ⟨rfl, HS4.out.below⟩

set_option maxRecDepth 100000 in
set_option maxHeartbeats 1000000 in
theorem ref_Max (n1 : Bool) (a1 b1 : List UInt8) (n2 : Bool) (a2 b2 : List UInt8) (w : World) (la1 : a1.length ≤ 17179869184) (lb1 : b1.length ≤ 17179869184) (la2 : a2.length ≤ 17179869184) (lb2 : b2.length ≤ 17179869184) :
  Calls Tryz.prog 31 #[raw n1 a1 b1, raw n2 a2 b2] w fun e w' => e = .returned (rat (maxR (decR n1 a1 b1) (decR n2 a2 b2))) ∧ Below w.heap.size w w' := by
 have c1 := fun W => ref_Fix n1 a1 b1 W (by omega) (by omega)
 have c2 := fun W => ref_Fix n2 a2 b2 W (by omega) (by omega)
 have sp := sized_dec (neg := n1) la1 lb1 (by decide)
 have sq := sized_dec (neg := n2) la2 lb2 (by decide)
 generalize decR n1 a1 b1 = p at *
 generalize decR n2 a2 b2 = q at *
 clear la1 lb1 la2 lb2
 have ad := fun W => ref_Greater p q W sp sq
 clear sp sq
 generalize maxR p q = r at *
 unfold rat raw at *
 generalize negB p = np at *
 generalize numB p = bp at *
 generalize denomB p = dp at *
 generalize negB q = nq at *
 generalize numB q = bq at *
 generalize denomB q = dq at *
 generalize negB r = nr at *
 generalize numB r = br at *
 generalize denomB r = dr at *
 have C1 := Lib.hid c1
 have C2 := Lib.hid c2
 have AD := Lib.hid ad
 clear c1 c2 ad
 go_enter Tryz.func31, Tryz.ntmps31
 have HS := Lib.hid (St.start w)
 go_wp2
 have HS2 := Lib.hid (St.alloc ((St.alloc ((St.alloc (HS.out) #[.bool n1, .string (bs a1), .string (bs b1)] 25 (w.heap.size) (by simp))) #[.bool n2, .string (bs a2), .string (bs b2)] 25 (w.heap.size + 1) (by simp))) #[.bool false, .string (bs []), .string (bs [])] 25 (w.heap.size + 1 + 1) (by simp))
 clear HS
 refine wp_region_eq 5 [.agg #[.bool n1, .string (bs a1), .string (bs b1)], .agg #[.bool np, .string (bs bp), .string (bs dp)], .agg #[.bool n2, .string (bs a2), .string (bs b2)], .agg #[.bool nq, .string (bs bq), .string (bs dq)], .agg #[.bool nr, .string (bs br), .string (bs dr)]] rfl (by kernel_rfl) (by kernel_rfl) (by kernel_rfl) ?_ ?_
 refine ⟨?_, ?_, ?_, ?_, ?_, trivial⟩
 ·intro xx af wv hbx hev hev0 hd; have e2 : af.tmps[2]?.getD undef = .pointer (some ⟨w.heap.size, 0, none⟩) := hev0 2 rfl; clear hev hev0 hd; have hs1 := Lib.hid (HS2.out.call hbx); obtain ⟨y0, y1, y2⟩ := hs1.out.k0 2 rfl rfl rfl rfl; go_wp2; exact sQ rfl
 ·intro xx af wv hbx hev hev0 hd
  have e5 := (hev 0 _ 5 rfl rfl).trans (hd ⟨0, .data⟩ (by simp) rfl)
  clear hev hev0 hd
  go_wp2_with fail
  refine (C1.out _).mono ?_
  rintro e w8 ⟨rfl, hb8⟩
  go_wp2
  exact StepQ.mk _ hb8 rfl
 ·intro xx af wv hbx hev hev0 hd; have e3 : af.tmps[3]?.getD undef = .pointer (some ⟨w.heap.size + 1, 0, none⟩) := hev0 3 rfl; clear hev hev0 hd; have hs1 := Lib.hid (HS2.out.call hbx); obtain ⟨y0, y1, y2⟩ := hs1.out.k0 1 rfl rfl rfl rfl; go_wp2; exact sQ rfl
 ·intro xx af wv hbx hev hev0 hd
  have e7 := (hev 2 _ 7 rfl rfl).trans (hd ⟨2, .data⟩ (by simp) rfl)
  clear hev hev0 hd
  go_wp2_with fail
  refine (C2.out _).mono ?_
  rintro e w8 ⟨rfl, hb8⟩
  go_wp2
  exact StepQ.mk _ hb8 rfl
 ·intro xx af wv hbx hev hev0 hd
  have e6 := (hev 1 _ 6 rfl rfl).trans (hd ⟨1, .data⟩ (by simp) rfl)
  have e8 := (hev 3 _ 8 rfl rfl).trans (hd ⟨3, .data⟩ (by simp) rfl)
  clear hev hev0 hd
  go_wp2_with fail
  refine (AD.out _).mono ?_
  rintro e w8 ⟨rfl, hb8⟩
  go_wp2
  exact StepQ.mk _ hb8 rfl
 intro xx w6 hb9 hv
 simp only [List.take, List.drop, fillA, Act.put]
 simp only [show xx 0 = _ from hv 0 (by decide), show xx 1 = _ from hv 1 (by decide), show xx 2 = _ from hv 2 (by decide), show xx 3 = _ from hv 3 (by decide), show xx 4 = _ from hv 4 (by decide)]
 clear hv
 have HS6 := Lib.hid (HS2.out.call hb9)
 clear hb9 HS2
 obtain ⟨x1, x2, x3⟩ := HS6.out.k0 0 rfl rfl rfl rfl
 obtain ⟨x4, x5, x6⟩ := HS6.out.f0 0 rfl
 have x7 := HS6.out.ne 0 1 rfl rfl (by decide)
 have x8 := HS6.out.ne 1 0 rfl rfl (by decide)
 have x9 := HS6.out.ne 0 2 rfl rfl (by decide)
 have x10 := HS6.out.ne 2 0 rfl rfl (by decide)
 go_wp2
 have HS7 : Hid (St w [⟨w.heap.size + 1 + 1, #[.bool nr, .string (bs br), .string (bs dr)], 25⟩, ⟨w.heap.size + 1, #[.bool n2, .string (bs a2), .string (bs b2)], 25⟩, ⟨w.heap.size, #[.bool n1, .string (bs a1), .string (bs b1)], 25⟩] _) := Lib.hid (St.set ((St.set ((St.set (HS6.out) 0 rfl 0 _)) 0 rfl 1 _)) 0 rfl 2 _)
 refine bodyPost_ret (raw_result rfl _ _ _ _ _ _ rfl (HS7.out.blk 0 rfl)) rfl ?_
 exact ⟨rfl, HS7.out.below⟩

set_option maxRecDepth 100000 in
set_option maxHeartbeats 1000000 in
theorem rational_Max (n1 : Bool) (a1 b1 : List UInt8) (n2 : Bool) (a2 b2 : List UInt8) (w : World) (la1 : a1.length ≤ 17179869184) (lb1 : b1.length ≤ 17179869184) (la2 : a2.length ≤ 17179869184) (lb2 : b2.length ≤ 17179869184) :
  Calls Tryz.prog 72 #[raw n1 a1 b1, raw n2 a2 b2] w fun e w' => e = .returned (rat (maxR (decR n1 a1 b1) (decR n2 a2 b2))) ∧ Below w.heap.size w w' := by
 have cm := fun W => rational_Compare n1 a1 b1 n2 a2 b2 W la1 lb1 la2 lb2
 have c1 := fun W => rational_clean n1 a1 b1 W (by omega) (by omega)
 have c2 := fun W => rational_clean n2 a2 b2 W (by omega) (by omega)
 clear la1 lb1 la2 lb2
 generalize decR n1 a1 b1 = p at *
 generalize decR n2 a2 b2 = q at *
 have hm : maxR p q = if decide (p < q) = true then q else p := by unfold maxR; by_cases h : p < q <;> simp [h]
 have hs := @geq_iff p q
 rw [hm]
 clear hm
 generalize sgn (p - q).num = s at *
 generalize decide (p < q) = d at *
 cases d
 ·rw [if_neg (by decide)]
  have ks : decide (0 ≤ s) = true := hs
  clear hs
  unfold rat raw at *
  generalize negB p = np at *
  generalize numB p = bp at *
  generalize denomB p = dp at *
  generalize negB q = nq at *
  generalize numB q = bq at *
  generalize denomB q = dq at *
  have CM := Lib.hid cm
  have C1 := Lib.hid c1
  have C2 := Lib.hid c2
  clear cm c1 c2
  go_enter Tryz.func72, Tryz.ntmps72
  have HS := Lib.hid (St.start w)
  go_wp2_with fail
  have HS2 := Lib.hid (St.alloc ((St.alloc ((St.alloc (HS.out) #[.bool n1, .string (bs a1), .string (bs b1)] 25 (w.heap.size) (by simp))) #[.bool n2, .string (bs a2), .string (bs b2)] 25 (w.heap.size + 1) (by simp))) #[.bool false, .string (bs []), .string (bs [])] 25 (w.heap.size + 1 + 1) (by simp))
  refine (CM.out _).mono ?_
  rintro e w3 ⟨rfl, hb3⟩
  have HS3 := Lib.hid (HS2.out.call hb3)
  clear hb3 HS HS2
  obtain ⟨x1, x2, x3⟩ := HS3.out.k0 2 rfl rfl rfl rfl
  go_wp2_with fail
  refine (C1.out _).mono ?_
  rintro e w4 ⟨rfl, hb4⟩
  have HS4 := Lib.hid (HS3.out.call hb4)
  clear hb4 HS3
  clear x1 x2 x3
  obtain ⟨x4, x5, x6⟩ := HS4.out.k0 0 rfl rfl rfl rfl
  obtain ⟨x7, x8, x9⟩ := HS4.out.f0 0 rfl
  have x10 := HS4.out.ne 0 1 rfl rfl (by decide)
  have x11 := HS4.out.ne 1 0 rfl rfl (by decide)
  have x12 := HS4.out.ne 0 2 rfl rfl (by decide)
  have x13 := HS4.out.ne 2 0 rfl rfl (by decide)
  go_wp2
  have HS5 : Hid (St w [⟨w.heap.size + 1 + 1, #[.bool np, .string (bs bp), .string (bs dp)], 25⟩, ⟨w.heap.size + 1, #[.bool n2, .string (bs a2), .string (bs b2)], 25⟩, ⟨w.heap.size, #[.bool n1, .string (bs a1), .string (bs b1)], 25⟩] _) := Lib.hid (St.set ((St.set ((St.set (HS4.out) 0 rfl 0 _)) 0 rfl 1 _)) 0 rfl 2 _)
  refine bodyPost_ret (raw_result rfl _ _ _ _ _ _ rfl (HS5.out.blk 0 rfl)) rfl ?_
  exact ⟨rfl, HS5.out.below⟩
 ·rw [if_pos rfl]
  have ks : decide (0 ≤ s) = false := hs
  clear hs
  unfold rat raw at *
  generalize negB p = np at *
  generalize numB p = bp at *
  generalize denomB p = dp at *
  generalize negB q = nq at *
  generalize numB q = bq at *
  generalize denomB q = dq at *
  have CM := Lib.hid cm
  have C1 := Lib.hid c1
  have C2 := Lib.hid c2
  clear cm c1 c2
  go_enter Tryz.func72, Tryz.ntmps72
  have HS := Lib.hid (St.start w)
  go_wp2_with fail
  have HS2 := Lib.hid (St.alloc ((St.alloc ((St.alloc (HS.out) #[.bool n1, .string (bs a1), .string (bs b1)] 25 (w.heap.size) (by simp))) #[.bool n2, .string (bs a2), .string (bs b2)] 25 (w.heap.size + 1) (by simp))) #[.bool false, .string (bs []), .string (bs [])] 25 (w.heap.size + 1 + 1) (by simp))
  refine (CM.out _).mono ?_
  rintro e w3 ⟨rfl, hb3⟩
  have HS3 := Lib.hid (HS2.out.call hb3)
  clear hb3 HS HS2
  obtain ⟨x1, x2, x3⟩ := HS3.out.k0 1 rfl rfl rfl rfl
  go_wp2_with fail
  refine (C2.out _).mono ?_
  rintro e w4 ⟨rfl, hb4⟩
  have HS4 := Lib.hid (HS3.out.call hb4)
  clear hb4 HS3
  clear x1 x2 x3
  obtain ⟨x4, x5, x6⟩ := HS4.out.k0 0 rfl rfl rfl rfl
  obtain ⟨x7, x8, x9⟩ := HS4.out.f0 0 rfl
  have x10 := HS4.out.ne 0 1 rfl rfl (by decide)
  have x11 := HS4.out.ne 1 0 rfl rfl (by decide)
  have x12 := HS4.out.ne 0 2 rfl rfl (by decide)
  have x13 := HS4.out.ne 2 0 rfl rfl (by decide)
  go_wp2
  have HS5 : Hid (St w [⟨w.heap.size + 1 + 1, #[.bool nq, .string (bs bq), .string (bs dq)], 25⟩, ⟨w.heap.size + 1, #[.bool n2, .string (bs a2), .string (bs b2)], 25⟩, ⟨w.heap.size, #[.bool n1, .string (bs a1), .string (bs b1)], 25⟩] _) := Lib.hid (St.set ((St.set ((St.set (HS4.out) 0 rfl 0 _)) 0 rfl 1 _)) 0 rfl 2 _)
  refine bodyPost_ret (raw_result rfl _ _ _ _ _ _ rfl (HS5.out.blk 0 rfl)) rfl ?_
  exact ⟨rfl, HS5.out.below⟩

set_option maxRecDepth 100000 in
set_option maxHeartbeats 1000000 in
theorem plan_isRate (n : Bool) (a b : List UInt8) (w : World) (la : a.length ≤ 17179869184) (lb : b.length ≤ 17179869184) :
  Calls Tryz.prog 34 #[raw n a b] w fun e w' => e = .returned (.bool (rateB (decR n a b))) ∧ Below w.heap.size w w' := by
 have sg := fun W => rational_Sign n a b W (by omega) (by omega)
 change ∀ W, Calls Tryz.prog _ _ W (fun e w' => e = .returned (.int .i64 (sgn (decR n a b).num)) ∧ _) at sg
 have on := fun W => rational_Int 1 W (by decide) (by decide)
 rw [show ((1 : Int) : Rat) = 1 from rfl] at on
 have z1 : Sized 17179869184 (1 : Rat) := (sized_int8 (n := 1) (by decide)).mono (by decide)
 have cm := fun W => rational_Compare n a b (negB 1) (numB 1) (denomB 1) W la lb z1.num z1.denom
 rw [show decR (negB 1) (numB 1) (denomB 1) = 1 from dec_enc _] at cm
 unfold rateB
 clear z1 la lb
 generalize decR n a b = q at *
 generalize sgn q.num = s at *
 generalize sgn (q - 1).num = t at *
 generalize (1 : Rat) = u at *
 unfold rat raw at *
 generalize negB u = nu at *
 generalize numB u = bu at *
 generalize denomB u = du at *
 have SG := Lib.hid sg
 have ON := Lib.hid on
 have CM := Lib.hid cm
 clear sg on cm
 obtain ⟨sB, hsB⟩ : ∃ x, x = decide (0 ≤ s) := ⟨_, rfl⟩
 obtain ⟨tB, htB⟩ : ∃ x, x = decide (t ≤ 0) := ⟨_, rfl⟩
 rw [← hsB, ← htB]
 have ksB : decide (0 ≤ s) = sB := hsB.symm
 have ktB : decide (t ≤ 0) = tB := htB.symm
 clear hsB htB
 cases sB
 ·go_enter Tryz.func34, Tryz.ntmps34
  have HS := Lib.hid (St.start w)
  go_wp2
  have HS2 := Lib.hid (St.alloc (HS.out) #[.bool n, .string (bs a), .string (bs b)] 25 (w.heap.size) (by simp))
  clear HS
  refine wp_region_eq 9 [.agg #[.bool n, .string (bs a), .string (bs b)], .int .i64 s, .bool false, .bool false, undef, undef, undef, undef, .bool false] rfl (by kernel_rfl) (by kernel_rfl) (by kernel_rfl) ?_ ?_
  refine ⟨?_, ?_, ?_, ?_, ?_, ?_, ?_, ?_, ?_, trivial⟩
  ·intro xx af wv hbx hev hev0 hd; have e1 : af.tmps[1]?.getD undef = .pointer (some ⟨w.heap.size, 0, none⟩) := hev0 1 rfl; clear hev hev0 hd; have hs1 := Lib.hid (HS2.out.call hbx); obtain ⟨y0, y1, y2⟩ := hs1.out.k0 0 rfl rfl rfl rfl; go_wp2; exact sQ rfl
  ·intro xx af wv hbx hev hev0 hd
   have e3 := (hev 0 _ 3 rfl rfl).trans (hd ⟨0, .data⟩ (by simp) rfl)
   clear hev hev0 hd
   go_wp2_with fail
   refine (SG.out _).mono ?_
   rintro e w8 ⟨rfl, hb8⟩
   go_wp2
   exact StepQ.mk _ hb8 rfl
  ·intro xx af wv hbx hev hev0 hd; have e4 := (hev 1 _ 4 rfl rfl).trans (hd ⟨1, .data⟩ (by simp) rfl); clear hev hev0 hd; go_wp2; exact sQ rfl
  ·intro xx af wv hbx hev hev0 hd; have e5 := (hev 2 _ 5 rfl rfl).trans (hd ⟨2, .data⟩ (by simp) rfl); clear hev hev0 hd; go_wp2; exact sQ rfl
  ·intro xx af wv hbx hev hev0 hd; have e6 := (hev 3 _ 6 rfl rfl).trans (hd ⟨3, .guard⟩ (by simp) rfl); have q6 := getD_bool e6; clear hev hev0 hd; go_wp2; exact sQ rfl
  ·intro xx af wv hbx hev hev0 hd; have e6 := (hev 3 _ 6 rfl rfl).trans (hd ⟨3, .chain⟩ (by simp) rfl); have q6 := getD_bool e6; clear hev hev0 hd; go_wp2; exact sQ rfl
  ·intro xx af wv hbx hev hev0 hd; have e6 := (hev 3 _ 6 rfl rfl).trans (hd ⟨3, .guard⟩ (by simp) rfl); have q6 := getD_bool e6; clear hev hev0 hd; go_wp2; exact sQ rfl
  ·intro xx af wv hbx hev hev0 hd; have e6 := (hev 3 _ 6 rfl rfl).trans (hd ⟨3, .guard⟩ (by simp) rfl); have q6 := getD_bool e6; clear hev hev0 hd; go_wp2; exact sQ rfl
  ·intro xx af wv hbx hev hev0 hd; have e6 := (hev 3 _ 6 rfl rfl).trans (hd ⟨3, .data⟩ (by simp) rfl); have e10 := (hev 7 _ 10 rfl rfl).trans (hd ⟨7, .data⟩ (by simp) rfl); clear hev hev0 hd; go_wp2; exact sQ rfl
  intro xx w4 hb9 hv
  simp only [List.take, List.drop, fillA, Act.put]
  simp only [show xx 0 = _ from hv 0 (by decide), show xx 1 = _ from hv 1 (by decide), show xx 2 = _ from hv 2 (by decide), show xx 3 = _ from hv 3 (by decide), show xx 4 = _ from hv 4 (by decide), show xx 5 = _ from hv 5 (by decide), show xx 6 = _ from hv 6 (by decide), show xx 7 = _ from hv 7 (by decide), show xx 8 = _ from hv 8 (by decide)]
  clear hv
  have HS4 := Lib.hid (HS2.out.call hb9)
  clear hb9 HS2
  go_wp2
  go_ret
  have HS5 := Lib.hid HS4.out
  exact ⟨rfl, HS5.out.below⟩
 ·go_enter Tryz.func34, Tryz.ntmps34
  have HS := Lib.hid (St.start w)
  go_wp2
  have HS2 := Lib.hid (St.alloc (HS.out) #[.bool n, .string (bs a), .string (bs b)] 25 (w.heap.size) (by simp))
  clear HS
  refine wp_region_eq 9 [.agg #[.bool n, .string (bs a), .string (bs b)], .int .i64 s, .bool true, .bool true, .agg #[.bool n, .string (bs a), .string (bs b)], .agg #[.bool nu, .string (bs bu), .string (bs du)], .int .i64 t, .bool tB, .bool tB] rfl (by kernel_rfl) (by kernel_rfl) (by kernel_rfl) ?_ ?_
  refine ⟨?_, ?_, ?_, ?_, ?_, ?_, ?_, ?_, ?_, trivial⟩
  ·intro xx af wv hbx hev hev0 hd; have e1 : af.tmps[1]?.getD undef = .pointer (some ⟨w.heap.size, 0, none⟩) := hev0 1 rfl; clear hev hev0 hd; have hs1 := Lib.hid (HS2.out.call hbx); obtain ⟨y0, y1, y2⟩ := hs1.out.k0 0 rfl rfl rfl rfl; go_wp2; exact sQ rfl
  ·intro xx af wv hbx hev hev0 hd
   have e3 := (hev 0 _ 3 rfl rfl).trans (hd ⟨0, .data⟩ (by simp) rfl)
   clear hev hev0 hd
   go_wp2_with fail
   refine (SG.out _).mono ?_
   rintro e w8 ⟨rfl, hb8⟩
   go_wp2
   exact StepQ.mk _ hb8 rfl
  ·intro xx af wv hbx hev hev0 hd; have e4 := (hev 1 _ 4 rfl rfl).trans (hd ⟨1, .data⟩ (by simp) rfl); clear hev hev0 hd; go_wp2; exact sQ rfl
  ·intro xx af wv hbx hev hev0 hd; have e5 := (hev 2 _ 5 rfl rfl).trans (hd ⟨2, .data⟩ (by simp) rfl); clear hev hev0 hd; go_wp2; exact sQ rfl
  ·intro xx af wv hbx hev hev0 hd; have e6 := (hev 3 _ 6 rfl rfl).trans (hd ⟨3, .guard⟩ (by simp) rfl); have e1 : af.tmps[1]?.getD undef = .pointer (some ⟨w.heap.size, 0, none⟩) := hev0 1 rfl; have q6 := getD_bool e6; clear hev hev0 hd; have hs1 := Lib.hid (HS2.out.call hbx); obtain ⟨y0, y1, y2⟩ := hs1.out.k0 0 rfl rfl rfl rfl; go_wp2; exact sQ rfl
  ·intro xx af wv hbx hev hev0 hd
   have e6 := (hev 3 _ 6 rfl rfl).trans (hd ⟨3, .chain⟩ (by simp) rfl)
   have q6 := getD_bool e6
   clear hev hev0 hd
   go_wp2_with fail
   refine (ON.out _).mono ?_
   rintro e w8 ⟨rfl, hb8⟩
   go_wp2
   exact StepQ.mk _ hb8 rfl
  ·intro xx af wv hbx hev hev0 hd
   have e6 := (hev 3 _ 6 rfl rfl).trans (hd ⟨3, .guard⟩ (by simp) rfl)
   have e7 := (hev 4 _ 7 rfl rfl).trans (hd ⟨4, .data⟩ (by simp) rfl)
   have e8 := (hev 5 _ 8 rfl rfl).trans (hd ⟨5, .data⟩ (by simp) rfl)
   have q6 := getD_bool e6
   clear hev hev0 hd
   go_wp2_with fail
   refine (CM.out _).mono ?_
   rintro e w8 ⟨rfl, hb8⟩
   go_wp2
   exact StepQ.mk _ hb8 rfl
  ·intro xx af wv hbx hev hev0 hd; have e6 := (hev 3 _ 6 rfl rfl).trans (hd ⟨3, .guard⟩ (by simp) rfl); have e9 := (hev 6 _ 9 rfl rfl).trans (hd ⟨6, .data⟩ (by simp) rfl); have q6 := getD_bool e6; clear hev hev0 hd; go_wp2; exact sQ rfl
  ·intro xx af wv hbx hev hev0 hd; have e6 := (hev 3 _ 6 rfl rfl).trans (hd ⟨3, .data⟩ (by simp) rfl); have e10 := (hev 7 _ 10 rfl rfl).trans (hd ⟨7, .data⟩ (by simp) rfl); clear hev hev0 hd; go_wp2; exact sQ rfl
  intro xx w4 hb9 hv
  simp only [List.take, List.drop, fillA, Act.put]
  simp only [show xx 0 = _ from hv 0 (by decide), show xx 1 = _ from hv 1 (by decide), show xx 2 = _ from hv 2 (by decide), show xx 3 = _ from hv 3 (by decide), show xx 4 = _ from hv 4 (by decide), show xx 5 = _ from hv 5 (by decide), show xx 6 = _ from hv 6 (by decide), show xx 7 = _ from hv 7 (by decide), show xx 8 = _ from hv 8 (by decide)]
  clear hv
  have HS4 := Lib.hid (HS2.out.call hb9)
  clear hb9 HS2
  go_wp2
  go_ret
  have HS5 := Lib.hid HS4.out
  exact ⟨rfl, HS5.out.below⟩

set_option maxRecDepth 100000 in
set_option maxHeartbeats 1000000 in
theorem ref_rate (n : Bool) (a b : List UInt8) (w : World) (la : a.length ≤ 17179869184) (lb : b.length ≤ 17179869184) :
  Calls Tryz.prog 35 #[raw n a b] w fun e w' => e = .returned (.bool (rateB (decR n a b))) ∧ Below w.heap.size w w' := by
 have sg := fun W => ref_Sign n a b W (by omega) (by omega)
 change ∀ W, Calls Tryz.prog _ _ W (fun e w' => e = .returned (.int .i64 (sgn (decR n a b).num)) ∧ _) at sg
 have on := fun W => ref_One W
 have z1 : Sized 17179869184 (1 : Rat) := (sized_int8 (n := 1) (by decide)).mono (by decide)
 have cm := fun W => ref_Compare n a b (negB 1) (numB 1) (denomB 1) W la lb z1.num z1.denom
 rw [show decR (negB 1) (numB 1) (denomB 1) = 1 from dec_enc _] at cm
 unfold rateB
 clear z1 la lb
 generalize decR n a b = q at *
 generalize sgn q.num = s at *
 generalize sgn (q - 1).num = t at *
 generalize (1 : Rat) = u at *
 unfold rat raw at *
 generalize negB u = nu at *
 generalize numB u = bu at *
 generalize denomB u = du at *
 have SG := Lib.hid sg
 have ON := Lib.hid on
 have CM := Lib.hid cm
 clear sg on cm
 obtain ⟨sB, hsB⟩ : ∃ x, x = decide (0 ≤ s) := ⟨_, rfl⟩
 obtain ⟨tB, htB⟩ : ∃ x, x = decide (t ≤ 0) := ⟨_, rfl⟩
 rw [← hsB, ← htB]
 have ksB : decide (0 ≤ s) = sB := hsB.symm
 have ktB : decide (t ≤ 0) = tB := htB.symm
 clear hsB htB
 cases sB
 ·go_enter Tryz.func35, Tryz.ntmps35
  have HS := Lib.hid (St.start w)
  go_wp2
  have HS2 := Lib.hid (St.alloc (HS.out) #[.bool n, .string (bs a), .string (bs b)] 25 (w.heap.size) (by simp))
  clear HS
  refine wp_region_eq 9 [.agg #[.bool n, .string (bs a), .string (bs b)], .int .i64 s, .bool false, .bool false, undef, undef, undef, undef, .bool false] rfl (by kernel_rfl) (by kernel_rfl) (by kernel_rfl) ?_ ?_
  refine ⟨?_, ?_, ?_, ?_, ?_, ?_, ?_, ?_, ?_, trivial⟩
  ·intro xx af wv hbx hev hev0 hd; have e1 : af.tmps[1]?.getD undef = .pointer (some ⟨w.heap.size, 0, none⟩) := hev0 1 rfl; clear hev hev0 hd; have hs1 := Lib.hid (HS2.out.call hbx); obtain ⟨y0, y1, y2⟩ := hs1.out.k0 0 rfl rfl rfl rfl; go_wp2; exact sQ rfl
  ·intro xx af wv hbx hev hev0 hd
   have e3 := (hev 0 _ 3 rfl rfl).trans (hd ⟨0, .data⟩ (by simp) rfl)
   clear hev hev0 hd
   go_wp2_with fail
   refine (SG.out _).mono ?_
   rintro e w8 ⟨rfl, hb8⟩
   go_wp2
   exact StepQ.mk _ hb8 rfl
  ·intro xx af wv hbx hev hev0 hd; have e4 := (hev 1 _ 4 rfl rfl).trans (hd ⟨1, .data⟩ (by simp) rfl); clear hev hev0 hd; go_wp2; exact sQ rfl
  ·intro xx af wv hbx hev hev0 hd; have e5 := (hev 2 _ 5 rfl rfl).trans (hd ⟨2, .data⟩ (by simp) rfl); clear hev hev0 hd; go_wp2; exact sQ rfl
  ·intro xx af wv hbx hev hev0 hd; have e6 := (hev 3 _ 6 rfl rfl).trans (hd ⟨3, .guard⟩ (by simp) rfl); have q6 := getD_bool e6; clear hev hev0 hd; go_wp2; exact sQ rfl
  ·intro xx af wv hbx hev hev0 hd; have e6 := (hev 3 _ 6 rfl rfl).trans (hd ⟨3, .chain⟩ (by simp) rfl); have q6 := getD_bool e6; clear hev hev0 hd; go_wp2; exact sQ rfl
  ·intro xx af wv hbx hev hev0 hd; have e6 := (hev 3 _ 6 rfl rfl).trans (hd ⟨3, .guard⟩ (by simp) rfl); have q6 := getD_bool e6; clear hev hev0 hd; go_wp2; exact sQ rfl
  ·intro xx af wv hbx hev hev0 hd; have e6 := (hev 3 _ 6 rfl rfl).trans (hd ⟨3, .guard⟩ (by simp) rfl); have q6 := getD_bool e6; clear hev hev0 hd; go_wp2; exact sQ rfl
  ·intro xx af wv hbx hev hev0 hd; have e6 := (hev 3 _ 6 rfl rfl).trans (hd ⟨3, .data⟩ (by simp) rfl); have e10 := (hev 7 _ 10 rfl rfl).trans (hd ⟨7, .data⟩ (by simp) rfl); clear hev hev0 hd; go_wp2; exact sQ rfl
  intro xx w4 hb9 hv
  simp only [List.take, List.drop, fillA, Act.put]
  simp only [show xx 0 = _ from hv 0 (by decide), show xx 1 = _ from hv 1 (by decide), show xx 2 = _ from hv 2 (by decide), show xx 3 = _ from hv 3 (by decide), show xx 4 = _ from hv 4 (by decide), show xx 5 = _ from hv 5 (by decide), show xx 6 = _ from hv 6 (by decide), show xx 7 = _ from hv 7 (by decide), show xx 8 = _ from hv 8 (by decide)]
  clear hv
  have HS4 := Lib.hid (HS2.out.call hb9)
  clear hb9 HS2
  go_wp2
  go_ret
  have HS5 := Lib.hid HS4.out
  exact ⟨rfl, HS5.out.below⟩
 ·go_enter Tryz.func35, Tryz.ntmps35
  have HS := Lib.hid (St.start w)
  go_wp2
  have HS2 := Lib.hid (St.alloc (HS.out) #[.bool n, .string (bs a), .string (bs b)] 25 (w.heap.size) (by simp))
  clear HS
  refine wp_region_eq 9 [.agg #[.bool n, .string (bs a), .string (bs b)], .int .i64 s, .bool true, .bool true, .agg #[.bool n, .string (bs a), .string (bs b)], .agg #[.bool nu, .string (bs bu), .string (bs du)], .int .i64 t, .bool tB, .bool tB] rfl (by kernel_rfl) (by kernel_rfl) (by kernel_rfl) ?_ ?_
  refine ⟨?_, ?_, ?_, ?_, ?_, ?_, ?_, ?_, ?_, trivial⟩
  ·intro xx af wv hbx hev hev0 hd; have e1 : af.tmps[1]?.getD undef = .pointer (some ⟨w.heap.size, 0, none⟩) := hev0 1 rfl; clear hev hev0 hd; have hs1 := Lib.hid (HS2.out.call hbx); obtain ⟨y0, y1, y2⟩ := hs1.out.k0 0 rfl rfl rfl rfl; go_wp2; exact sQ rfl
  ·intro xx af wv hbx hev hev0 hd
   have e3 := (hev 0 _ 3 rfl rfl).trans (hd ⟨0, .data⟩ (by simp) rfl)
   clear hev hev0 hd
   go_wp2_with fail
   refine (SG.out _).mono ?_
   rintro e w8 ⟨rfl, hb8⟩
   go_wp2
   exact StepQ.mk _ hb8 rfl
  ·intro xx af wv hbx hev hev0 hd; have e4 := (hev 1 _ 4 rfl rfl).trans (hd ⟨1, .data⟩ (by simp) rfl); clear hev hev0 hd; go_wp2; exact sQ rfl
  ·intro xx af wv hbx hev hev0 hd; have e5 := (hev 2 _ 5 rfl rfl).trans (hd ⟨2, .data⟩ (by simp) rfl); clear hev hev0 hd; go_wp2; exact sQ rfl
  ·intro xx af wv hbx hev hev0 hd; have e6 := (hev 3 _ 6 rfl rfl).trans (hd ⟨3, .guard⟩ (by simp) rfl); have e1 : af.tmps[1]?.getD undef = .pointer (some ⟨w.heap.size, 0, none⟩) := hev0 1 rfl; have q6 := getD_bool e6; clear hev hev0 hd; have hs1 := Lib.hid (HS2.out.call hbx); obtain ⟨y0, y1, y2⟩ := hs1.out.k0 0 rfl rfl rfl rfl; go_wp2; exact sQ rfl
  ·intro xx af wv hbx hev hev0 hd
   have e6 := (hev 3 _ 6 rfl rfl).trans (hd ⟨3, .chain⟩ (by simp) rfl)
   have q6 := getD_bool e6
   clear hev hev0 hd
   go_wp2_with fail
   refine (ON.out _).mono ?_
   rintro e w8 ⟨rfl, hb8⟩
   go_wp2
   exact StepQ.mk _ hb8 rfl
  ·intro xx af wv hbx hev hev0 hd
   have e6 := (hev 3 _ 6 rfl rfl).trans (hd ⟨3, .guard⟩ (by simp) rfl)
   have e7 := (hev 4 _ 7 rfl rfl).trans (hd ⟨4, .data⟩ (by simp) rfl)
   have e8 := (hev 5 _ 8 rfl rfl).trans (hd ⟨5, .data⟩ (by simp) rfl)
   have q6 := getD_bool e6
   clear hev hev0 hd
   go_wp2_with fail
   refine (CM.out _).mono ?_
   rintro e w8 ⟨rfl, hb8⟩
   go_wp2
   exact StepQ.mk _ hb8 rfl
  ·intro xx af wv hbx hev hev0 hd; have e6 := (hev 3 _ 6 rfl rfl).trans (hd ⟨3, .guard⟩ (by simp) rfl); have e9 := (hev 6 _ 9 rfl rfl).trans (hd ⟨6, .data⟩ (by simp) rfl); have q6 := getD_bool e6; clear hev hev0 hd; go_wp2; exact sQ rfl
  ·intro xx af wv hbx hev hev0 hd; have e6 := (hev 3 _ 6 rfl rfl).trans (hd ⟨3, .data⟩ (by simp) rfl); have e10 := (hev 7 _ 10 rfl rfl).trans (hd ⟨7, .data⟩ (by simp) rfl); clear hev hev0 hd; go_wp2; exact sQ rfl
  intro xx w4 hb9 hv
  simp only [List.take, List.drop, fillA, Act.put]
  simp only [show xx 0 = _ from hv 0 (by decide), show xx 1 = _ from hv 1 (by decide), show xx 2 = _ from hv 2 (by decide), show xx 3 = _ from hv 3 (by decide), show xx 4 = _ from hv 4 (by decide), show xx 5 = _ from hv 5 (by decide), show xx 6 = _ from hv 6 (by decide), show xx 7 = _ from hv 7 (by decide), show xx 8 = _ from hv 8 (by decide)]
  clear hv
  have HS4 := Lib.hid (HS2.out.call hb9)
  clear hb9 HS2
  go_wp2
  go_ret
  have HS5 := Lib.hid HS4.out
  exact ⟨rfl, HS5.out.below⟩

set_option maxRecDepth 100000 in
set_option maxHeartbeats 1000000 in
theorem plan_impaired (n : Bool) (a b : List UInt8) (w : World) (la : a.length ≤ 17179869184) (lb : b.length ≤ 17179869184) :
  Calls Tryz.prog 68 #[raw n a b] w fun e w' => e = .returned (.bool (decide (sgn (decR n a b - 1).num < 0))) ∧ Below w.heap.size w w' := by
 have on := fun W => rational_Int 1 W (by decide) (by decide)
 rw [show ((1 : Int) : Rat) = 1 from rfl] at on
 have z1 : Sized 17179869184 (1 : Rat) := (sized_int8 (n := 1) (by decide)).mono (by decide)
 have cm := fun W => rational_Compare n a b (negB 1) (numB 1) (denomB 1) W la lb z1.num z1.denom
 rw [show decR (negB 1) (numB 1) (denomB 1) = 1 from dec_enc _] at cm
 clear z1 la lb
 generalize sgn (decR n a b - 1).num = t at *
 generalize (1 : Rat) = u at *
 unfold rat raw at *
 generalize negB u = nu at *
 generalize numB u = bu at *
 generalize denomB u = du at *
 have ON := Lib.hid on
 have CM := Lib.hid cm
 clear on cm
 go_enter Tryz.func68, Tryz.ntmps68
 have HS := Lib.hid (St.start w)
 go_wp2
 have HS2 := Lib.hid (St.alloc (HS.out) #[.bool n, .string (bs a), .string (bs b)] 25 (w.heap.size) (by simp))
 clear HS
 refine wp_region_eq 4 [.agg #[.bool n, .string (bs a), .string (bs b)], .agg #[.bool nu, .string (bs bu), .string (bs du)], .int .i64 t, .bool (decide (t < 0))] rfl (by kernel_rfl) (by kernel_rfl) (by kernel_rfl) ?_ ?_
 refine ⟨?_, ?_, ?_, ?_, trivial⟩
 ·intro xx af wv hbx hev hev0 hd; have e1 : af.tmps[1]?.getD undef = .pointer (some ⟨w.heap.size, 0, none⟩) := hev0 1 rfl; clear hev hev0 hd; have hs1 := Lib.hid (HS2.out.call hbx); obtain ⟨y0, y1, y2⟩ := hs1.out.k0 0 rfl rfl rfl rfl; go_wp2; exact sQ rfl
 ·intro xx af wv hbx hev hev0 hd
  clear hev hev0 hd
  go_wp2_with fail
  refine (ON.out _).mono ?_
  rintro e w8 ⟨rfl, hb8⟩
  go_wp2
  exact StepQ.mk _ hb8 rfl
 ·intro xx af wv hbx hev hev0 hd
  have e3 := (hev 0 _ 3 rfl rfl).trans (hd ⟨0, .data⟩ (by simp) rfl)
  have e4 := (hev 1 _ 4 rfl rfl).trans (hd ⟨1, .data⟩ (by simp) rfl)
  clear hev hev0 hd
  go_wp2_with fail
  refine (CM.out _).mono ?_
  rintro e w8 ⟨rfl, hb8⟩
  go_wp2
  exact StepQ.mk _ hb8 rfl
 ·intro xx af wv hbx hev hev0 hd; have e5 := (hev 2 _ 5 rfl rfl).trans (hd ⟨2, .data⟩ (by simp) rfl); clear hev hev0 hd; go_wp2; exact sQ rfl
 intro xx w4 hb9 hv
 simp only [List.take, List.drop, fillA, Act.put]
 simp only [show xx 0 = _ from hv 0 (by decide), show xx 1 = _ from hv 1 (by decide), show xx 2 = _ from hv 2 (by decide), show xx 3 = _ from hv 3 (by decide)]
 clear hv
 have HS4 := Lib.hid (HS2.out.call hb9)
 clear hb9 HS2
 go_wp2
 go_ret
 have HS5 := Lib.hid HS4.out
 exact ⟨rfl, HS5.out.below⟩

set_option maxRecDepth 100000 in
set_option maxHeartbeats 1000000 in
theorem ref_impaired (n : Bool) (a b : List UInt8) (w : World) (la : a.length ≤ 17179869184) (lb : b.length ≤ 17179869184) :
  Calls Tryz.prog 44 #[raw n a b] w fun e w' => e = .returned (.bool (decide (sgn (decR n a b - 1).num < 0))) ∧ Below w.heap.size w w' := by
 have on := fun W => ref_One W
 have z1 : Sized 17179869184 (1 : Rat) := (sized_int8 (n := 1) (by decide)).mono (by decide)
 have cm := fun W => ref_Compare n a b (negB 1) (numB 1) (denomB 1) W la lb z1.num z1.denom
 rw [show decR (negB 1) (numB 1) (denomB 1) = 1 from dec_enc _] at cm
 clear z1 la lb
 generalize sgn (decR n a b - 1).num = t at *
 generalize (1 : Rat) = u at *
 unfold rat raw at *
 generalize negB u = nu at *
 generalize numB u = bu at *
 generalize denomB u = du at *
 have ON := Lib.hid on
 have CM := Lib.hid cm
 clear on cm
 go_enter Tryz.func44, Tryz.ntmps44
 have HS := Lib.hid (St.start w)
 go_wp2
 have HS2 := Lib.hid (St.alloc (HS.out) #[.bool n, .string (bs a), .string (bs b)] 25 (w.heap.size) (by simp))
 clear HS
 refine wp_region_eq 4 [.agg #[.bool n, .string (bs a), .string (bs b)], .agg #[.bool nu, .string (bs bu), .string (bs du)], .int .i64 t, .bool (decide (t < 0))] rfl (by kernel_rfl) (by kernel_rfl) (by kernel_rfl) ?_ ?_
 refine ⟨?_, ?_, ?_, ?_, trivial⟩
 ·intro xx af wv hbx hev hev0 hd; have e1 : af.tmps[1]?.getD undef = .pointer (some ⟨w.heap.size, 0, none⟩) := hev0 1 rfl; clear hev hev0 hd; have hs1 := Lib.hid (HS2.out.call hbx); obtain ⟨y0, y1, y2⟩ := hs1.out.k0 0 rfl rfl rfl rfl; go_wp2; exact sQ rfl
 ·intro xx af wv hbx hev hev0 hd
  clear hev hev0 hd
  go_wp2_with fail
  refine (ON.out _).mono ?_
  rintro e w8 ⟨rfl, hb8⟩
  go_wp2
  exact StepQ.mk _ hb8 rfl
 ·intro xx af wv hbx hev hev0 hd
  have e3 := (hev 0 _ 3 rfl rfl).trans (hd ⟨0, .data⟩ (by simp) rfl)
  have e4 := (hev 1 _ 4 rfl rfl).trans (hd ⟨1, .data⟩ (by simp) rfl)
  clear hev hev0 hd
  go_wp2_with fail
  refine (CM.out _).mono ?_
  rintro e w8 ⟨rfl, hb8⟩
  go_wp2
  exact StepQ.mk _ hb8 rfl
 ·intro xx af wv hbx hev hev0 hd; have e5 := (hev 2 _ 5 rfl rfl).trans (hd ⟨2, .data⟩ (by simp) rfl); clear hev hev0 hd; go_wp2; exact sQ rfl
 intro xx w4 hb9 hv
 simp only [List.take, List.drop, fillA, Act.put]
 simp only [show xx 0 = _ from hv 0 (by decide), show xx 1 = _ from hv 1 (by decide), show xx 2 = _ from hv 2 (by decide), show xx 3 = _ from hv 3 (by decide)]
 clear hv
 have HS4 := Lib.hid (HS2.out.call hb9)
 clear hb9 HS2
 go_wp2
 go_ret
 have HS5 := Lib.hid HS4.out
 exact ⟨rfl, HS5.out.below⟩

set_option maxRecDepth 100000 in
set_option maxHeartbeats 1000000 in
theorem plan_accepts (x : Blc) (n : Bool) (a b : List UInt8) (w : World) (la : a.length ≤ 17179869184) (lb : b.length ≤ 17179869184) (lx : x.ka.length ≤ 17179869184) (ly : x.kb.length ≤ 17179869184) :
  Calls Tryz.prog 69 #[blcV x, raw n a b] w fun e w' => e = .returned (.bool (x.acc && decide (0 ≤ sgn (decR n a b - x.ask).num))) ∧ Below w.heap.size w w' := by
 have cm := fun W => rational_Compare n a b x.kn x.ka x.kb W la lb lx ly
 rw [show decR x.kn x.ka x.kb = x.ask from rfl] at cm
 clear la lb lx ly
 generalize sgn (decR n a b - x.ask).num = t at *
 obtain ⟨r0, tn, ta, tb, fn, fa, fb, kn, ka, kb, acc⟩ := x
 unfold blcV raw at *
 dsimp only at *
 have CM := Lib.hid cm
 clear cm
 obtain ⟨tB, htB⟩ : ∃ x, x = decide (0 ≤ t) := ⟨_, rfl⟩
 rw [← htB]
 have ktB : decide (0 ≤ t) = tB := htB.symm
 clear htB
 cases acc
 ·go_enter Tryz.func69, Tryz.ntmps69
  have HS := Lib.hid (St.start w)
  go_wp2
  go_ret
  have HS2 := Lib.hid (St.alloc ((St.alloc (HS.out) #[.int .i64 r0, .bool tn, .string (bs ta), .string (bs tb), .bool fn, .string (bs fa), .string (bs fb), .bool kn, .string (bs ka), .string (bs kb), .bool false] 59 (w.heap.size) (by simp))) #[.bool n, .string (bs a), .string (bs b)] 25 (w.heap.size + 1) (by simp))
  exact ⟨rfl, HS2.out.below⟩
 ·go_enter Tryz.func69, Tryz.ntmps69
  have HS := Lib.hid (St.start w)
  go_wp2_with fail
  have HS2 := Lib.hid (St.alloc ((St.alloc (HS.out) #[.int .i64 r0, .bool tn, .string (bs ta), .string (bs tb), .bool fn, .string (bs fa), .string (bs fb), .bool kn, .string (bs ka), .string (bs kb), .bool true] 59 (w.heap.size) (by simp))) #[.bool n, .string (bs a), .string (bs b)] 25 (w.heap.size + 1) (by simp))
  refine (CM.out _).mono ?_
  rintro e w3 ⟨rfl, hb3⟩
  have HS3 := Lib.hid (HS2.out.call hb3)
  clear hb3 HS HS2
  go_wp2
  go_ret
  have HS4 := Lib.hid HS3.out
  exact ⟨rfl, HS4.out.below⟩

set_option maxRecDepth 100000 in
set_option maxHeartbeats 1000000 in
theorem ref_consents (x : Blc) (n : Bool) (a b : List UInt8) (w : World) (la : a.length ≤ 17179869184) (lb : b.length ≤ 17179869184) (lx : x.ka.length ≤ 17179869184) (ly : x.kb.length ≤ 17179869184) :
  Calls Tryz.prog 45 #[blcV x, raw n a b] w fun e w' => e = .returned (.bool (x.acc && decide (0 ≤ sgn (decR n a b - x.ask).num))) ∧ Below w.heap.size w w' := by
 have cm := fun W => ref_Compare n a b x.kn x.ka x.kb W la lb lx ly
 rw [show decR x.kn x.ka x.kb = x.ask from rfl] at cm
 clear la lb lx ly
 generalize sgn (decR n a b - x.ask).num = t at *
 obtain ⟨r0, tn, ta, tb, fn, fa, fb, kn, ka, kb, acc⟩ := x
 unfold blcV raw at *
 dsimp only at *
 have CM := Lib.hid cm
 clear cm
 obtain ⟨tB, htB⟩ : ∃ x, x = decide (0 ≤ t) := ⟨_, rfl⟩
 rw [← htB]
 have ktB : decide (0 ≤ t) = tB := htB.symm
 clear htB
 cases acc
 ·go_enter Tryz.func45, Tryz.ntmps45
  have HS := Lib.hid (St.start w)
  go_wp2
  go_ret
  have HS2 := Lib.hid (St.alloc ((St.alloc (HS.out) #[.int .i64 r0, .bool tn, .string (bs ta), .string (bs tb), .bool fn, .string (bs fa), .string (bs fb), .bool kn, .string (bs ka), .string (bs kb), .bool false] 59 (w.heap.size) (by simp))) #[.bool n, .string (bs a), .string (bs b)] 25 (w.heap.size + 1) (by simp))
  exact ⟨rfl, HS2.out.below⟩
 ·go_enter Tryz.func45, Tryz.ntmps45
  have HS := Lib.hid (St.start w)
  go_wp2_with fail
  have HS2 := Lib.hid (St.alloc ((St.alloc (HS.out) #[.int .i64 r0, .bool tn, .string (bs ta), .string (bs tb), .bool fn, .string (bs fa), .string (bs fb), .bool kn, .string (bs ka), .string (bs kb), .bool true] 59 (w.heap.size) (by simp))) #[.bool n, .string (bs a), .string (bs b)] 25 (w.heap.size + 1) (by simp))
  refine (CM.out _).mono ?_
  rintro e w3 ⟨rfl, hb3⟩
  have HS3 := Lib.hid (HS2.out.call hb3)
  clear hb3 HS HS2
  go_wp2
  go_ret
  have HS4 := Lib.hid HS3.out
  exact ⟨rfl, HS4.out.below⟩

set_option maxRecDepth 100000 in
set_option maxHeartbeats 1000000 in
theorem plan_need (x : Blc) (w : World) (hx : x.small 17179869184) :
  Calls Tryz.prog 47 #[blcV x] w fun e w' => e = .returned (rat (need x)) ∧ Below w.heap.size w w' := by
 have on := fun W => rational_Int 1 W (by decide) (by decide)
 rw [show ((1 : Int) : Rat) = 1 from rfl] at on
 have z1 : Sized 17179869184 (1 : Rat) := (sized_int8 (n := 1) (by decide)).mono (by decide)
 have mx := fun W => rational_Max x.fn x.fa x.fb x.kn x.ka x.kb W hx.2.1.1 hx.2.1.2 hx.2.2.1 hx.2.2.2
 have hn : need x = if x.acc then maxR (decR x.fn x.fa x.fb) (decR x.kn x.ka x.kb) else 1 := rfl
 generalize maxR (decR x.fn x.fa x.fb) (decR x.kn x.ka x.kb) = m at *
 generalize need x = r at *
 clear z1 hx
 obtain ⟨r0, tn, ta, tb, fn, fa, fb, kn, ka, kb, acc⟩ := x
 unfold blcV
 dsimp only at *
 cases acc
 ·obtain rfl : r = 1 := by rw [hn]; rfl
  generalize (1 : Rat) = u at *
  unfold rat raw at *
  generalize negB u = nu at *
  generalize numB u = bu at *
  generalize denomB u = du at *
  clear mx
  have ON := Lib.hid on
  clear on
  go_enter Tryz.func47, Tryz.ntmps47
  have HS := Lib.hid (St.start w)
  go_wp2_with fail
  have HS2 := Lib.hid (St.alloc ((St.alloc (HS.out) #[.int .i64 r0, .bool tn, .string (bs ta), .string (bs tb), .bool fn, .string (bs fa), .string (bs fb), .bool kn, .string (bs ka), .string (bs kb), .bool false] 59 (w.heap.size) (by simp))) #[.bool false, .string (bs []), .string (bs [])] 25 (w.heap.size + 1) (by simp))
  refine (ON.out _).mono ?_
  rintro e w3 ⟨rfl, hb3⟩
  have HS3 := Lib.hid (HS2.out.call hb3)
  clear hb3 HS HS2
  obtain ⟨x1, x2, x3⟩ := HS3.out.k0 0 rfl rfl rfl rfl
  obtain ⟨x4, x5, x6⟩ := HS3.out.f0 0 rfl
  have x7 := HS3.out.ne 0 1 rfl rfl (by decide)
  have x8 := HS3.out.ne 1 0 rfl rfl (by decide)
  go_wp2
  have HS4 : Hid (St w [⟨w.heap.size + 1, #[.bool nu, .string (bs bu), .string (bs du)], 25⟩, ⟨w.heap.size, #[.int .i64 r0, .bool tn, .string (bs ta), .string (bs tb), .bool fn, .string (bs fa), .string (bs fb), .bool kn, .string (bs ka), .string (bs kb), .bool false], 59⟩] _) := Lib.hid (St.set ((St.set ((St.set (HS3.out) 0 rfl 0 _)) 0 rfl 1 _)) 0 rfl 2 _)
  refine bodyPost_ret (raw_result rfl _ _ _ _ _ _ rfl (HS4.out.blk 0 rfl)) rfl ?_
  exact ⟨rfl, HS4.out.below⟩
 ·obtain rfl : r = m := by rw [hn]; rfl
  clear on hn
  generalize r = m at *
  unfold rat raw at *
  generalize negB m = nm at *
  generalize numB m = bm at *
  generalize denomB m = dm at *
  have MX := Lib.hid mx
  clear mx
  go_enter Tryz.func47, Tryz.ntmps47
  have HS := Lib.hid (St.start w)
  go_wp2_with fail
  have HS2 := Lib.hid (St.alloc ((St.alloc (HS.out) #[.int .i64 r0, .bool tn, .string (bs ta), .string (bs tb), .bool fn, .string (bs fa), .string (bs fb), .bool kn, .string (bs ka), .string (bs kb), .bool true] 59 (w.heap.size) (by simp))) #[.bool false, .string (bs []), .string (bs [])] 25 (w.heap.size + 1) (by simp))
  refine (MX.out _).mono ?_
  rintro e w3 ⟨rfl, hb3⟩
  have HS3 := Lib.hid (HS2.out.call hb3)
  clear hb3 HS HS2
  obtain ⟨x1, x2, x3⟩ := HS3.out.k0 0 rfl rfl rfl rfl
  obtain ⟨x4, x5, x6⟩ := HS3.out.f0 0 rfl
  have x7 := HS3.out.ne 0 1 rfl rfl (by decide)
  have x8 := HS3.out.ne 1 0 rfl rfl (by decide)
  go_wp2
  have HS4 : Hid (St w [⟨w.heap.size + 1, #[.bool nm, .string (bs bm), .string (bs dm)], 25⟩, ⟨w.heap.size, #[.int .i64 r0, .bool tn, .string (bs ta), .string (bs tb), .bool fn, .string (bs fa), .string (bs fb), .bool kn, .string (bs ka), .string (bs kb), .bool true], 59⟩] _) := Lib.hid (St.set ((St.set ((St.set (HS3.out) 0 rfl 0 _)) 0 rfl 1 _)) 0 rfl 2 _)
  refine bodyPost_ret (raw_result rfl _ _ _ _ _ _ rfl (HS4.out.blk 0 rfl)) rfl ?_
  exact ⟨rfl, HS4.out.below⟩

set_option maxRecDepth 100000 in
set_option maxHeartbeats 1000000 in
theorem ref_need (x : Blc) (w : World) (hx : x.small 17179869184) :
  Calls Tryz.prog 52 #[blcV x] w fun e w' => e = .returned (rat (need x)) ∧ Below w.heap.size w w' := by
 have on := fun W => ref_One W
 have z1 : Sized 17179869184 (1 : Rat) := (sized_int8 (n := 1) (by decide)).mono (by decide)
 have mx := fun W => ref_Max x.fn x.fa x.fb x.kn x.ka x.kb W hx.2.1.1 hx.2.1.2 hx.2.2.1 hx.2.2.2
 have hn : need x = if x.acc then maxR (decR x.fn x.fa x.fb) (decR x.kn x.ka x.kb) else 1 := rfl
 generalize maxR (decR x.fn x.fa x.fb) (decR x.kn x.ka x.kb) = m at *
 generalize need x = r at *
 clear z1 hx
 obtain ⟨r0, tn, ta, tb, fn, fa, fb, kn, ka, kb, acc⟩ := x
 unfold blcV
 dsimp only at *
 cases acc
 ·obtain rfl : r = 1 := by rw [hn]; rfl
  generalize (1 : Rat) = u at *
  unfold rat raw at *
  generalize negB u = nu at *
  generalize numB u = bu at *
  generalize denomB u = du at *
  clear mx
  have ON := Lib.hid on
  clear on
  go_enter Tryz.func52, Tryz.ntmps52
  have HS := Lib.hid (St.start w)
  go_wp2_with fail
  have HS2 := Lib.hid (St.alloc ((St.alloc (HS.out) #[.int .i64 r0, .bool tn, .string (bs ta), .string (bs tb), .bool fn, .string (bs fa), .string (bs fb), .bool kn, .string (bs ka), .string (bs kb), .bool false] 59 (w.heap.size) (by simp))) #[.bool false, .string (bs []), .string (bs [])] 25 (w.heap.size + 1) (by simp))
  refine (ON.out _).mono ?_
  rintro e w3 ⟨rfl, hb3⟩
  have HS3 := Lib.hid (HS2.out.call hb3)
  clear hb3 HS HS2
  obtain ⟨x1, x2, x3⟩ := HS3.out.k0 0 rfl rfl rfl rfl
  obtain ⟨x4, x5, x6⟩ := HS3.out.f0 0 rfl
  have x7 := HS3.out.ne 0 1 rfl rfl (by decide)
  have x8 := HS3.out.ne 1 0 rfl rfl (by decide)
  go_wp2
  have HS4 : Hid (St w [⟨w.heap.size + 1, #[.bool nu, .string (bs bu), .string (bs du)], 25⟩, ⟨w.heap.size, #[.int .i64 r0, .bool tn, .string (bs ta), .string (bs tb), .bool fn, .string (bs fa), .string (bs fb), .bool kn, .string (bs ka), .string (bs kb), .bool false], 59⟩] _) := Lib.hid (St.set ((St.set ((St.set (HS3.out) 0 rfl 0 _)) 0 rfl 1 _)) 0 rfl 2 _)
  refine bodyPost_ret (raw_result rfl _ _ _ _ _ _ rfl (HS4.out.blk 0 rfl)) rfl ?_
  exact ⟨rfl, HS4.out.below⟩
 ·obtain rfl : r = m := by rw [hn]; rfl
  clear on hn
  generalize r = m at *
  unfold rat raw at *
  generalize negB m = nm at *
  generalize numB m = bm at *
  generalize denomB m = dm at *
  have MX := Lib.hid mx
  clear mx
  go_enter Tryz.func52, Tryz.ntmps52
  have HS := Lib.hid (St.start w)
  go_wp2_with fail
  have HS2 := Lib.hid (St.alloc ((St.alloc (HS.out) #[.int .i64 r0, .bool tn, .string (bs ta), .string (bs tb), .bool fn, .string (bs fa), .string (bs fb), .bool kn, .string (bs ka), .string (bs kb), .bool true] 59 (w.heap.size) (by simp))) #[.bool false, .string (bs []), .string (bs [])] 25 (w.heap.size + 1) (by simp))
  refine (MX.out _).mono ?_
  rintro e w3 ⟨rfl, hb3⟩
  have HS3 := Lib.hid (HS2.out.call hb3)
  clear hb3 HS HS2
  obtain ⟨x1, x2, x3⟩ := HS3.out.k0 0 rfl rfl rfl rfl
  obtain ⟨x4, x5, x6⟩ := HS3.out.f0 0 rfl
  have x7 := HS3.out.ne 0 1 rfl rfl (by decide)
  have x8 := HS3.out.ne 1 0 rfl rfl (by decide)
  go_wp2
  have HS4 : Hid (St w [⟨w.heap.size + 1, #[.bool nm, .string (bs bm), .string (bs dm)], 25⟩, ⟨w.heap.size, #[.int .i64 r0, .bool tn, .string (bs ta), .string (bs tb), .bool fn, .string (bs fa), .string (bs fb), .bool kn, .string (bs ka), .string (bs kb), .bool true], 59⟩] _) := Lib.hid (St.set ((St.set ((St.set (HS3.out) 0 rfl 0 _)) 0 rfl 1 _)) 0 rfl 2 _)
  refine bodyPost_ret (raw_result rfl _ _ _ _ _ _ rfl (HS4.out.blk 0 rfl)) rfl ?_
  exact ⟨rfl, HS4.out.below⟩
end Go.Proofs.YtcllocdhbicpkaaGreatDoor
