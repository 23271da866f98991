/-
The document's differences and comparisons of rational numbers (printed by gen_rc.py).
-/
import Derived.Test.YtakoagjpmdcddaaDoorVH
import Derived.Test.YtakoagjpmdcddaaDoorVI
import Derived.Test.YtakoagjpmdcddaaDoorV8
import Derived.Test.YtakoagjpmdcddaaDoorVF
namespace Go.Proofs.YtakoagjpmdcddaaDoor
open Go.RowKit

theorem sgnR_dec (q : Rat) : sgnR (negB q) (numB q) = sgn q.num := sgnR_sgn q

set_option maxRecDepth 100000 in
set_option maxHeartbeats 1000000 in
theorem ref_Minus (p q : Rat) (w : World) (sp : Sized 17179869184 p) (sq : Sized 17179869184 q) :
    Calls Tryd.prog 32 #[rat p, rat q] w fun e w' => e = .returned (rat (p - q)) ∧ Below w.heap.size w w' := by
  rw [Rat.sub_eq_add_neg]
  have ng := fun W => ref_Opposite q W
  have ad := fun W => ref_Plus p (-q) W sp sq.neg
  clear sp sq
  generalize p + -q = r at *
  generalize hm : -q = m at *
  unfold rat raw at *
  generalize negB p = np at *
  generalize numB p = bp at *
  generalize denomB p = dp at *
  generalize negB q = nq at *
  generalize numB q = bq at *
  generalize denomB q = dq at *
  generalize negB r = nr at *
  generalize numB r = br at *
  generalize denomB r = dr at *
  generalize negB m = nm at *
  generalize numB m = bm at *
  generalize denomB m = dm at *
  clear hm
  have AD := Lib.hid ad
  have NG := Lib.hid ng
  clear ad ng
  go_enter Tryd.func32, Tryd.ntmps32
  have HS := Lib.hid (St.start w)
  go_wp2
  have HS2 : Hid (St w [⟨w.heap.size + 1 + 1, #[.bool false, .string (bs []), .string (bs [])], 28⟩, ⟨w.heap.size + 1, #[.bool nq, .string (bs bq), .string (bs dq)], 28⟩, ⟨w.heap.size, #[.bool np, .string (bs bp), .string (bs dp)], 28⟩] _) := Lib.hid (St.alloc ((St.alloc ((St.alloc (HS.out) #[.bool np, .string (bs bp), .string (bs dp)] 28 _ (by simp))) #[.bool nq, .string (bs bq), .string (bs dq)] 28 _ (by simp))) #[.bool false, .string (bs []), .string (bs [])] 28 _ (by simp))
  clear HS
  refine wp_region_facts 4 [fun _ vv => vv = .agg #[.bool np, .string (bs bp), .string (bs dp)], fun _ vv => vv = .agg #[.bool nq, .string (bs bq), .string (bs dq)], fun _ vv => vv = .agg #[.bool nm, .string (bs bm), .string (bs dm)], fun _ vv => vv = .agg #[.bool nr, .string (bs br), .string (bs dr)]] rfl (by kernel_rfl) (by kernel_rfl) (by kernel_rfl) ⟨fun _ _ _ h _ => h, fun _ _ _ h _ => h, fun _ _ _ h _ => h, fun _ _ _ h _ => h, trivial⟩ ?_ ?_
  refine ⟨?_, ?_, ?_, ?_, trivial⟩
  · intro xx af wv hbx hev hev0 hd
    have e2 : af.tmps[2]?.getD undef = .pointer (some ⟨w.heap.size, 0, none⟩) := hev0 2 rfl
    clear hev hev0 hd
    have hs1 := Lib.hid (HS2.out.call hbx)
    have y0 := hs1.out.cell 2 rfl 0 rfl
    have y1 := hs1.out.cell 2 rfl 1 rfl
    have y2 := hs1.out.cell 2 rfl 2 rfl
    go_wp2
    exact StepQ.mk _ (Below.refl _ _) rfl
  · intro xx af wv hbx hev hev0 hd
    have e3 : af.tmps[3]?.getD undef = .pointer (some ⟨w.heap.size + 1, 0, none⟩) := hev0 3 rfl
    clear hev hev0 hd
    have hs1 := Lib.hid (HS2.out.call hbx)
    have y0 := hs1.out.cell 1 rfl 0 rfl
    have y1 := hs1.out.cell 1 rfl 1 rfl
    have y2 := hs1.out.cell 1 rfl 2 rfl
    go_wp2
    exact StepQ.mk _ (Below.refl _ _) rfl
  · intro xx af wv hbx hev hev0 hd
    have e6 := hev 1 _ 6 rfl rfl
    have d1 : xx 1 = .agg #[.bool nq, .string (bs bq), .string (bs dq)] := hd ⟨1, .data⟩ (by simp) rfl
    rw [d1] at e6
    clear d1
    clear hev hev0 hd
    go_wp2_with fail
    refine (NG.out _).mono ?_
    rintro e w8 ⟨rfl, hb8⟩
    go_wp2
    exact StepQ.mk _ hb8 rfl
  · intro xx af wv hbx hev hev0 hd
    have e5 := hev 0 _ 5 rfl rfl
    have d0 : xx 0 = .agg #[.bool np, .string (bs bp), .string (bs dp)] := hd ⟨0, .data⟩ (by simp) rfl
    rw [d0] at e5
    clear d0
    have e7 := hev 2 _ 7 rfl rfl
    have d2 : xx 2 = .agg #[.bool nm, .string (bs bm), .string (bs dm)] := hd ⟨2, .data⟩ (by simp) rfl
    rw [d2] at e7
    clear d2
    clear hev hev0 hd
    go_wp2_with fail
    refine (AD.out _).mono ?_
    rintro e w8 ⟨rfl, hb8⟩
    go_wp2
    exact StepQ.mk _ hb8 rfl
  intro xx w6 hb9 hv
  have hv0 : xx 0 = .agg #[.bool np, .string (bs bp), .string (bs dp)] := hv 0 (by decide)
  have hv1 : xx 1 = .agg #[.bool nq, .string (bs bq), .string (bs dq)] := hv 1 (by decide)
  have hv2 : xx 2 = .agg #[.bool nm, .string (bs bm), .string (bs dm)] := hv 2 (by decide)
  have hv3 : xx 3 = .agg #[.bool nr, .string (bs br), .string (bs dr)] := hv 3 (by decide)
  clear hv
  simp only [List.take, List.drop, fillA, Act.put]
  simp only [hv0, hv1, hv2, hv3]
  clear hv0 hv1 hv2 hv3
  have HS6 := Lib.hid (HS2.out.call hb9)
  clear hb9 HS2
  have x1 := HS6.out.cell 0 rfl 0 rfl
  have x2 := HS6.out.cell 0 rfl 1 rfl
  have x3 := HS6.out.cell 0 rfl 2 rfl
  have x4 := HS6.out.frozen 0 rfl 0
  have x5 := HS6.out.frozen 0 rfl 1
  have x6 := HS6.out.frozen 0 rfl 2
  have x7 := HS6.out.ne 0 1 rfl rfl (by decide)
  have x8 := HS6.out.ne 1 0 rfl rfl (by decide)
  have x9 := HS6.out.ne 0 2 rfl rfl (by decide)
  have x10 := HS6.out.ne 2 0 rfl rfl (by decide)
  go_wp2
  have HS7 : Hid (St w [⟨w.heap.size + 1 + 1, #[.bool nr, .string (bs br), .string (bs dr)], 28⟩, ⟨w.heap.size + 1, #[.bool nq, .string (bs bq), .string (bs dq)], 28⟩, ⟨w.heap.size, #[.bool np, .string (bs bp), .string (bs dp)], 28⟩] _) := Lib.hid (St.set ((St.set ((St.set (HS6.out) 0 rfl 0 _)) 0 rfl 1 _)) 0 rfl 2 _)
  refine bodyPost_ret (raw_result rfl _ _ _ _ _ _ rfl (HS7.out.blk 0 rfl)) rfl ?_
  exact ⟨rfl, HS7.out.below⟩

set_option maxRecDepth 100000 in
set_option maxHeartbeats 1000000 in
theorem ref_Compare (n1 : Bool) (a1 b1 : List UInt8) (n2 : Bool) (a2 b2 : List UInt8) (w : World) (la1 : a1.length ≤ 17179869184) (lb1 : b1.length ≤ 17179869184) (la2 : a2.length ≤ 17179869184) (lb2 : b2.length ≤ 17179869184) :
    Calls Tryd.prog 15 #[raw n1 a1 b1, raw n2 a2 b2] w fun e w' => e = .returned (.int .i64 (sgn (decR n1 a1 b1 - decR n2 a2 b2).num)) ∧ Below w.heap.size w w' := by
  have c1 := fun W => ref_Fix n1 a1 b1 W (by omega) (by omega)
  have c2 := fun W => ref_Fix n2 a2 b2 W (by omega) (by omega)
  have sp := sized_dec (neg := n1) la1 lb1 (by decide)
  have sq := sized_dec (neg := n2) la2 lb2 (by decide)
  generalize decR n1 a1 b1 = p at *
  generalize decR n2 a2 b2 = q at *
  clear la1 lb1 la2 lb2
  have mi := fun W => ref_Minus p q W sp sq
  have sg := fun W => ref_Signum (negB (p - q)) (numB (p - q)) (denomB (p - q)) W
  rw [sgnR_dec] at sg
  clear sp sq
  generalize sgn (p - q).num = s at *
  generalize p - q = r at *
  unfold rat raw at *
  generalize negB p = np at *
  generalize numB p = bp at *
  generalize denomB p = dp at *
  generalize negB q = nq at *
  generalize numB q = bq at *
  generalize denomB q = dq at *
  generalize negB r = nr at *
  generalize numB r = br at *
  generalize denomB r = dr at *
  have C1 := Lib.hid c1
  have C2 := Lib.hid c2
  have MI := Lib.hid mi
  have SG := Lib.hid sg
  clear c1 c2 mi sg
  go_enter Tryd.func15, Tryd.ntmps15
  have HS := Lib.hid (St.start w)
  go_wp2
  have HS2 : Hid (St w [⟨w.heap.size + 1, #[.bool n2, .string (bs a2), .string (bs b2)], 28⟩, ⟨w.heap.size, #[.bool n1, .string (bs a1), .string (bs b1)], 28⟩] _) := Lib.hid (St.alloc ((St.alloc (HS.out) #[.bool n1, .string (bs a1), .string (bs b1)] 28 _ (by simp))) #[.bool n2, .string (bs a2), .string (bs b2)] 28 _ (by simp))
  clear HS
  refine wp_region_facts 6 [fun _ vv => vv = .agg #[.bool n1, .string (bs a1), .string (bs b1)], fun _ vv => vv = .agg #[.bool np, .string (bs bp), .string (bs dp)], fun _ vv => vv = .agg #[.bool n2, .string (bs a2), .string (bs b2)], fun _ vv => vv = .agg #[.bool nq, .string (bs bq), .string (bs dq)], fun _ vv => vv = .agg #[.bool nr, .string (bs br), .string (bs dr)], fun _ vv => vv = .int .i64 s] rfl (by kernel_rfl) (by kernel_rfl) (by kernel_rfl) ⟨fun _ _ _ h _ => h, fun _ _ _ h _ => h, fun _ _ _ h _ => h, fun _ _ _ h _ => h, fun _ _ _ h _ => h, fun _ _ _ h _ => h, trivial⟩ ?_ ?_
  refine ⟨?_, ?_, ?_, ?_, ?_, ?_, trivial⟩
  · intro xx af wv hbx hev hev0 hd
    have e2 : af.tmps[2]?.getD undef = .pointer (some ⟨w.heap.size, 0, none⟩) := hev0 2 rfl
    clear hev hev0 hd
    have hs1 := Lib.hid (HS2.out.call hbx)
    have y0 := hs1.out.cell 1 rfl 0 rfl
    have y1 := hs1.out.cell 1 rfl 1 rfl
    have y2 := hs1.out.cell 1 rfl 2 rfl
    go_wp2
    exact StepQ.mk _ (Below.refl _ _) rfl
  · intro xx af wv hbx hev hev0 hd
    have e5 := hev 0 _ 5 rfl rfl
    have d0 : xx 0 = .agg #[.bool n1, .string (bs a1), .string (bs b1)] := hd ⟨0, .data⟩ (by simp) rfl
    rw [d0] at e5
    clear d0
    clear hev hev0 hd
    go_wp2_with fail
    refine (C1.out _).mono ?_
    rintro e w8 ⟨rfl, hb8⟩
    go_wp2
    exact StepQ.mk _ hb8 rfl
  · intro xx af wv hbx hev hev0 hd
    have e3 : af.tmps[3]?.getD undef = .pointer (some ⟨w.heap.size + 1, 0, none⟩) := hev0 3 rfl
    clear hev hev0 hd
    have hs1 := Lib.hid (HS2.out.call hbx)
    have y0 := hs1.out.cell 0 rfl 0 rfl
    have y1 := hs1.out.cell 0 rfl 1 rfl
    have y2 := hs1.out.cell 0 rfl 2 rfl
    go_wp2
    exact StepQ.mk _ (Below.refl _ _) rfl
  · intro xx af wv hbx hev hev0 hd
    have e7 := hev 2 _ 7 rfl rfl
    have d2 : xx 2 = .agg #[.bool n2, .string (bs a2), .string (bs b2)] := hd ⟨2, .data⟩ (by simp) rfl
    rw [d2] at e7
    clear d2
    clear hev hev0 hd
    go_wp2_with fail
    refine (C2.out _).mono ?_
    rintro e w8 ⟨rfl, hb8⟩
    go_wp2
    exact StepQ.mk _ hb8 rfl
  · intro xx af wv hbx hev hev0 hd
    have e6 := hev 1 _ 6 rfl rfl
    have d1 : xx 1 = .agg #[.bool np, .string (bs bp), .string (bs dp)] := hd ⟨1, .data⟩ (by simp) rfl
    rw [d1] at e6
    clear d1
    have e8 := hev 3 _ 8 rfl rfl
    have d3 : xx 3 = .agg #[.bool nq, .string (bs bq), .string (bs dq)] := hd ⟨3, .data⟩ (by simp) rfl
    rw [d3] at e8
    clear d3
    clear hev hev0 hd
    go_wp2_with fail
    refine (MI.out _).mono ?_
    rintro e w8 ⟨rfl, hb8⟩
    go_wp2
    exact StepQ.mk _ hb8 rfl
  · intro xx af wv hbx hev hev0 hd
    have e9 := hev 4 _ 9 rfl rfl
    have d4 : xx 4 = .agg #[.bool nr, .string (bs br), .string (bs dr)] := hd ⟨4, .data⟩ (by simp) rfl
    rw [d4] at e9
    clear d4
    clear hev hev0 hd
    go_wp2_with fail
    refine (SG.out _).mono ?_
    rintro e w8 ⟨rfl, hb8⟩
    go_wp2
    exact StepQ.mk _ hb8 rfl
  intro xx w5 hb9 hv
  have hv0 : xx 0 = .agg #[.bool n1, .string (bs a1), .string (bs b1)] := hv 0 (by decide)
  have hv1 : xx 1 = .agg #[.bool np, .string (bs bp), .string (bs dp)] := hv 1 (by decide)
  have hv2 : xx 2 = .agg #[.bool n2, .string (bs a2), .string (bs b2)] := hv 2 (by decide)
  have hv3 : xx 3 = .agg #[.bool nq, .string (bs bq), .string (bs dq)] := hv 3 (by decide)
  have hv4 : xx 4 = .agg #[.bool nr, .string (bs br), .string (bs dr)] := hv 4 (by decide)
  have hv5 : xx 5 = .int .i64 s := hv 5 (by decide)
  clear hv
  simp only [List.take, List.drop, fillA, Act.put]
  simp only [hv0, hv1, hv2, hv3, hv4, hv5]
  clear hv0 hv1 hv2 hv3 hv4 hv5
  have HS5 := Lib.hid (HS2.out.call hb9)
  clear hb9 HS2
  go_wp2
  go_ret
  have HS6 : Hid (St w [⟨w.heap.size + 1, #[.bool n2, .string (bs a2), .string (bs b2)], 28⟩, ⟨w.heap.size, #[.bool n1, .string (bs a1), .string (bs b1)], 28⟩] _) := Lib.hid HS5.out
  exact ⟨rfl, HS6.out.below⟩

set_option maxRecDepth 100000 in
set_option maxHeartbeats 1000000 in
theorem ref_Add (n1 : Bool) (a1 b1 : List UInt8) (n2 : Bool) (a2 b2 : List UInt8) (w : World) (la1 : a1.length ≤ 17179869184) (lb1 : b1.length ≤ 17179869184) (la2 : a2.length ≤ 17179869184) (lb2 : b2.length ≤ 17179869184) :
    Calls Tryd.prog 18 #[raw n1 a1 b1, raw n2 a2 b2] w fun e w' => e = .returned (rat (decR n1 a1 b1 + decR n2 a2 b2)) ∧ Below w.heap.size w w' := by
  have c1 := fun W => ref_Fix n1 a1 b1 W (by omega) (by omega)
  have c2 := fun W => ref_Fix n2 a2 b2 W (by omega) (by omega)
  have sp := sized_dec (neg := n1) la1 lb1 (by decide)
  have sq := sized_dec (neg := n2) la2 lb2 (by decide)
  generalize decR n1 a1 b1 = p at *
  generalize decR n2 a2 b2 = q at *
  clear la1 lb1 la2 lb2
  have ad := fun W => ref_Plus p q W sp sq
  clear sp sq
  generalize p + q = r at *
  unfold rat raw at *
  generalize negB p = np at *
  generalize numB p = bp at *
  generalize denomB p = dp at *
  generalize negB q = nq at *
  generalize numB q = bq at *
  generalize denomB q = dq at *
  generalize negB r = nr at *
  generalize numB r = br at *
  generalize denomB r = dr at *
  have C1 := Lib.hid c1
  have C2 := Lib.hid c2
  have AD := Lib.hid ad
  clear c1 c2 ad
  go_enter Tryd.func18, Tryd.ntmps18
  have HS := Lib.hid (St.start w)
  go_wp2
  have HS2 : Hid (St w [⟨w.heap.size + 1 + 1, #[.bool false, .string (bs []), .string (bs [])], 28⟩, ⟨w.heap.size + 1, #[.bool n2, .string (bs a2), .string (bs b2)], 28⟩, ⟨w.heap.size, #[.bool n1, .string (bs a1), .string (bs b1)], 28⟩] _) := Lib.hid (St.alloc ((St.alloc ((St.alloc (HS.out) #[.bool n1, .string (bs a1), .string (bs b1)] 28 _ (by simp))) #[.bool n2, .string (bs a2), .string (bs b2)] 28 _ (by simp))) #[.bool false, .string (bs []), .string (bs [])] 28 _ (by simp))
  clear HS
  refine wp_region_facts 5 [fun _ vv => vv = .agg #[.bool n1, .string (bs a1), .string (bs b1)], fun _ vv => vv = .agg #[.bool np, .string (bs bp), .string (bs dp)], fun _ vv => vv = .agg #[.bool n2, .string (bs a2), .string (bs b2)], fun _ vv => vv = .agg #[.bool nq, .string (bs bq), .string (bs dq)], fun _ vv => vv = .agg #[.bool nr, .string (bs br), .string (bs dr)]] rfl (by kernel_rfl) (by kernel_rfl) (by kernel_rfl) ⟨fun _ _ _ h _ => h, fun _ _ _ h _ => h, fun _ _ _ h _ => h, fun _ _ _ h _ => h, fun _ _ _ h _ => h, trivial⟩ ?_ ?_
  refine ⟨?_, ?_, ?_, ?_, ?_, trivial⟩
  · intro xx af wv hbx hev hev0 hd
    have e2 : af.tmps[2]?.getD undef = .pointer (some ⟨w.heap.size, 0, none⟩) := hev0 2 rfl
    clear hev hev0 hd
    have hs1 := Lib.hid (HS2.out.call hbx)
    have y0 := hs1.out.cell 2 rfl 0 rfl
    have y1 := hs1.out.cell 2 rfl 1 rfl
    have y2 := hs1.out.cell 2 rfl 2 rfl
    go_wp2
    exact StepQ.mk _ (Below.refl _ _) rfl
  · intro xx af wv hbx hev hev0 hd
    have e5 := hev 0 _ 5 rfl rfl
    have d0 : xx 0 = .agg #[.bool n1, .string (bs a1), .string (bs b1)] := hd ⟨0, .data⟩ (by simp) rfl
    rw [d0] at e5
    clear d0
    clear hev hev0 hd
    go_wp2_with fail
    refine (C1.out _).mono ?_
    rintro e w8 ⟨rfl, hb8⟩
    go_wp2
    exact StepQ.mk _ hb8 rfl
  · intro xx af wv hbx hev hev0 hd
    have e3 : af.tmps[3]?.getD undef = .pointer (some ⟨w.heap.size + 1, 0, none⟩) := hev0 3 rfl
    clear hev hev0 hd
    have hs1 := Lib.hid (HS2.out.call hbx)
    have y0 := hs1.out.cell 1 rfl 0 rfl
    have y1 := hs1.out.cell 1 rfl 1 rfl
    have y2 := hs1.out.cell 1 rfl 2 rfl
    go_wp2
    exact StepQ.mk _ (Below.refl _ _) rfl
  · intro xx af wv hbx hev hev0 hd
    have e7 := hev 2 _ 7 rfl rfl
    have d2 : xx 2 = .agg #[.bool n2, .string (bs a2), .string (bs b2)] := hd ⟨2, .data⟩ (by simp) rfl
    rw [d2] at e7
    clear d2
    clear hev hev0 hd
    go_wp2_with fail
    refine (C2.out _).mono ?_
    rintro e w8 ⟨rfl, hb8⟩
    go_wp2
    exact StepQ.mk _ hb8 rfl
  · intro xx af wv hbx hev hev0 hd
    have e6 := hev 1 _ 6 rfl rfl
    have d1 : xx 1 = .agg #[.bool np, .string (bs bp), .string (bs dp)] := hd ⟨1, .data⟩ (by simp) rfl
    rw [d1] at e6
    clear d1
    have e8 := hev 3 _ 8 rfl rfl
    have d3 : xx 3 = .agg #[.bool nq, .string (bs bq), .string (bs dq)] := hd ⟨3, .data⟩ (by simp) rfl
    rw [d3] at e8
    clear d3
    clear hev hev0 hd
    go_wp2_with fail
    refine (AD.out _).mono ?_
    rintro e w8 ⟨rfl, hb8⟩
    go_wp2
    exact StepQ.mk _ hb8 rfl
  intro xx w6 hb9 hv
  have hv0 : xx 0 = .agg #[.bool n1, .string (bs a1), .string (bs b1)] := hv 0 (by decide)
  have hv1 : xx 1 = .agg #[.bool np, .string (bs bp), .string (bs dp)] := hv 1 (by decide)
  have hv2 : xx 2 = .agg #[.bool n2, .string (bs a2), .string (bs b2)] := hv 2 (by decide)
  have hv3 : xx 3 = .agg #[.bool nq, .string (bs bq), .string (bs dq)] := hv 3 (by decide)
  have hv4 : xx 4 = .agg #[.bool nr, .string (bs br), .string (bs dr)] := hv 4 (by decide)
  clear hv
  simp only [List.take, List.drop, fillA, Act.put]
  simp only [hv0, hv1, hv2, hv3, hv4]
  clear hv0 hv1 hv2 hv3 hv4
  have HS6 := Lib.hid (HS2.out.call hb9)
  clear hb9 HS2
  have x1 := HS6.out.cell 0 rfl 0 rfl
  have x2 := HS6.out.cell 0 rfl 1 rfl
  have x3 := HS6.out.cell 0 rfl 2 rfl
  have x4 := HS6.out.frozen 0 rfl 0
  have x5 := HS6.out.frozen 0 rfl 1
  have x6 := HS6.out.frozen 0 rfl 2
  have x7 := HS6.out.ne 0 1 rfl rfl (by decide)
  have x8 := HS6.out.ne 1 0 rfl rfl (by decide)
  have x9 := HS6.out.ne 0 2 rfl rfl (by decide)
  have x10 := HS6.out.ne 2 0 rfl rfl (by decide)
  go_wp2
  have HS7 : Hid (St w [⟨w.heap.size + 1 + 1, #[.bool nr, .string (bs br), .string (bs dr)], 28⟩, ⟨w.heap.size + 1, #[.bool n2, .string (bs a2), .string (bs b2)], 28⟩, ⟨w.heap.size, #[.bool n1, .string (bs a1), .string (bs b1)], 28⟩] _) := Lib.hid (St.set ((St.set ((St.set (HS6.out) 0 rfl 0 _)) 0 rfl 1 _)) 0 rfl 2 _)
  refine bodyPost_ret (raw_result rfl _ _ _ _ _ _ rfl (HS7.out.blk 0 rfl)) rfl ?_
  exact ⟨rfl, HS7.out.below⟩
end Go.Proofs.YtakoagjpmdcddaaDoor
