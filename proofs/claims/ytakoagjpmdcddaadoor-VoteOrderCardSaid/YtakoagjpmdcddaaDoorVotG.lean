/-
The program's test of a tally; its Count and Accepts (printed by gen_vot3.py).
-/
import Derived.Test.YtakoagjpmdcddaaDoorVotF
import Derived.Test.YtakoagjpmdcddaaDoorInx
namespace Go.Proofs.YtakoagjpmdcddaaDoor
open Go.RowKit

set_option maxRecDepth 100000 in
set_option maxHeartbeats 1000000 in
theorem vote_carried (t : Tly) (w : World) (h1 : Sized 10000000 t.amount) (h2 : Sized 10000000 t.yes) (h3 : t.heads ≤ 1000000) (h4 : t.yesHeads ≤ 1000000) :
    Calls Tryd.prog 27 #[tly t] w fun e w' => e = .returned (.bool (passedV t)) ∧ Below w.heap.size w w' := by
  obtain ⟨p, q, m, n⟩ := t
  dsimp only at h1 h2 h3 h4
  unfold tly tlyC passedV
  dsimp only
  have i3 := fun W => rational_Int 3 W (by decide) (by decide)
  have i2 := fun W => rational_Int 2 W (by decide) (by decide)
  have z3 := (sized_int8 (n := 3) (by decide)).mono (show 8 ≤ 17179869184 by decide)
  have z2 := (sized_int8 (n := 2) (by decide)).mono (show 8 ≤ 17179869184 by decide)
  have x3 := z3.mono (Nat.le_refl _)
  have m3 := fun W => rational_MulR ((3 : Int) : Rat) q W z3 (h2.mono (by decide))
  have m2 := fun W => rational_MulR ((2 : Int) : Rat) p W z2 (h1.mono (by decide))
  have s3 := ((sized_int8 (n := 3) (by decide)).mul h2).mono (show _ ≤ 17179869184 by decide)
  have s2 := ((sized_int8 (n := 2) (by decide)).mul h1).mono (show _ ≤ 17179869184 by decide)
  rw [show ((3 : Int) : Rat) = 3 from rfl] at i3 m3 s3
  rw [show ((2 : Int) : Rat) = 2 from rfl] at i2 m2 s2
  have cm := fun W => rational_Compare (negB (3 * q)) (numB (3 * q)) (denomB (3 * q)) (negB (2 * p)) (numB (2 * p)) (denomB (2 * p)) W s3.num s3.denom s2.num s2.denom
  rw [show decR (negB (3 * q)) (numB (3 * q)) (denomB (3 * q)) = 3 * q from dec_enc _, show decR (negB (2 * p)) (numB (2 * p)) (denomB (2 * p)) = 2 * p from dec_enc _] at cm
  clear z3 z2 x3 s3 s2 h1 h2
  generalize sgn (3 * q - 2 * p).num = cc at *
  generalize (3 : Rat) * q = a at *
  generalize (2 : Rat) * p = b at *
  generalize (3 : Rat) = u at *
  generalize (2 : Rat) = v at *
  unfold rat raw at *
  generalize negB p = np at *
  generalize numB p = bp at *
  generalize denomB p = dp at *
  generalize negB q = nq at *
  generalize numB q = bq at *
  generalize denomB q = dq at *
  generalize negB a = na at *
  generalize numB a = ba at *
  generalize denomB a = da at *
  generalize negB b = nb at *
  generalize numB b = bb at *
  generalize denomB b = db at *
  generalize negB u = nu at *
  generalize numB u = bu at *
  generalize denomB u = du at *
  generalize negB v = nv at *
  generalize numB v = bv at *
  generalize denomB v = dv at *
  have I3 := Lib.hid i3
  have I2 := Lib.hid i2
  have M3 := Lib.hid m3
  have M2 := Lib.hid m2
  have CM := Lib.hid cm
  clear i3 i2 m3 m2 cm
  have k1 : IntKind.i64.wrap (2 * (n : Int)) = 2 * (n : Int) := IntWalk.i64_in _ (by omega)
  have k2 : decide ((m : Int) < 2 * (n : Int)) = decide (m < 2 * n) := by rw [Bool.eq_iff_iff]; simp; omega
  obtain ⟨dB, hdB⟩ : ∃ x, x = decide (m < 2 * n) := ⟨_, rfl⟩
  rw [← hdB] at k2 ⊢
  obtain ⟨eB, heB⟩ : ∃ x, x = decide (0 ≤ cc) := ⟨_, rfl⟩
  rw [← heB]
  have k3 : decide (0 ≤ cc) = eB := heB.symm
  clear hdB heB
  cases eB
  · go_enter Tryd.func27, Tryd.ntmps27
    have HS := Lib.hid (St.start w)
    go_wp2
    have HS2 : Hid (St w [⟨w.heap.size, #[.bool np, .string (bs bp), .string (bs dp), .bool nq, .string (bs bq), .string (bs dq), .int .i64 (m : Nat), .int .i64 (n : Nat)], 45⟩] _) := Lib.hid (St.alloc (HS.out) #[.bool np, .string (bs bp), .string (bs dp), .bool nq, .string (bs bq), .string (bs dq), .int .i64 (m : Nat), .int .i64 (n : Nat)] 45 _ (by simp))
    clear HS
    refine wp_region_two 10 8 9 [.agg #[.bool nu, .string (bs bu), .string (bs du)], .pointer (some ⟨w.heap.size, 3, none⟩), .agg #[.bool nq, .string (bs bq), .string (bs dq)], .agg #[.bool na, .string (bs ba), .string (bs da)], .agg #[.bool nv, .string (bs bv), .string (bs dv)], .pointer (some ⟨w.heap.size, 0, none⟩), .agg #[.bool np, .string (bs bp), .string (bs dp)], .agg #[.bool nb, .string (bs bb), .string (bs db)], undef, undef] #[.bool false, .string (bs []), .string (bs [])] 28 #[.bool false, .string (bs []), .string (bs [])] 28 rfl (by kernel_rfl) (by kernel_rfl) (by kernel_rfl) (by decide) (by decide) (by decide) ?_ ?_
    refine ⟨?_, ?_, ?_, ?_, ?_, ?_, ?_, ?_, ?_, ?_, trivial⟩
    · intro xx af wv hbx hev hev0 hd
      clear hev hev0 hd
      rw [if_neg (by decide), if_neg (by decide)]
      go_wp2_with fail
      refine (I3.out _).mono ?_
      rintro e w8 ⟨rfl, hb8⟩
      go_wp2
      exact StepQ.mk _ hb8 rfl
    · intro xx af wv hbx hev hev0 hd
      have e1 : af.tmps[1]?.getD undef = .pointer (some ⟨w.heap.size, 0, none⟩) := hev0 1 rfl
      clear hev hev0 hd
      rw [if_neg (by decide), if_neg (by decide)]
      go_wp2
      exact StepQ.mk _ (Below.refl _ _) rfl
    · intro xx af wv hbx hev hev0 hd
      have e6 := hev 1 _ 6 rfl rfl
      have d1 : xx 1 = .pointer (some ⟨w.heap.size, 3, none⟩) := hd ⟨1, .data⟩ (by simp) rfl (by decide) (by decide)
      rw [d1] at e6
      clear d1
      clear hev hev0 hd
      rw [if_neg (by decide), if_neg (by decide)]
      have hs1 := Lib.hid (HS2.out.call hbx)
      have y0 := hs1.out.cell 0 rfl 3 rfl
      have y1 := hs1.out.cell 0 rfl 4 rfl
      have y2 := hs1.out.cell 0 rfl 5 rfl
      go_wp2
      exact StepQ.mk _ (Below.refl _ _) rfl
    · intro xx af wv hbx hev hev0 hd
      have e5 := hev 0 _ 5 rfl rfl
      have d0 : xx 0 = .agg #[.bool nu, .string (bs bu), .string (bs du)] := hd ⟨0, .data⟩ (by simp) rfl (by decide) (by decide)
      rw [d0] at e5
      clear d0
      have e7 := hev 2 _ 7 rfl rfl
      have d2 : xx 2 = .agg #[.bool nq, .string (bs bq), .string (bs dq)] := hd ⟨2, .data⟩ (by simp) rfl (by decide) (by decide)
      rw [d2] at e7
      clear d2
      clear hev hev0 hd
      rw [if_neg (by decide), if_neg (by decide)]
      go_wp2_with fail
      refine (M3.out _).mono ?_
      rintro e w8 ⟨rfl, hb8⟩
      go_wp2
      exact StepQ.mk _ hb8 rfl
    · intro xx af wv hbx hev hev0 hd
      clear hev hev0 hd
      rw [if_neg (by decide), if_neg (by decide)]
      go_wp2_with fail
      refine (I2.out _).mono ?_
      rintro e w8 ⟨rfl, hb8⟩
      go_wp2
      exact StepQ.mk _ hb8 rfl
    · intro xx af wv hbx hev hev0 hd
      have e1 : af.tmps[1]?.getD undef = .pointer (some ⟨w.heap.size, 0, none⟩) := hev0 1 rfl
      clear hev hev0 hd
      rw [if_neg (by decide), if_neg (by decide)]
      go_wp2
      exact StepQ.mk _ (Below.refl _ _) rfl
    · intro xx af wv hbx hev hev0 hd
      have e10 := hev 5 _ 10 rfl rfl
      have d5 : xx 5 = .pointer (some ⟨w.heap.size, 0, none⟩) := hd ⟨5, .data⟩ (by simp) rfl (by decide) (by decide)
      rw [d5] at e10
      clear d5
      clear hev hev0 hd
      rw [if_neg (by decide), if_neg (by decide)]
      have hs1 := Lib.hid (HS2.out.call hbx)
      have y0 := hs1.out.cell 0 rfl 0 rfl
      have y1 := hs1.out.cell 0 rfl 1 rfl
      have y2 := hs1.out.cell 0 rfl 2 rfl
      go_wp2
      exact StepQ.mk _ (Below.refl _ _) rfl
    · intro xx af wv hbx hev hev0 hd
      have e9 := hev 4 _ 9 rfl rfl
      have d4 : xx 4 = .agg #[.bool nv, .string (bs bv), .string (bs dv)] := hd ⟨4, .data⟩ (by simp) rfl (by decide) (by decide)
      rw [d4] at e9
      clear d4
      have e11 := hev 6 _ 11 rfl rfl
      have d6 : xx 6 = .agg #[.bool np, .string (bs bp), .string (bs dp)] := hd ⟨6, .data⟩ (by simp) rfl (by decide) (by decide)
      rw [d6] at e11
      clear d6
      clear hev hev0 hd
      rw [if_neg (by decide), if_neg (by decide)]
      go_wp2_with fail
      refine (M2.out _).mono ?_
      rintro e w8 ⟨rfl, hb8⟩
      go_wp2
      exact StepQ.mk _ hb8 rfl
    · intro xx af wv hbx hev hev0 hd
      clear hev hev0 hd
      rw [if_pos rfl]
      go_wp2
      exact StepQ.mk _ (Ext.alloc (Below.refl _ _) _) ⟨_, rfl, Nat.le_refl _, Blk.new _ _ _⟩
    · intro xx af wv hbx hev hev0 hd
      clear hev hev0 hd
      rw [if_neg (by decide), if_pos rfl]
      go_wp2
      exact StepQ.mk _ (Ext.alloc (Below.refl _ _) _) ⟨_, rfl, Nat.le_refl _, Blk.new _ _ _⟩
    intro xx w4 ga4 gb4 hb9 hv hxa hxb hla hlb hBa hBb hne
    have hv0 : xx 0 = .agg #[.bool nu, .string (bs bu), .string (bs du)] := hv 0 (by decide) (by decide) (by decide)
    have hv1 : xx 1 = .pointer (some ⟨w.heap.size, 3, none⟩) := hv 1 (by decide) (by decide) (by decide)
    have hv2 : xx 2 = .agg #[.bool nq, .string (bs bq), .string (bs dq)] := hv 2 (by decide) (by decide) (by decide)
    have hv3 : xx 3 = .agg #[.bool na, .string (bs ba), .string (bs da)] := hv 3 (by decide) (by decide) (by decide)
    have hv4 : xx 4 = .agg #[.bool nv, .string (bs bv), .string (bs dv)] := hv 4 (by decide) (by decide) (by decide)
    have hv5 : xx 5 = .pointer (some ⟨w.heap.size, 0, none⟩) := hv 5 (by decide) (by decide) (by decide)
    have hv6 : xx 6 = .agg #[.bool np, .string (bs bp), .string (bs dp)] := hv 6 (by decide) (by decide) (by decide)
    have hv7 : xx 7 = .agg #[.bool nb, .string (bs bb), .string (bs db)] := hv 7 (by decide) (by decide) (by decide)
    clear hv
    simp only [List.take, List.drop, fillA, Act.put]
    simp only [hxa, hxb, hv0, hv1, hv2, hv3, hv4, hv5, hv6, hv7]
    clear hxa hxb hv0 hv1 hv2 hv3 hv4 hv5 hv6 hv7
    have HS4 := Lib.hid (HS2.out.fill2 hb9 hla hBa hlb hBb hne)
    clear hb9 hla hlb hBa hBb hne HS2
    have x1 := HS4.out.cell 1 rfl 0 rfl
    have x2 := HS4.out.cell 1 rfl 1 rfl
    have x3 := HS4.out.cell 1 rfl 2 rfl
    have x4 := HS4.out.cell 0 rfl 0 rfl
    have x5 := HS4.out.cell 0 rfl 1 rfl
    have x6 := HS4.out.cell 0 rfl 2 rfl
    have x7 := HS4.out.frozen 1 rfl 0
    have x8 := HS4.out.frozen 1 rfl 1
    have x9 := HS4.out.frozen 1 rfl 2
    have x10 := HS4.out.frozen 0 rfl 0
    have x11 := HS4.out.frozen 0 rfl 1
    have x12 := HS4.out.frozen 0 rfl 2
    have x13 := HS4.out.ne 1 0 rfl rfl (by decide)
    have x14 := HS4.out.ne 0 1 rfl rfl (by decide)
    have x15 := HS4.out.ne 1 2 rfl rfl (by decide)
    have x16 := HS4.out.ne 2 1 rfl rfl (by decide)
    have x17 := HS4.out.ne 0 1 rfl rfl (by decide)
    have x18 := HS4.out.ne 1 0 rfl rfl (by decide)
    have x19 := HS4.out.ne 0 2 rfl rfl (by decide)
    have x20 := HS4.out.ne 2 0 rfl rfl (by decide)
    go_wp2_with fail
    have HS5 : Hid (St w [⟨gb4, #[.bool nb, .string (bs bb), .string (bs db)], 28⟩, ⟨ga4, #[.bool na, .string (bs ba), .string (bs da)], 28⟩, ⟨w.heap.size, #[.bool np, .string (bs bp), .string (bs dp), .bool nq, .string (bs bq), .string (bs dq), .int .i64 (m : Nat), .int .i64 (n : Nat)], 45⟩] _) := Lib.hid (St.set ((St.set ((St.set ((St.set ((St.set ((St.set (HS4.out) 1 rfl 0 _)) 1 rfl 1 _)) 1 rfl 2 _)) 0 rfl 0 _)) 0 rfl 1 _)) 0 rfl 2 _)
    refine (CM.out _).mono ?_
    rintro e w6 ⟨rfl, hb6⟩
    have HS6 := Lib.hid (HS5.out.call hb6)
    clear hb6 HS4 HS5
    clear x1 x2 x3 x4 x5 x6 x7 x8 x9 x10 x11 x12 x13 x14 x15 x16 x17 x18 x19 x20
    go_wp2
    go_ret
    have HS7 : Hid (St w [⟨gb4, #[.bool nb, .string (bs bb), .string (bs db)], 28⟩, ⟨ga4, #[.bool na, .string (bs ba), .string (bs da)], 28⟩, ⟨w.heap.size, #[.bool np, .string (bs bp), .string (bs dp), .bool nq, .string (bs bq), .string (bs dq), .int .i64 (m : Nat), .int .i64 (n : Nat)], 45⟩] _) := Lib.hid HS6.out
    exact ⟨rfl, HS7.out.below⟩
  · go_enter Tryd.func27, Tryd.ntmps27
    have HS := Lib.hid (St.start w)
    go_wp2
    have HS2 : Hid (St w [⟨w.heap.size, #[.bool np, .string (bs bp), .string (bs dp), .bool nq, .string (bs bq), .string (bs dq), .int .i64 (m : Nat), .int .i64 (n : Nat)], 45⟩] _) := Lib.hid (St.alloc (HS.out) #[.bool np, .string (bs bp), .string (bs dp), .bool nq, .string (bs bq), .string (bs dq), .int .i64 (m : Nat), .int .i64 (n : Nat)] 45 _ (by simp))
    clear HS
    refine wp_region_two 10 8 9 [.agg #[.bool nu, .string (bs bu), .string (bs du)], .pointer (some ⟨w.heap.size, 3, none⟩), .agg #[.bool nq, .string (bs bq), .string (bs dq)], .agg #[.bool na, .string (bs ba), .string (bs da)], .agg #[.bool nv, .string (bs bv), .string (bs dv)], .pointer (some ⟨w.heap.size, 0, none⟩), .agg #[.bool np, .string (bs bp), .string (bs dp)], .agg #[.bool nb, .string (bs bb), .string (bs db)], undef, undef] #[.bool false, .string (bs []), .string (bs [])] 28 #[.bool false, .string (bs []), .string (bs [])] 28 rfl (by kernel_rfl) (by kernel_rfl) (by kernel_rfl) (by decide) (by decide) (by decide) ?_ ?_
    refine ⟨?_, ?_, ?_, ?_, ?_, ?_, ?_, ?_, ?_, ?_, trivial⟩
    · intro xx af wv hbx hev hev0 hd
      clear hev hev0 hd
      rw [if_neg (by decide), if_neg (by decide)]
      go_wp2_with fail
      refine (I3.out _).mono ?_
      rintro e w8 ⟨rfl, hb8⟩
      go_wp2
      exact StepQ.mk _ hb8 rfl
    · intro xx af wv hbx hev hev0 hd
      have e1 : af.tmps[1]?.getD undef = .pointer (some ⟨w.heap.size, 0, none⟩) := hev0 1 rfl
      clear hev hev0 hd
      rw [if_neg (by decide), if_neg (by decide)]
      go_wp2
      exact StepQ.mk _ (Below.refl _ _) rfl
    · intro xx af wv hbx hev hev0 hd
      have e6 := hev 1 _ 6 rfl rfl
      have d1 : xx 1 = .pointer (some ⟨w.heap.size, 3, none⟩) := hd ⟨1, .data⟩ (by simp) rfl (by decide) (by decide)
      rw [d1] at e6
      clear d1
      clear hev hev0 hd
      rw [if_neg (by decide), if_neg (by decide)]
      have hs1 := Lib.hid (HS2.out.call hbx)
      have y0 := hs1.out.cell 0 rfl 3 rfl
      have y1 := hs1.out.cell 0 rfl 4 rfl
      have y2 := hs1.out.cell 0 rfl 5 rfl
      go_wp2
      exact StepQ.mk _ (Below.refl _ _) rfl
    · intro xx af wv hbx hev hev0 hd
      have e5 := hev 0 _ 5 rfl rfl
      have d0 : xx 0 = .agg #[.bool nu, .string (bs bu), .string (bs du)] := hd ⟨0, .data⟩ (by simp) rfl (by decide) (by decide)
      rw [d0] at e5
      clear d0
      have e7 := hev 2 _ 7 rfl rfl
      have d2 : xx 2 = .agg #[.bool nq, .string (bs bq), .string (bs dq)] := hd ⟨2, .data⟩ (by simp) rfl (by decide) (by decide)
      rw [d2] at e7
      clear d2
      clear hev hev0 hd
      rw [if_neg (by decide), if_neg (by decide)]
      go_wp2_with fail
      refine (M3.out _).mono ?_
      rintro e w8 ⟨rfl, hb8⟩
      go_wp2
      exact StepQ.mk _ hb8 rfl
    · intro xx af wv hbx hev hev0 hd
      clear hev hev0 hd
      rw [if_neg (by decide), if_neg (by decide)]
      go_wp2_with fail
      refine (I2.out _).mono ?_
      rintro e w8 ⟨rfl, hb8⟩
      go_wp2
      exact StepQ.mk _ hb8 rfl
    · intro xx af wv hbx hev hev0 hd
      have e1 : af.tmps[1]?.getD undef = .pointer (some ⟨w.heap.size, 0, none⟩) := hev0 1 rfl
      clear hev hev0 hd
      rw [if_neg (by decide), if_neg (by decide)]
      go_wp2
      exact StepQ.mk _ (Below.refl _ _) rfl
    · intro xx af wv hbx hev hev0 hd
      have e10 := hev 5 _ 10 rfl rfl
      have d5 : xx 5 = .pointer (some ⟨w.heap.size, 0, none⟩) := hd ⟨5, .data⟩ (by simp) rfl (by decide) (by decide)
      rw [d5] at e10
      clear d5
      clear hev hev0 hd
      rw [if_neg (by decide), if_neg (by decide)]
      have hs1 := Lib.hid (HS2.out.call hbx)
      have y0 := hs1.out.cell 0 rfl 0 rfl
      have y1 := hs1.out.cell 0 rfl 1 rfl
      have y2 := hs1.out.cell 0 rfl 2 rfl
      go_wp2
      exact StepQ.mk _ (Below.refl _ _) rfl
    · intro xx af wv hbx hev hev0 hd
      have e9 := hev 4 _ 9 rfl rfl
      have d4 : xx 4 = .agg #[.bool nv, .string (bs bv), .string (bs dv)] := hd ⟨4, .data⟩ (by simp) rfl (by decide) (by decide)
      rw [d4] at e9
      clear d4
      have e11 := hev 6 _ 11 rfl rfl
      have d6 : xx 6 = .agg #[.bool np, .string (bs bp), .string (bs dp)] := hd ⟨6, .data⟩ (by simp) rfl (by decide) (by decide)
      rw [d6] at e11
      clear d6
      clear hev hev0 hd
      rw [if_neg (by decide), if_neg (by decide)]
      go_wp2_with fail
      refine (M2.out _).mono ?_
      rintro e w8 ⟨rfl, hb8⟩
      go_wp2
      exact StepQ.mk _ hb8 rfl
    · intro xx af wv hbx hev hev0 hd
      clear hev hev0 hd
      rw [if_pos rfl]
      go_wp2
      exact StepQ.mk _ (Ext.alloc (Below.refl _ _) _) ⟨_, rfl, Nat.le_refl _, Blk.new _ _ _⟩
    · intro xx af wv hbx hev hev0 hd
      clear hev hev0 hd
      rw [if_neg (by decide), if_pos rfl]
      go_wp2
      exact StepQ.mk _ (Ext.alloc (Below.refl _ _) _) ⟨_, rfl, Nat.le_refl _, Blk.new _ _ _⟩
    intro xx w4 ga4 gb4 hb9 hv hxa hxb hla hlb hBa hBb hne
    have hv0 : xx 0 = .agg #[.bool nu, .string (bs bu), .string (bs du)] := hv 0 (by decide) (by decide) (by decide)
    have hv1 : xx 1 = .pointer (some ⟨w.heap.size, 3, none⟩) := hv 1 (by decide) (by decide) (by decide)
    have hv2 : xx 2 = .agg #[.bool nq, .string (bs bq), .string (bs dq)] := hv 2 (by decide) (by decide) (by decide)
    have hv3 : xx 3 = .agg #[.bool na, .string (bs ba), .string (bs da)] := hv 3 (by decide) (by decide) (by decide)
    have hv4 : xx 4 = .agg #[.bool nv, .string (bs bv), .string (bs dv)] := hv 4 (by decide) (by decide) (by decide)
    have hv5 : xx 5 = .pointer (some ⟨w.heap.size, 0, none⟩) := hv 5 (by decide) (by decide) (by decide)
    have hv6 : xx 6 = .agg #[.bool np, .string (bs bp), .string (bs dp)] := hv 6 (by decide) (by decide) (by decide)
    have hv7 : xx 7 = .agg #[.bool nb, .string (bs bb), .string (bs db)] := hv 7 (by decide) (by decide) (by decide)
    clear hv
    simp only [List.take, List.drop, fillA, Act.put]
    simp only [hxa, hxb, hv0, hv1, hv2, hv3, hv4, hv5, hv6, hv7]
    clear hxa hxb hv0 hv1 hv2 hv3 hv4 hv5 hv6 hv7
    have HS4 := Lib.hid (HS2.out.fill2 hb9 hla hBa hlb hBb hne)
    clear hb9 hla hlb hBa hBb hne HS2
    have x1 := HS4.out.cell 1 rfl 0 rfl
    have x2 := HS4.out.cell 1 rfl 1 rfl
    have x3 := HS4.out.cell 1 rfl 2 rfl
    have x4 := HS4.out.cell 0 rfl 0 rfl
    have x5 := HS4.out.cell 0 rfl 1 rfl
    have x6 := HS4.out.cell 0 rfl 2 rfl
    have x7 := HS4.out.frozen 1 rfl 0
    have x8 := HS4.out.frozen 1 rfl 1
    have x9 := HS4.out.frozen 1 rfl 2
    have x10 := HS4.out.frozen 0 rfl 0
    have x11 := HS4.out.frozen 0 rfl 1
    have x12 := HS4.out.frozen 0 rfl 2
    have x13 := HS4.out.ne 1 0 rfl rfl (by decide)
    have x14 := HS4.out.ne 0 1 rfl rfl (by decide)
    have x15 := HS4.out.ne 1 2 rfl rfl (by decide)
    have x16 := HS4.out.ne 2 1 rfl rfl (by decide)
    have x17 := HS4.out.ne 0 1 rfl rfl (by decide)
    have x18 := HS4.out.ne 1 0 rfl rfl (by decide)
    have x19 := HS4.out.ne 0 2 rfl rfl (by decide)
    have x20 := HS4.out.ne 2 0 rfl rfl (by decide)
    go_wp2_with fail
    have HS5 : Hid (St w [⟨gb4, #[.bool nb, .string (bs bb), .string (bs db)], 28⟩, ⟨ga4, #[.bool na, .string (bs ba), .string (bs da)], 28⟩, ⟨w.heap.size, #[.bool np, .string (bs bp), .string (bs dp), .bool nq, .string (bs bq), .string (bs dq), .int .i64 (m : Nat), .int .i64 (n : Nat)], 45⟩] _) := Lib.hid (St.set ((St.set ((St.set ((St.set ((St.set ((St.set (HS4.out) 1 rfl 0 _)) 1 rfl 1 _)) 1 rfl 2 _)) 0 rfl 0 _)) 0 rfl 1 _)) 0 rfl 2 _)
    refine (CM.out _).mono ?_
    rintro e w6 ⟨rfl, hb6⟩
    have HS6 := Lib.hid (HS5.out.call hb6)
    clear hb6 HS4 HS5
    clear x1 x2 x3 x4 x5 x6 x7 x8 x9 x10 x11 x12 x13 x14 x15 x16 x17 x18 x19 x20
    have x21 := HS6.out.cell 2 rfl 7 rfl
    have x22 := HS6.out.cell 2 rfl 6 rfl
    go_wp2
    go_ret
    have HS7 : Hid (St w [⟨gb4, #[.bool nb, .string (bs bb), .string (bs db)], 28⟩, ⟨ga4, #[.bool na, .string (bs ba), .string (bs da)], 28⟩, ⟨w.heap.size, #[.bool np, .string (bs bp), .string (bs dp), .bool nq, .string (bs bq), .string (bs dq), .int .i64 (m : Nat), .int .i64 (n : Nat)], 45⟩] _) := Lib.hid HS6.out
    exact ⟨rfl, HS7.out.below⟩

theorem tally_size {l : List Vtr} (hok : SmallV 100000 l) (hl : l.length ≤ 64) (rate : Rat) : Sized 10000000 (tallyV l rate).amount ∧ Sized 10000000 (tallyV l rate).yes ∧ (tallyV l rate).heads ≤ 1000000 ∧ (tallyV l rate).yesHeads ≤ 1000000 := by
  have hp := parts_len l []
  rw [List.length_nil, Nat.zero_add] at hp
  refine ⟨(amountV_sized (by decide) hok).mono (by omega), (forOf_sized (by decide) _ hok).mono (by omega), ?_, ?_⟩
  · show (parts l []).length ≤ _; omega
  · exact Nat.le_trans (List.length_filter_le _ _) (by omega)
def tly0 : Tly := ⟨0, 0, 0, 0⟩
theorem tly0_cells : tlyC tly0 = #[.bool false, .string (bs []), .string (bs []), .bool false, .string (bs []), .string (bs []), .int .i64 0, .int .i64 0] := by
  unfold tlyC tly0
  dsimp only
  rw [enc0.1, enc0.2.1, enc0.2.2]; rfl
/-- What Count answers. -/
def countR (l : List Vtr) (rate : Rat) : Tly × Int := if checkV l ≠ 0 then (tly0, checkV l) else (tallyV l rate, 0)
def acceptsR (l : List Vtr) (rate : Rat) : Bool × Int := if checkV l ≠ 0 then (false, checkV l) else (passedV (tallyV l rate), 0)
theorem small_up {M N : Nat} {l : List Vtr} (h : SmallV M l) (hN : M ≤ N) : SmallV N l := h.mono hN

set_option maxRecDepth 100000 in
set_option maxHeartbeats 1000000 in
theorem vote_Count (v : Value) (l : List Vtr) (rn : Bool) (ra rb : List UInt8) (w : World) (h : VotersL w v l) (hok : SmallV 100000 l) (hpar : ∀ u ∈ l, W64 u.party) (la : ra.length ≤ 17179869184) (lb : rb.length ≤ 17179869184) :
    Calls Tryd.prog 17 #[v, raw rn ra rb] w fun e w' => e = .returned (.tuple #[tly (countR l (decR rn ra rb)).1, .int .i64 (countR l (decR rn ra rb)).2]) ∧ Below w.heap.size w w' := by
  have hC := fun W (hb : Below w.heap.size w W) => vote_Check v l W (h.below hb) (hok.mono (by decide))
  have hT := fun (hl : l.length ≤ 64) W (hb : Below w.heap.size w W) => vote_count v l rn ra rb W (h.below hb) hok hl hpar la lb
  have R : Hid (countR l (decR rn ra rb) = if checkV l ≠ 0 then (tly0, checkV l) else (tallyV l (decR rn ra rb), 0)) := rfl
  have hlen : checkV l = 0 → l.length ≤ 64 := fun h => (checkV_zero h).1
  generalize tallyV l (decR rn ra rb) = t at *
  generalize countR l (decR rn ra rb) = r at *
  generalize checkV l = n at *
  unfold tly tlyC at *
  unfold raw at hT ⊢
  have HC := Lib.hid hC
  by_cases h0 : n = 0
  · subst h0
    have hl := hlen rfl
    have HT := Lib.hid (hT hl)
    have R : Hid (r = (t, 0)) := by show _ = _; have := R.out; rw [if_neg (by decide)] at this; exact this
    clear hC hT hlen h hok hl
    go_enter Tryd.func17, Tryd.ntmps17
    have HS := Lib.hid (St.start w)
    go_wp2_with fail
    have HS2 : Hid (St w [⟨w.heap.size + 1, #[.bool false, .string (bs []), .string (bs []), .bool false, .string (bs []), .string (bs []), .int .i64 0, .int .i64 0], 45⟩, ⟨w.heap.size, #[.bool rn, .string (bs ra), .string (bs rb)], 28⟩] _) := Lib.hid (St.alloc ((St.alloc (HS.out) #[.bool rn, .string (bs ra), .string (bs rb)] 28 _ (by simp))) #[.bool false, .string (bs []), .string (bs []), .bool false, .string (bs []), .string (bs []), .int .i64 0, .int .i64 0] 45 _ (by simp))
    refine (HC.out _ HS2.out.below).mono ?_
    rintro e w3 ⟨rfl, hb3⟩
    have HS3 := Lib.hid (HS2.out.call hb3)
    clear hb3 HS HS2
    have x1 := HS3.out.cell 1 rfl 0 rfl
    have x2 := HS3.out.cell 1 rfl 1 rfl
    have x3 := HS3.out.cell 1 rfl 2 rfl
    go_wp2_with fail
    refine (HT.out _ HS3.out.below).mono ?_
    rintro e w4 ⟨rfl, hb4⟩
    have HS4 := Lib.hid (HS3.out.call hb4)
    clear hb4 HS3
    clear x1 x2 x3
    have x4 := HS4.out.cell 0 rfl 0 rfl
    have x5 := HS4.out.cell 0 rfl 1 rfl
    have x6 := HS4.out.cell 0 rfl 2 rfl
    have x7 := HS4.out.cell 0 rfl 3 rfl
    have x8 := HS4.out.cell 0 rfl 4 rfl
    have x9 := HS4.out.cell 0 rfl 5 rfl
    have x10 := HS4.out.cell 0 rfl 6 rfl
    have x11 := HS4.out.cell 0 rfl 7 rfl
    have x12 := HS4.out.frozen 0 rfl 0
    have x13 := HS4.out.frozen 0 rfl 1
    have x14 := HS4.out.frozen 0 rfl 2
    have x15 := HS4.out.frozen 0 rfl 3
    have x16 := HS4.out.frozen 0 rfl 4
    have x17 := HS4.out.frozen 0 rfl 5
    have x18 := HS4.out.frozen 0 rfl 6
    have x19 := HS4.out.frozen 0 rfl 7
    have x20 := HS4.out.ne 0 1 rfl rfl (by decide)
    have x21 := HS4.out.ne 1 0 rfl rfl (by decide)
    go_wp2
    have HS5 : Hid (St w [⟨w.heap.size + 1, #[.bool (negB (t.amount)), .string (bs (numB (t.amount))), .string (bs (denomB (t.amount))), .bool (negB (t.yes)), .string (bs (numB (t.yes))), .string (bs (denomB (t.yes))), .int .i64 (t.heads : Nat), .int .i64 (t.yesHeads : Nat)], 45⟩, ⟨w.heap.size, #[.bool rn, .string (bs ra), .string (bs rb)], 28⟩] _) := Lib.hid (St.set ((St.set ((St.set ((St.set ((St.set ((St.set ((St.set ((St.set (HS4.out) 0 rfl 0 _)) 0 rfl 1 _)) 0 rfl 2 _)) 0 rfl 3 _)) 0 rfl 4 _)) 0 rfl 5 _)) 0 rfl 6 _)) 0 rfl 7 _)
    refine bodyPost_ret (tly_result2 rfl _ _ _ rfl (HS5.out.blk 0 rfl)) rfl ?_
    rw [R.out]
    exact ⟨rfl, HS5.out.below⟩
  · have hn0 : (n == 0) = false := by rw [beq_eq_false_iff_ne]; exact h0
    have hn1 : (n != 0) = true := by rw [bne, hn0]; rfl
    have R : Hid (r = (tly0, n)) := by show _ = _; have := R.out; rw [if_pos h0] at this; exact this
    clear hC hT hlen h hok
    go_enter Tryd.func17, Tryd.ntmps17
    have HS := Lib.hid (St.start w)
    go_wp2_with fail
    have HS2 : Hid (St w [⟨w.heap.size + 1, #[.bool false, .string (bs []), .string (bs []), .bool false, .string (bs []), .string (bs []), .int .i64 0, .int .i64 0], 45⟩, ⟨w.heap.size, #[.bool rn, .string (bs ra), .string (bs rb)], 28⟩] _) := Lib.hid (St.alloc ((St.alloc (HS.out) #[.bool rn, .string (bs ra), .string (bs rb)] 28 _ (by simp))) #[.bool false, .string (bs []), .string (bs []), .bool false, .string (bs []), .string (bs []), .int .i64 0, .int .i64 0] 45 _ (by simp))
    refine (HC.out _ HS2.out.below).mono ?_
    rintro e w3 ⟨rfl, hb3⟩
    have HS3 := Lib.hid (HS2.out.call hb3)
    clear hb3 HS HS2
    have x1 := HS3.out.cell 0 rfl 0 rfl
    have x2 := HS3.out.cell 0 rfl 1 rfl
    have x3 := HS3.out.cell 0 rfl 2 rfl
    have x4 := HS3.out.cell 0 rfl 3 rfl
    have x5 := HS3.out.cell 0 rfl 4 rfl
    have x6 := HS3.out.cell 0 rfl 5 rfl
    have x7 := HS3.out.cell 0 rfl 6 rfl
    have x8 := HS3.out.cell 0 rfl 7 rfl
    have x9 := HS3.out.frozen 0 rfl 0
    have x10 := HS3.out.frozen 0 rfl 1
    have x11 := HS3.out.frozen 0 rfl 2
    have x12 := HS3.out.frozen 0 rfl 3
    have x13 := HS3.out.frozen 0 rfl 4
    have x14 := HS3.out.frozen 0 rfl 5
    have x15 := HS3.out.frozen 0 rfl 6
    have x16 := HS3.out.frozen 0 rfl 7
    have x17 := HS3.out.ne 0 1 rfl rfl (by decide)
    have x18 := HS3.out.ne 1 0 rfl rfl (by decide)
    go_wp2
    have HS4 : Hid (St w [⟨w.heap.size + 1, #[.bool false, .string (bs []), .string (bs []), .bool false, .string (bs []), .string (bs []), .int .i64 0, .int .i64 0], 45⟩, ⟨w.heap.size, #[.bool rn, .string (bs ra), .string (bs rb)], 28⟩] _) := Lib.hid (St.set ((St.set ((St.set ((St.set ((St.set ((St.set ((St.set ((St.set (HS3.out) 0 rfl 0 _)) 0 rfl 1 _)) 0 rfl 2 _)) 0 rfl 3 _)) 0 rfl 4 _)) 0 rfl 5 _)) 0 rfl 6 _)) 0 rfl 7 _)
    refine bodyPost_ret (tly_result2 rfl _ _ _ rfl (HS4.out.blk 0 rfl)) rfl ?_
    rw [R.out]
    refine ⟨?_, HS4.out.below⟩
    have := tly0_cells
    unfold tlyC at this
    rw [this]
    rfl

set_option maxRecDepth 100000 in
set_option maxHeartbeats 1000000 in
theorem vote_Accepts (v : Value) (l : List Vtr) (rn : Bool) (ra rb : List UInt8) (w : World) (h : VotersL w v l) (hok : SmallV 100000 l) (hpar : ∀ u ∈ l, W64 u.party) (la : ra.length ≤ 17179869184) (lb : rb.length ≤ 17179869184) :
    Calls Tryd.prog 14 #[v, raw rn ra rb] w fun e w' => e = .returned (.tuple #[.bool (acceptsR l (decR rn ra rb)).1, .int .i64 (acceptsR l (decR rn ra rb)).2]) ∧ Below w.heap.size w w' := by
  have hC := fun W (hb : Below w.heap.size w W) => vote_Check v l W (h.below hb) (hok.mono (by decide))
  have hT := fun (hl : l.length ≤ 64) W (hb : Below w.heap.size w W) => vote_count v l rn ra rb W (h.below hb) hok hl hpar la lb
  have hP := fun (hl : l.length ≤ 64) W => vote_carried (tallyV l (decR rn ra rb)) W (tally_size hok hl _).1 (tally_size hok hl _).2.1 (tally_size hok hl _).2.2.1 (tally_size hok hl _).2.2.2
  have R : Hid (acceptsR l (decR rn ra rb) = if checkV l ≠ 0 then (false, checkV l) else (passedV (tallyV l (decR rn ra rb)), 0)) := rfl
  have hlen : checkV l = 0 → l.length ≤ 64 := fun h => (checkV_zero h).1
  generalize tallyV l (decR rn ra rb) = t at *
  generalize acceptsR l (decR rn ra rb) = r at *
  generalize checkV l = n at *
  unfold tly tlyC at *
  unfold raw at hT ⊢
  have HC := Lib.hid hC
  by_cases h0 : n = 0
  · subst h0
    have hl := hlen rfl
    have HT := Lib.hid (hT hl)
    have HP := Lib.hid (hP hl)
    have R : Hid (r = (passedV t, 0)) := by show _ = _; have := R.out; rw [if_neg (by decide)] at this; exact this
    clear hC hT hlen h hok hl hP
    go_enter Tryd.func14, Tryd.ntmps14
    have HS := Lib.hid (St.start w)
    go_wp2_with fail
    have HS2 : Hid (St w [⟨w.heap.size, #[.bool rn, .string (bs ra), .string (bs rb)], 28⟩] _) := Lib.hid (St.alloc (HS.out) #[.bool rn, .string (bs ra), .string (bs rb)] 28 _ (by simp))
    refine (HC.out _ HS2.out.below).mono ?_
    rintro e w3 ⟨rfl, hb3⟩
    have HS3 := Lib.hid (HS2.out.call hb3)
    clear hb3 HS HS2
    have x1 := HS3.out.cell 0 rfl 0 rfl
    have x2 := HS3.out.cell 0 rfl 1 rfl
    have x3 := HS3.out.cell 0 rfl 2 rfl
    go_wp2_with fail
    refine (HT.out _ HS3.out.below).mono ?_
    rintro e w4 ⟨rfl, hb4⟩
    have HS4 := Lib.hid (HS3.out.call hb4)
    clear hb4 HS3
    clear x1 x2 x3
    go_wp2_with fail
    refine (HP.out _).mono ?_
    rintro e w5 ⟨rfl, hb5⟩
    have HS5 := Lib.hid (HS4.out.call hb5)
    clear hb5 HS4
    go_wp2
    have HS6 : Hid (St w [⟨w.heap.size, #[.bool rn, .string (bs ra), .string (bs rb)], 28⟩] _) := Lib.hid HS5.out
    go_ret2
    rw [R.out]
    exact ⟨rfl, HS6.out.below⟩
  · have hn0 : (n == 0) = false := by rw [beq_eq_false_iff_ne]; exact h0
    have hn1 : (n != 0) = true := by rw [bne, hn0]; rfl
    have R : Hid (r = (false, n)) := by show _ = _; have := R.out; rw [if_pos h0] at this; exact this
    clear hC hT hlen h hok hP
    go_enter Tryd.func14, Tryd.ntmps14
    have HS := Lib.hid (St.start w)
    go_wp2_with fail
    have HS2 : Hid (St w [⟨w.heap.size, #[.bool rn, .string (bs ra), .string (bs rb)], 28⟩] _) := Lib.hid (St.alloc (HS.out) #[.bool rn, .string (bs ra), .string (bs rb)] 28 _ (by simp))
    refine (HC.out _ HS2.out.below).mono ?_
    rintro e w3 ⟨rfl, hb3⟩
    have HS3 := Lib.hid (HS2.out.call hb3)
    clear hb3 HS HS2
    go_wp2
    have HS4 : Hid (St w [⟨w.heap.size, #[.bool rn, .string (bs ra), .string (bs rb)], 28⟩] _) := Lib.hid HS3.out
    go_ret2
    rw [R.out]
    exact ⟨rfl, HS4.out.below⟩
end Go.Proofs.YtakoagjpmdcddaaDoor
