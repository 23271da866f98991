/-
Part 10 of the base.
-/
import Derived.Test.YtbkbiokgfoomfaaGreatDoorRa7
import Derived.Test.YtbkbiokgfoomfaaGreatDoorRa9
namespace Go.Proofs.YtbkbiokgfoomfaaGreatDoor
open Go.RowKit

set_option maxRecDepth 100000 in
set_option maxHeartbeats 4000000 in
theorem b1q (p q : Rat) (w : World) (sp : Sized 17179869184 p) (sq : Sized 17179869184 q) (hd : p.den = q.den) (hs : negB p = negB q) :
    Calls Tryz.prog 59 #[rat p, rat q] w fun e w' => e = .returned (rat (p + q)) /\ Below w.heap.size w w' := by
  obtain ⟨x, hx⟩ : ∃ x, x = p.num.natAbs := ⟨_, rfl⟩
  obtain ⟨y, hy⟩ : ∃ y, y = q.num.natAbs := ⟨_, rfl⟩
  obtain ⟨d, hdd⟩ : ∃ d, d = p.den := ⟨_, rfl⟩
  have hd0 : d ≠ 0 := by rw [hdd]; exact p.den_nz
  have lx : (bytesOf x).length <= 34359738368 := by rw [hx]; exact Nat.le_trans sp.1 (by decide)
  have ly : (bytesOf y).length <= 34359738368 := by rw [hy]; exact Nat.le_trans sq.1 (by decide)
  have ld : (bytesOf d).length <= 34359738368 := by rw [hdd]; exact Nat.le_trans sp.2 (by decide)
  have hr : mkRat (signed (negB p) (x + y)) d = p + q := by
    rw [hdd, b2d, hx, hy]
    have := b3t hd
    rw [<- hs] at this
    exact this
  have lz : (bytesOf (x + y)).length <= 34359738369 := b1e lx ly
  have rd := fun W => a1q (negB p) (bytesOf (x + y)) (bytesOf d) W (by omega) (by omega) (by rw [a0a]; exact hd0)
  rw [a0a, a0a, hr] at rd
  have sx := fun W => c0w (bytesOf x) (bytesOf y) W (by omega) (by omega)
  rw [a0a, a0a] at sx
  have dp := fun W => a0s p W
  have dq := fun W => a0s q W
  have ft : ((bs (a0p p)).toList == (bs (a0p q)).toList) = true := a6v (denom_same.2 hd)
  have ex : numB p = bytesOf x := by rw [hx]; rfl
  have ey : numB q = bytesOf y := by rw [hy]; rfl
  rw [<- hdd] at dp
  have fs : (negB p == negB q) = true := by simpa using hs
  unfold rat raw at *
  rw [ex] at dp
  rw [ey] at dq
  rw [ex, ey]
  clear hx hy hdd hd0 hr lx ly ld lz sp sq hd hs ex ey
  generalize p + q = r at *
  generalize negB p = np at *
  generalize a0p p = dp at *
  generalize negB q = nq at *
  generalize a0p q = dq at *
  generalize negB r = nr at *
  generalize numB r = br at *
  generalize a0p r = dr at *
  generalize bytesOf (x + y) = es at *
  generalize bytesOf x = bp at *
  generalize bytesOf y = bq at *
  generalize bytesOf d = ed at *
  clear dq
  have RD := zh rd
  have SX := zh sx
  have DP := zh dp
  clear rd sx dp
  go_enter Tryz.func59, Tryz.ntmps59
  have HS := zh (St.start w)
  go_wp2
  have HS2 : Hid (St w [⟨w.heap.size + 1 + 1, #[.bool false, .string (bs []), .string (bs [])], 51⟩, ⟨w.heap.size + 1, #[.bool nq, .string (bs bq), .string (bs dq)], 51⟩, ⟨w.heap.size, #[.bool np, .string (bs bp), .string (bs dp)], 51⟩] _) := zh (St.alloc ((St.alloc ((St.alloc (HS.out) _ _ _ (by simp))) _ _ _ (by simp))) _ _ _ (by simp))
  clear HS
  refine a0d 6 [fun _ v => v = .pointer (some ⟨w.heap.size, 1, none⟩), fun _ v => v = .string (bs bp), fun _ v => v = .pointer (some ⟨w.heap.size + 1, 1, none⟩), fun _ v => v = .string (bs bq), fun _ v => v = .string (bs bp), fun _ v => v = .string (bs bq)] rfl (by kernel_rfl) (by kernel_rfl) (by kernel_rfl) ⟨fun _ _ _ h _ => h, fun _ _ _ h _ => h, fun _ _ _ h _ => h, fun _ _ _ h _ => h, fun _ _ _ h _ => h, fun _ _ _ h _ => h, trivial⟩ ?_ ?_
  refine ⟨?_, ?_, ?_, ?_, ?_, ?_, trivial⟩
  · intro x a1 w1 hbx hev hev0 hd
    have e2 : a1.tmps[2]?.getD undef = .pointer (some ⟨w.heap.size, 0, none⟩) := hev0 2 rfl
    clear hev hev0 hd
    go_wp2
    exact StepQ.mk _ (Below.refl _ _) rfl
  · intro x a1 w1 hbx hev hev0 hd
    have e12 := hev 0 _ 12 rfl rfl
    have d0 : x 0 = .pointer (some ⟨w.heap.size, 1, none⟩) := hd ⟨0, .data⟩ (by simp) rfl
    rw [d0] at e12
    clear d0
    clear hev hev0 hd
    have hs1 := zh (HS2.out.call hbx)
    have y0 := hs1.out.cell 2 rfl 1 rfl
    go_wp2
    exact StepQ.mk _ (Below.refl _ _) rfl
  · intro x a1 w1 hbx hev hev0 hd
    have e3 : a1.tmps[3]?.getD undef = .pointer (some ⟨w.heap.size + 1, 0, none⟩) := hev0 3 rfl
    clear hev hev0 hd
    go_wp2
    exact StepQ.mk _ (Below.refl _ _) rfl
  · intro x a1 w1 hbx hev hev0 hd
    have e14 := hev 2 _ 14 rfl rfl
    have d2 : x 2 = .pointer (some ⟨w.heap.size + 1, 1, none⟩) := hd ⟨2, .data⟩ (by simp) rfl
    rw [d2] at e14
    clear d2
    clear hev hev0 hd
    have hs1 := zh (HS2.out.call hbx)
    have y0 := hs1.out.cell 1 rfl 1 rfl
    go_wp2
    exact StepQ.mk _ (Below.refl _ _) rfl
  · intro x a1 w1 hbx hev hev0 hd
    have e13 := hev 1 _ 13 rfl rfl
    have d1 : x 1 = .string (bs bp) := hd ⟨1, .data⟩ (by simp) rfl
    rw [d1] at e13
    clear d1
    clear hev hev0 hd
    go_wp2
    exact StepQ.mk _ (Below.refl _ _) rfl
  · intro x a1 w1 hbx hev hev0 hd
    have e15 := hev 3 _ 15 rfl rfl
    have d3 : x 3 = .string (bs bq) := hd ⟨3, .data⟩ (by simp) rfl
    rw [d3] at e15
    clear d3
    clear hev hev0 hd
    go_wp2
    exact StepQ.mk _ (Below.refl _ _) rfl
  intro x w6 hb9 hv
  have hv0 : x 0 = .pointer (some ⟨w.heap.size, 1, none⟩) := hv 0 (by decide)
  have hv1 : x 1 = .string (bs bp) := hv 1 (by decide)
  have hv2 : x 2 = .pointer (some ⟨w.heap.size + 1, 1, none⟩) := hv 2 (by decide)
  have hv3 : x 3 = .string (bs bq) := hv 3 (by decide)
  have hv4 : x 4 = .string (bs bp) := hv 4 (by decide)
  have hv5 : x 5 = .string (bs bq) := hv 5 (by decide)
  clear hv
  simp only [List.take, List.drop, a0j, Act.put]
  simp only [hv0, hv1, hv2, hv3, hv4, hv5]
  clear hv0 hv1 hv2 hv3 hv4 hv5
  have HS6 := zh (HS2.out.call hb9)
  clear hb9 HS2
  have x1 := HS6.out.cell 2 rfl 2 rfl
  have x2 := HS6.out.cell 1 rfl 2 rfl
  have x3 := HS6.out.cell 2 rfl 0 rfl
  have x4 := HS6.out.cell 2 rfl 1 rfl
  go_wp2_with fail
  refine (DP.out _).mono ?_
  rintro e w7 ⟨rfl, hb7⟩
  have HS7 := zh (HS6.out.call hb7)
  clear hb7 HS6
  clear x1 x2 x3 x4
  have x5 := HS7.out.cell 2 rfl 0 rfl
  have x6 := HS7.out.cell 1 rfl 0 rfl
  go_wp2
  clear x5 x6
  refine a0d 7 [fun _ v => v = .pointer (some ⟨w.heap.size, 0, none⟩), fun _ v => v = .bool np, fun _ v => v = .string (bs bp), fun _ v => v = .string (bs bq), fun _ v => v = .string (bs es), fun _ v => v = .string (bs ed), fun _ v => v = .agg #[.bool nr, .string (bs br), .string (bs dr)]] rfl (by kernel_rfl) (by kernel_rfl) (by kernel_rfl) ⟨fun _ _ _ h _ => h, fun _ _ _ h _ => h, fun _ _ _ h _ => h, fun _ _ _ h _ => h, fun _ _ _ h _ => h, fun _ _ _ h _ => h, fun _ _ _ h _ => h, trivial⟩ ?_ ?_
  refine ⟨?_, ?_, ?_, ?_, ?_, ?_, ?_, trivial⟩
  · intro x a1 w1 hbx hev hev0 hd
    have e2 : a1.tmps[2]?.getD undef = .pointer (some ⟨w.heap.size, 0, none⟩) := hev0 2 rfl
    clear hev hev0 hd
    go_wp2
    exact StepQ.mk _ (Below.refl _ _) rfl
  · intro x a1 w1 hbx hev hev0 hd
    have e41 := hev 0 _ 41 rfl rfl
    have d0 : x 0 = .pointer (some ⟨w.heap.size, 0, none⟩) := hd ⟨0, .data⟩ (by simp) rfl
    rw [d0] at e41
    clear d0
    clear hev hev0 hd
    have hs1 := zh (HS7.out.call hbx)
    have y0 := hs1.out.cell 2 rfl 0 rfl
    go_wp2
    exact StepQ.mk _ (Below.refl _ _) rfl
  · intro x a1 w1 hbx hev hev0 hd
    have e5 : a1.tmps[5]?.getD undef = .string (bs bp) := hev0 5 rfl
    clear hev hev0 hd
    go_wp2
    exact StepQ.mk _ (Below.refl _ _) rfl
  · intro x a1 w1 hbx hev hev0 hd
    have e6 : a1.tmps[6]?.getD undef = .string (bs bq) := hev0 6 rfl
    clear hev hev0 hd
    go_wp2
    exact StepQ.mk _ (Below.refl _ _) rfl
  · intro x a1 w1 hbx hev hev0 hd
    have e43 := hev 2 _ 43 rfl rfl
    have d2 : x 2 = .string (bs bp) := hd ⟨2, .data⟩ (by simp) rfl
    rw [d2] at e43
    clear d2
    have e44 := hev 3 _ 44 rfl rfl
    have d3 : x 3 = .string (bs bq) := hd ⟨3, .data⟩ (by simp) rfl
    rw [d3] at e44
    clear d3
    clear hev hev0 hd
    go_wp2_with fail
    refine (SX.out _).mono ?_
    rintro e w8 ⟨rfl, hb8⟩
    go_wp2
    exact StepQ.mk _ hb8 rfl
  · intro x a1 w1 hbx hev hev0 hd
    have e7 : a1.tmps[7]?.getD undef = .string (bs ed) := hev0 7 rfl
    clear hev hev0 hd
    go_wp2
    exact StepQ.mk _ (Below.refl _ _) rfl
  · intro x a1 w1 hbx hev hev0 hd
    have e42 := hev 1 _ 42 rfl rfl
    have d1 : x 1 = .bool np := hd ⟨1, .data⟩ (by simp) rfl
    rw [d1] at e42
    clear d1
    have e45 := hev 4 _ 45 rfl rfl
    have d4 : x 4 = .string (bs es) := hd ⟨4, .data⟩ (by simp) rfl
    rw [d4] at e45
    clear d4
    have e46 := hev 5 _ 46 rfl rfl
    have d5 : x 5 = .string (bs ed) := hd ⟨5, .data⟩ (by simp) rfl
    rw [d5] at e46
    clear d5
    clear hev hev0 hd
    go_wp2_with fail
    refine (RD.out _).mono ?_
    rintro e w8 ⟨rfl, hb8⟩
    go_wp2
    exact StepQ.mk _ hb8 rfl
  intro x w8 hb9 hv
  have hv0 : x 0 = .pointer (some ⟨w.heap.size, 0, none⟩) := hv 0 (by decide)
  have hv1 : x 1 = .bool np := hv 1 (by decide)
  have hv2 : x 2 = .string (bs bp) := hv 2 (by decide)
  have hv3 : x 3 = .string (bs bq) := hv 3 (by decide)
  have hv4 : x 4 = .string (bs es) := hv 4 (by decide)
  have hv5 : x 5 = .string (bs ed) := hv 5 (by decide)
  have hv6 : x 6 = .agg #[.bool nr, .string (bs br), .string (bs dr)] := hv 6 (by decide)
  clear hv
  simp only [List.take, List.drop, a0j, Act.put]
  simp only [hv0, hv1, hv2, hv3, hv4, hv5, hv6]
  clear hv0 hv1 hv2 hv3 hv4 hv5 hv6
  have HS8 := zh (HS7.out.call hb9)
  clear hb9 HS7
  have x7 := HS8.out.cell 0 rfl 0 rfl
  have x8 := HS8.out.cell 0 rfl 1 rfl
  have x9 := HS8.out.cell 0 rfl 2 rfl
  have x10 := HS8.out.frozen 0 rfl 0
  have x11 := HS8.out.frozen 0 rfl 1
  have x12 := HS8.out.frozen 0 rfl 2
  have x13 := HS8.out.ne 0 1 rfl rfl (by decide)
  have x14 := HS8.out.ne 1 0 rfl rfl (by decide)
  have x15 := HS8.out.ne 0 2 rfl rfl (by decide)
  have x16 := HS8.out.ne 2 0 rfl rfl (by decide)
  go_wp2
  have HS9 : Hid (St w [⟨w.heap.size + 1 + 1, #[.bool nr, .string (bs br), .string (bs dr)], 51⟩, ⟨w.heap.size + 1, #[.bool nq, .string (bs bq), .string (bs dq)], 51⟩, ⟨w.heap.size, #[.bool np, .string (bs bp), .string (bs dp)], 51⟩] _) := zh (St.set ((St.set ((St.set (HS8.out) 0 rfl 0 _)) 0 rfl 1 _)) 0 rfl 2 _)
  exact bodyPost_ret (a1c rfl _ _ _ _ _ _ rfl (HS9.out.blk 0 rfl)) rfl ⟨rfl, HS9.out.below⟩

set_option maxRecDepth 100000 in
set_option maxHeartbeats 4000000 in
theorem b1p (p q : Rat) (w : World) (sp : Sized 17179869184 p) (sq : Sized 17179869184 q) (hd : p.den = q.den) (hs : negB p ≠ negB q) (hl : q.num.natAbs <= p.num.natAbs) :
    Calls Tryz.prog 59 #[rat p, rat q] w fun e w' => e = .returned (rat (p + q)) /\ Below w.heap.size w w' := by
  obtain ⟨x, hx⟩ : ∃ x, x = p.num.natAbs := ⟨_, rfl⟩
  obtain ⟨y, hy⟩ : ∃ y, y = q.num.natAbs := ⟨_, rfl⟩
  obtain ⟨d, hdd⟩ : ∃ d, d = p.den := ⟨_, rfl⟩
  have hd0 : d ≠ 0 := by rw [hdd]; exact p.den_nz
  have lx : (bytesOf x).length <= 34359738368 := by rw [hx]; exact Nat.le_trans sp.1 (by decide)
  have ly : (bytesOf y).length <= 34359738368 := by rw [hy]; exact Nat.le_trans sq.1 (by decide)
  have ld : (bytesOf d).length <= 34359738368 := by rw [hdd]; exact Nat.le_trans sp.2 (by decide)
  have hr : mkRat (signed (negB p) (x - y)) d = p + q := by
    rw [hdd, a6p hs (by rw [hx, hy]; exact hl), hx, hy]
    exact b3t hd
  have lz : (bytesOf (x - y)).length <= 34359738369 := Nat.le_trans (a2y (Nat.sub_le _ _) lx) (by decide)
  have rd := fun W => a1q (negB p) (bytesOf (x - y)) (bytesOf d) W (by omega) (by omega) (by rw [a0a]; exact hd0)
  rw [a0a, a0a, hr] at rd
  have sx := fun W => b3c (bytesOf x) (bytesOf y) W (by omega) (by omega) (by rw [a0a, a0a, hx, hy]; exact hl)
  rw [a0a, a0a] at sx
  have dp := fun W => a0s p W
  have dq := fun W => a0s q W
  have ft : ((bs (a0p p)).toList == (bs (a0p q)).toList) = true := a6v (denom_same.2 hd)
  have ex : numB p = bytesOf x := by rw [hx]; rfl
  have ey : numB q = bytesOf y := by rw [hy]; rfl
  rw [<- hdd] at dp
  have fs : (negB p == negB q) = false := by simpa using hs
  unfold rat raw at *
  rw [ex] at dp
  rw [ey] at dq
  rw [ex, ey]
  clear hx hy hdd hd0 hr lx ly ld lz sp sq hd hs ex ey hl
  generalize p + q = r at *
  generalize negB p = np at *
  generalize a0p p = dp at *
  generalize negB q = nq at *
  generalize a0p q = dq at *
  generalize negB r = nr at *
  generalize numB r = br at *
  generalize a0p r = dr at *
  generalize bytesOf (x - y) = es at *
  generalize bytesOf x = bp at *
  generalize bytesOf y = bq at *
  generalize bytesOf d = ed at *
  clear dq
  have RD := zh rd
  have SX := zh sx
  have DP := zh dp
  clear rd sx dp
  go_enter Tryz.func59, Tryz.ntmps59
  have HS := zh (St.start w)
  go_wp2
  have HS2 : Hid (St w [⟨w.heap.size + 1 + 1, #[.bool false, .string (bs []), .string (bs [])], 51⟩, ⟨w.heap.size + 1, #[.bool nq, .string (bs bq), .string (bs dq)], 51⟩, ⟨w.heap.size, #[.bool np, .string (bs bp), .string (bs dp)], 51⟩] _) := zh (St.alloc ((St.alloc ((St.alloc (HS.out) _ _ _ (by simp))) _ _ _ (by simp))) _ _ _ (by simp))
  clear HS
  refine a0d 6 [fun _ v => v = .pointer (some ⟨w.heap.size, 1, none⟩), fun _ v => v = .string (bs bp), fun _ v => v = .pointer (some ⟨w.heap.size + 1, 1, none⟩), fun _ v => v = .string (bs bq), fun _ v => v = .string (bs bp), fun _ v => v = .string (bs bq)] rfl (by kernel_rfl) (by kernel_rfl) (by kernel_rfl) ⟨fun _ _ _ h _ => h, fun _ _ _ h _ => h, fun _ _ _ h _ => h, fun _ _ _ h _ => h, fun _ _ _ h _ => h, fun _ _ _ h _ => h, trivial⟩ ?_ ?_
  refine ⟨?_, ?_, ?_, ?_, ?_, ?_, trivial⟩
  · intro x a1 w1 hbx hev hev0 hd
    have e2 : a1.tmps[2]?.getD undef = .pointer (some ⟨w.heap.size, 0, none⟩) := hev0 2 rfl
    clear hev hev0 hd
    go_wp2
    exact StepQ.mk _ (Below.refl _ _) rfl
  · intro x a1 w1 hbx hev hev0 hd
    have e12 := hev 0 _ 12 rfl rfl
    have d0 : x 0 = .pointer (some ⟨w.heap.size, 1, none⟩) := hd ⟨0, .data⟩ (by simp) rfl
    rw [d0] at e12
    clear d0
    clear hev hev0 hd
    have hs1 := zh (HS2.out.call hbx)
    have y0 := hs1.out.cell 2 rfl 1 rfl
    go_wp2
    exact StepQ.mk _ (Below.refl _ _) rfl
  · intro x a1 w1 hbx hev hev0 hd
    have e3 : a1.tmps[3]?.getD undef = .pointer (some ⟨w.heap.size + 1, 0, none⟩) := hev0 3 rfl
    clear hev hev0 hd
    go_wp2
    exact StepQ.mk _ (Below.refl _ _) rfl
  · intro x a1 w1 hbx hev hev0 hd
    have e14 := hev 2 _ 14 rfl rfl
    have d2 : x 2 = .pointer (some ⟨w.heap.size + 1, 1, none⟩) := hd ⟨2, .data⟩ (by simp) rfl
    rw [d2] at e14
    clear d2
    clear hev hev0 hd
    have hs1 := zh (HS2.out.call hbx)
    have y0 := hs1.out.cell 1 rfl 1 rfl
    go_wp2
    exact StepQ.mk _ (Below.refl _ _) rfl
  · intro x a1 w1 hbx hev hev0 hd
    have e13 := hev 1 _ 13 rfl rfl
    have d1 : x 1 = .string (bs bp) := hd ⟨1, .data⟩ (by simp) rfl
    rw [d1] at e13
    clear d1
    clear hev hev0 hd
    go_wp2
    exact StepQ.mk _ (Below.refl _ _) rfl
  · intro x a1 w1 hbx hev hev0 hd
    have e15 := hev 3 _ 15 rfl rfl
    have d3 : x 3 = .string (bs bq) := hd ⟨3, .data⟩ (by simp) rfl
    rw [d3] at e15
    clear d3
    clear hev hev0 hd
    go_wp2
    exact StepQ.mk _ (Below.refl _ _) rfl
  intro x w6 hb9 hv
  have hv0 : x 0 = .pointer (some ⟨w.heap.size, 1, none⟩) := hv 0 (by decide)
  have hv1 : x 1 = .string (bs bp) := hv 1 (by decide)
  have hv2 : x 2 = .pointer (some ⟨w.heap.size + 1, 1, none⟩) := hv 2 (by decide)
  have hv3 : x 3 = .string (bs bq) := hv 3 (by decide)
  have hv4 : x 4 = .string (bs bp) := hv 4 (by decide)
  have hv5 : x 5 = .string (bs bq) := hv 5 (by decide)
  clear hv
  simp only [List.take, List.drop, a0j, Act.put]
  simp only [hv0, hv1, hv2, hv3, hv4, hv5]
  clear hv0 hv1 hv2 hv3 hv4 hv5
  have HS6 := zh (HS2.out.call hb9)
  clear hb9 HS2
  have x1 := HS6.out.cell 2 rfl 2 rfl
  have x2 := HS6.out.cell 1 rfl 2 rfl
  have x3 := HS6.out.cell 2 rfl 0 rfl
  have x4 := HS6.out.cell 2 rfl 1 rfl
  go_wp2_with fail
  refine (DP.out _).mono ?_
  rintro e w7 ⟨rfl, hb7⟩
  have HS7 := zh (HS6.out.call hb7)
  clear hb7 HS6
  clear x1 x2 x3 x4
  have x5 := HS7.out.cell 2 rfl 0 rfl
  have x6 := HS7.out.cell 1 rfl 0 rfl
  go_wp2_with fail
  refine (SX.out _).mono ?_
  rintro e w8 ⟨rfl, hb8⟩
  have HS8 := zh (HS7.out.call hb8)
  clear hb8 HS7
  clear x5 x6
  have x7 := HS8.out.cell 2 rfl 0 rfl
  go_wp2_with fail
  refine (RD.out _).mono ?_
  rintro e w9 ⟨rfl, hb9⟩
  have HS9 := zh (HS8.out.call hb9)
  clear hb9 HS8
  clear x7
  have x8 := HS9.out.cell 0 rfl 0 rfl
  have x9 := HS9.out.cell 0 rfl 1 rfl
  have x10 := HS9.out.cell 0 rfl 2 rfl
  have x11 := HS9.out.frozen 0 rfl 0
  have x12 := HS9.out.frozen 0 rfl 1
  have x13 := HS9.out.frozen 0 rfl 2
  have x14 := HS9.out.ne 0 1 rfl rfl (by decide)
  have x15 := HS9.out.ne 1 0 rfl rfl (by decide)
  have x16 := HS9.out.ne 0 2 rfl rfl (by decide)
  have x17 := HS9.out.ne 2 0 rfl rfl (by decide)
  go_wp2
  have HS10 : Hid (St w [⟨w.heap.size + 1 + 1, #[.bool nr, .string (bs br), .string (bs dr)], 51⟩, ⟨w.heap.size + 1, #[.bool nq, .string (bs bq), .string (bs dq)], 51⟩, ⟨w.heap.size, #[.bool np, .string (bs bp), .string (bs dp)], 51⟩] _) := zh (St.set ((St.set ((St.set (HS9.out) 0 rfl 0 _)) 0 rfl 1 _)) 0 rfl 2 _)
  exact bodyPost_ret (a1c rfl _ _ _ _ _ _ rfl (HS10.out.blk 0 rfl)) rfl ⟨rfl, HS10.out.below⟩

set_option maxRecDepth 100000 in
set_option maxHeartbeats 4000000 in
theorem b1n (p q : Rat) (w : World) (sp : Sized 17179869184 p) (sq : Sized 17179869184 q) (hd : p.den = q.den) (hs : negB p ≠ negB q) (hl : p.num.natAbs < q.num.natAbs) :
    Calls Tryz.prog 59 #[rat p, rat q] w fun e w' => e = .returned (rat (p + q)) /\ Below w.heap.size w w' := by
  obtain ⟨x, hx⟩ : ∃ x, x = p.num.natAbs := ⟨_, rfl⟩
  obtain ⟨y, hy⟩ : ∃ y, y = q.num.natAbs := ⟨_, rfl⟩
  obtain ⟨d, hdd⟩ : ∃ d, d = p.den := ⟨_, rfl⟩
  have hd0 : d ≠ 0 := by rw [hdd]; exact p.den_nz
  have lx : (bytesOf x).length <= 34359738368 := by rw [hx]; exact Nat.le_trans sp.1 (by decide)
  have ly : (bytesOf y).length <= 34359738368 := by rw [hy]; exact Nat.le_trans sq.1 (by decide)
  have ld : (bytesOf d).length <= 34359738368 := by rw [hdd]; exact Nat.le_trans sp.2 (by decide)
  have hr : mkRat (signed (negB q) (y - x)) d = p + q := by
    rw [hdd, a9p hs (by rw [hx, hy]; exact Nat.le_of_lt hl), hx, hy]
    exact b3t hd
  have lz : (bytesOf (y - x)).length <= 34359738369 := Nat.le_trans (a2y (Nat.sub_le _ _) ly) (by decide)
  have rd := fun W => a1q (negB q) (bytesOf (y - x)) (bytesOf d) W (by omega) (by omega) (by rw [a0a]; exact hd0)
  rw [a0a, a0a, hr] at rd
  have sx := fun W => a8j (bytesOf x) (bytesOf y) W (by omega) (by omega) (by rw [a0a, a0a, hx, hy]; exact hl)
  have sy := fun W => b3c (bytesOf y) (bytesOf x) W (by omega) (by omega) (by rw [a0a, a0a, hx, hy]; exact Nat.le_of_lt hl)
  rw [a0a, a0a] at sy
  have dp := fun W => a0s p W
  have dq := fun W => a0s q W
  have ft : ((bs (a0p p)).toList == (bs (a0p q)).toList) = true := a6v (denom_same.2 hd)
  have ex : numB p = bytesOf x := by rw [hx]; rfl
  have ey : numB q = bytesOf y := by rw [hy]; rfl
  rw [<- hdd] at dp
  have fs : (negB p == negB q) = false := by simpa using hs
  unfold rat raw at *
  rw [ex] at dp
  rw [ey] at dq
  rw [ex, ey]
  clear hx hy hdd hd0 hr lx ly ld lz sp sq hd hs ex ey hl
  generalize p + q = r at *
  generalize negB p = np at *
  generalize a0p p = dp at *
  generalize negB q = nq at *
  generalize a0p q = dq at *
  generalize negB r = nr at *
  generalize numB r = br at *
  generalize a0p r = dr at *
  generalize bytesOf (y - x) = es at *
  generalize bytesOf x = bp at *
  generalize bytesOf y = bq at *
  generalize bytesOf d = ed at *
  clear dq
  have RD := zh rd
  have SX := zh sx
  have DP := zh dp
  clear rd sx dp
  have SY := zh sy
  clear sy
  go_enter Tryz.func59, Tryz.ntmps59
  have HS := zh (St.start w)
  go_wp2
  have HS2 : Hid (St w [⟨w.heap.size + 1 + 1, #[.bool false, .string (bs []), .string (bs [])], 51⟩, ⟨w.heap.size + 1, #[.bool nq, .string (bs bq), .string (bs dq)], 51⟩, ⟨w.heap.size, #[.bool np, .string (bs bp), .string (bs dp)], 51⟩] _) := zh (St.alloc ((St.alloc ((St.alloc (HS.out) _ _ _ (by simp))) _ _ _ (by simp))) _ _ _ (by simp))
  clear HS
  refine a0d 6 [fun _ v => v = .pointer (some ⟨w.heap.size, 1, none⟩), fun _ v => v = .string (bs bp), fun _ v => v = .pointer (some ⟨w.heap.size + 1, 1, none⟩), fun _ v => v = .string (bs bq), fun _ v => v = .string (bs bp), fun _ v => v = .string (bs bq)] rfl (by kernel_rfl) (by kernel_rfl) (by kernel_rfl) ⟨fun _ _ _ h _ => h, fun _ _ _ h _ => h, fun _ _ _ h _ => h, fun _ _ _ h _ => h, fun _ _ _ h _ => h, fun _ _ _ h _ => h, trivial⟩ ?_ ?_
  refine ⟨?_, ?_, ?_, ?_, ?_, ?_, trivial⟩
  · intro x a1 w1 hbx hev hev0 hd
    have e2 : a1.tmps[2]?.getD undef = .pointer (some ⟨w.heap.size, 0, none⟩) := hev0 2 rfl
    clear hev hev0 hd
    go_wp2
    exact StepQ.mk _ (Below.refl _ _) rfl
  · intro x a1 w1 hbx hev hev0 hd
    have e12 := hev 0 _ 12 rfl rfl
    have d0 : x 0 = .pointer (some ⟨w.heap.size, 1, none⟩) := hd ⟨0, .data⟩ (by simp) rfl
    rw [d0] at e12
    clear d0
    clear hev hev0 hd
    have hs1 := zh (HS2.out.call hbx)
    have y0 := hs1.out.cell 2 rfl 1 rfl
    go_wp2
    exact StepQ.mk _ (Below.refl _ _) rfl
  · intro x a1 w1 hbx hev hev0 hd
    have e3 : a1.tmps[3]?.getD undef = .pointer (some ⟨w.heap.size + 1, 0, none⟩) := hev0 3 rfl
    clear hev hev0 hd
    go_wp2
    exact StepQ.mk _ (Below.refl _ _) rfl
  · intro x a1 w1 hbx hev hev0 hd
    have e14 := hev 2 _ 14 rfl rfl
    have d2 : x 2 = .pointer (some ⟨w.heap.size + 1, 1, none⟩) := hd ⟨2, .data⟩ (by simp) rfl
    rw [d2] at e14
    clear d2
    clear hev hev0 hd
    have hs1 := zh (HS2.out.call hbx)
    have y0 := hs1.out.cell 1 rfl 1 rfl
    go_wp2
    exact StepQ.mk _ (Below.refl _ _) rfl
  · intro x a1 w1 hbx hev hev0 hd
    have e13 := hev 1 _ 13 rfl rfl
    have d1 : x 1 = .string (bs bp) := hd ⟨1, .data⟩ (by simp) rfl
    rw [d1] at e13
    clear d1
    clear hev hev0 hd
    go_wp2
    exact StepQ.mk _ (Below.refl _ _) rfl
  · intro x a1 w1 hbx hev hev0 hd
    have e15 := hev 3 _ 15 rfl rfl
    have d3 : x 3 = .string (bs bq) := hd ⟨3, .data⟩ (by simp) rfl
    rw [d3] at e15
    clear d3
    clear hev hev0 hd
    go_wp2
    exact StepQ.mk _ (Below.refl _ _) rfl
  intro x w6 hb9 hv
  have hv0 : x 0 = .pointer (some ⟨w.heap.size, 1, none⟩) := hv 0 (by decide)
  have hv1 : x 1 = .string (bs bp) := hv 1 (by decide)
  have hv2 : x 2 = .pointer (some ⟨w.heap.size + 1, 1, none⟩) := hv 2 (by decide)
  have hv3 : x 3 = .string (bs bq) := hv 3 (by decide)
  have hv4 : x 4 = .string (bs bp) := hv 4 (by decide)
  have hv5 : x 5 = .string (bs bq) := hv 5 (by decide)
  clear hv
  simp only [List.take, List.drop, a0j, Act.put]
  simp only [hv0, hv1, hv2, hv3, hv4, hv5]
  clear hv0 hv1 hv2 hv3 hv4 hv5
  have HS6 := zh (HS2.out.call hb9)
  clear hb9 HS2
  have x1 := HS6.out.cell 2 rfl 2 rfl
  have x2 := HS6.out.cell 1 rfl 2 rfl
  have x3 := HS6.out.cell 2 rfl 0 rfl
  have x4 := HS6.out.cell 2 rfl 1 rfl
  go_wp2_with fail
  refine (DP.out _).mono ?_
  rintro e w7 ⟨rfl, hb7⟩
  have HS7 := zh (HS6.out.call hb7)
  clear hb7 HS6
  clear x1 x2 x3 x4
  have x5 := HS7.out.cell 2 rfl 0 rfl
  have x6 := HS7.out.cell 1 rfl 0 rfl
  go_wp2_with fail
  refine (SX.out _).mono ?_
  rintro e w8 ⟨rfl, hb8⟩
  have HS8 := zh (HS7.out.call hb8)
  clear hb8 HS7
  clear x5 x6
  go_wp2_with fail
  refine (SY.out _).mono ?_
  rintro e w9 ⟨rfl, hb9⟩
  have HS9 := zh (HS8.out.call hb9)
  clear hb9 HS8
  have x7 := HS9.out.cell 1 rfl 0 rfl
  go_wp2_with fail
  refine (RD.out _).mono ?_
  rintro e w10 ⟨rfl, hb10⟩
  have HS10 := zh (HS9.out.call hb10)
  clear hb10 HS9
  clear x7
  have x8 := HS10.out.cell 0 rfl 0 rfl
  have x9 := HS10.out.cell 0 rfl 1 rfl
  have x10 := HS10.out.cell 0 rfl 2 rfl
  have x11 := HS10.out.frozen 0 rfl 0
  have x12 := HS10.out.frozen 0 rfl 1
  have x13 := HS10.out.frozen 0 rfl 2
  have x14 := HS10.out.ne 0 1 rfl rfl (by decide)
  have x15 := HS10.out.ne 1 0 rfl rfl (by decide)
  have x16 := HS10.out.ne 0 2 rfl rfl (by decide)
  have x17 := HS10.out.ne 2 0 rfl rfl (by decide)
  go_wp2
  have HS11 : Hid (St w [⟨w.heap.size + 1 + 1, #[.bool nr, .string (bs br), .string (bs dr)], 51⟩, ⟨w.heap.size + 1, #[.bool nq, .string (bs bq), .string (bs dq)], 51⟩, ⟨w.heap.size, #[.bool np, .string (bs bp), .string (bs dp)], 51⟩] _) := zh (St.set ((St.set ((St.set (HS10.out) 0 rfl 0 _)) 0 rfl 1 _)) 0 rfl 2 _)
  exact bodyPost_ret (a1c rfl _ _ _ _ _ _ rfl (HS11.out.blk 0 rfl)) rfl ⟨rfl, HS11.out.below⟩

set_option maxRecDepth 100000 in
set_option maxHeartbeats 4000000 in
theorem b1m (p q : Rat) (w : World) (sp : Sized 17179869184 p) (sq : Sized 17179869184 q) (hd : p.den ≠ q.den) (hs : negB p = negB q) :
    Calls Tryz.prog 59 #[rat p, rat q] w fun e w' => e = .returned (rat (p + q)) /\ Below w.heap.size w w' := by
  obtain ⟨x, hx⟩ : ∃ x, x = p.num.natAbs * q.den := ⟨_, rfl⟩
  obtain ⟨y, hy⟩ : ∃ y, y = q.num.natAbs * p.den := ⟨_, rfl⟩
  obtain ⟨d, hdd⟩ : ∃ d, d = p.den * q.den := ⟨_, rfl⟩
  have hd0 : d ≠ 0 := by rw [hdd]; exact Nat.mul_ne_zero p.den_nz q.den_nz
  have lx : (bytesOf x).length <= 34359738368 := by rw [hx]; exact a2a sp.1 sq.2
  have ly : (bytesOf y).length <= 34359738368 := by rw [hy]; exact a2a sq.1 sp.2
  have ld : (bytesOf d).length <= 34359738368 := by rw [hdd]; exact a2a sp.2 sq.2
  have hr : mkRat (signed (negB p) (x + y)) d = p + q := by
    rw [hdd, b2d, hx, hy]
    have := b3u p q
    rw [<- hs] at this
    exact this
  have lz : (bytesOf (x + y)).length <= 34359738369 := b1e lx ly
  have rd := fun W => a1q (negB p) (bytesOf (x + y)) (bytesOf d) W (by omega) (by omega) (by rw [a0a]; exact hd0)
  rw [a0a, a0a, hr] at rd
  have sx := fun W => c0w (bytesOf x) (bytesOf y) W (by omega) (by omega)
  rw [a0a, a0a] at sx
  have dp := fun W => a0s p W
  have dq := fun W => a0s q W
  have lp := sp.num
  have lq := sq.num
  have lpd := sp.2
  have lqd := sq.2
  have mx := fun W => a4w (numB p) (bytesOf q.den) W (by omega) (by omega)
  have my := fun W => a4w (numB q) (bytesOf p.den) W (by omega) (by omega)
  have md := fun W => a4w (bytesOf p.den) (bytesOf q.den) W (by omega) (by omega)
  rw [a6b, a0a, <- hx] at mx
  rw [a6b, a0a, <- hy] at my
  rw [a0a, a0a, <- hdd] at md
  have ft : ((bs (a0p p)).toList == (bs (a0p q)).toList) = false := a3z (mt denom_same.1 hd)
  have fs : (negB p == negB q) = true := by simpa using hs
  unfold rat raw at *
  clear hx hy hdd hd0 hr lx ly ld lz sp sq hd hs lp lq lpd lqd
  generalize p + q = r at *
  generalize negB p = np at *
  generalize numB p = bp at *
  generalize a0p p = dp at *
  generalize negB q = nq at *
  generalize numB q = bq at *
  generalize a0p q = dq at *
  generalize negB r = nr at *
  generalize numB r = br at *
  generalize a0p r = dr at *
  generalize bytesOf (x + y) = es at *
  generalize bytesOf x = ex at *
  generalize bytesOf y = ey at *
  generalize bytesOf d = ed at *
  generalize bytesOf p.den = ep at *
  generalize bytesOf q.den = eq at *
  have RD := zh rd
  have SX := zh sx
  have DP := zh dp
  clear rd sx dp
  have DQ := zh dq
  have MX := zh mx
  have MY := zh my
  have MD := zh md
  clear dq mx my md
  go_enter Tryz.func59, Tryz.ntmps59
  have HS := zh (St.start w)
  go_wp2
  have HS2 : Hid (St w [⟨w.heap.size + 1 + 1, #[.bool false, .string (bs []), .string (bs [])], 51⟩, ⟨w.heap.size + 1, #[.bool nq, .string (bs bq), .string (bs dq)], 51⟩, ⟨w.heap.size, #[.bool np, .string (bs bp), .string (bs dp)], 51⟩] _) := zh (St.alloc ((St.alloc ((St.alloc (HS.out) _ _ _ (by simp))) _ _ _ (by simp))) _ _ _ (by simp))
  clear HS
  refine a0d 6 [fun _ v => v = .pointer (some ⟨w.heap.size, 1, none⟩), fun _ v => v = .string (bs bp), fun _ v => v = .pointer (some ⟨w.heap.size + 1, 1, none⟩), fun _ v => v = .string (bs bq), fun _ v => v = .string (bs bp), fun _ v => v = .string (bs bq)] rfl (by kernel_rfl) (by kernel_rfl) (by kernel_rfl) ⟨fun _ _ _ h _ => h, fun _ _ _ h _ => h, fun _ _ _ h _ => h, fun _ _ _ h _ => h, fun _ _ _ h _ => h, fun _ _ _ h _ => h, trivial⟩ ?_ ?_
  refine ⟨?_, ?_, ?_, ?_, ?_, ?_, trivial⟩
  · intro x a1 w1 hbx hev hev0 hd
    have e2 : a1.tmps[2]?.getD undef = .pointer (some ⟨w.heap.size, 0, none⟩) := hev0 2 rfl
    clear hev hev0 hd
    go_wp2
    exact StepQ.mk _ (Below.refl _ _) rfl
  · intro x a1 w1 hbx hev hev0 hd
    have e12 := hev 0 _ 12 rfl rfl
    have d0 : x 0 = .pointer (some ⟨w.heap.size, 1, none⟩) := hd ⟨0, .data⟩ (by simp) rfl
    rw [d0] at e12
    clear d0
    clear hev hev0 hd
    have hs1 := zh (HS2.out.call hbx)
    have y0 := hs1.out.cell 2 rfl 1 rfl
    go_wp2
    exact StepQ.mk _ (Below.refl _ _) rfl
  · intro x a1 w1 hbx hev hev0 hd
    have e3 : a1.tmps[3]?.getD undef = .pointer (some ⟨w.heap.size + 1, 0, none⟩) := hev0 3 rfl
    clear hev hev0 hd
    go_wp2
    exact StepQ.mk _ (Below.refl _ _) rfl
  · intro x a1 w1 hbx hev hev0 hd
    have e14 := hev 2 _ 14 rfl rfl
    have d2 : x 2 = .pointer (some ⟨w.heap.size + 1, 1, none⟩) := hd ⟨2, .data⟩ (by simp) rfl
    rw [d2] at e14
    clear d2
    clear hev hev0 hd
    have hs1 := zh (HS2.out.call hbx)
    have y0 := hs1.out.cell 1 rfl 1 rfl
    go_wp2
    exact StepQ.mk _ (Below.refl _ _) rfl
  · intro x a1 w1 hbx hev hev0 hd
    have e13 := hev 1 _ 13 rfl rfl
    have d1 : x 1 = .string (bs bp) := hd ⟨1, .data⟩ (by simp) rfl
    rw [d1] at e13
    clear d1
    clear hev hev0 hd
    go_wp2
    exact StepQ.mk _ (Below.refl _ _) rfl
  · intro x a1 w1 hbx hev hev0 hd
    have e15 := hev 3 _ 15 rfl rfl
    have d3 : x 3 = .string (bs bq) := hd ⟨3, .data⟩ (by simp) rfl
    rw [d3] at e15
    clear d3
    clear hev hev0 hd
    go_wp2
    exact StepQ.mk _ (Below.refl _ _) rfl
  intro x w6 hb9 hv
  have hv0 : x 0 = .pointer (some ⟨w.heap.size, 1, none⟩) := hv 0 (by decide)
  have hv1 : x 1 = .string (bs bp) := hv 1 (by decide)
  have hv2 : x 2 = .pointer (some ⟨w.heap.size + 1, 1, none⟩) := hv 2 (by decide)
  have hv3 : x 3 = .string (bs bq) := hv 3 (by decide)
  have hv4 : x 4 = .string (bs bp) := hv 4 (by decide)
  have hv5 : x 5 = .string (bs bq) := hv 5 (by decide)
  clear hv
  simp only [List.take, List.drop, a0j, Act.put]
  simp only [hv0, hv1, hv2, hv3, hv4, hv5]
  clear hv0 hv1 hv2 hv3 hv4 hv5
  have HS6 := zh (HS2.out.call hb9)
  clear hb9 HS2
  have x1 := HS6.out.cell 2 rfl 2 rfl
  have x2 := HS6.out.cell 1 rfl 2 rfl
  go_wp2
  clear x1 x2
  refine a0d 8 [fun _ v => v = .string (bs bp), fun _ v => v = .agg #[.bool nq, .string (bs bq), .string (bs dq)], fun _ v => v = .string (bs eq), fun _ v => v = .string (bs ex), fun _ v => v = .string (bs bq), fun _ v => v = .agg #[.bool np, .string (bs bp), .string (bs dp)], fun _ v => v = .string (bs ep), fun _ v => v = .string (bs ey)] rfl (by kernel_rfl) (by kernel_rfl) (by kernel_rfl) ⟨fun _ _ _ h _ => h, fun _ _ _ h _ => h, fun _ _ _ h _ => h, fun _ _ _ h _ => h, fun _ _ _ h _ => h, fun _ _ _ h _ => h, fun _ _ _ h _ => h, fun _ _ _ h _ => h, trivial⟩ ?_ ?_
  refine ⟨?_, ?_, ?_, ?_, ?_, ?_, ?_, ?_, trivial⟩
  · intro x a1 w1 hbx hev hev0 hd
    have e5 : a1.tmps[5]?.getD undef = .string (bs bp) := hev0 5 rfl
    clear hev hev0 hd
    go_wp2
    exact StepQ.mk _ (Below.refl _ _) rfl
  · intro x a1 w1 hbx hev hev0 hd
    have e3 : a1.tmps[3]?.getD undef = .pointer (some ⟨w.heap.size + 1, 0, none⟩) := hev0 3 rfl
    clear hev hev0 hd
    have hs1 := zh (HS6.out.call hbx)
    have y0 := hs1.out.cell 1 rfl 0 rfl
    have y1 := hs1.out.cell 1 rfl 1 rfl
    have y2 := hs1.out.cell 1 rfl 2 rfl
    go_wp2
    exact StepQ.mk _ (Below.refl _ _) rfl
  · intro x a1 w1 hbx hev hev0 hd
    have e22 := hev 1 _ 22 rfl rfl
    have d1 : x 1 = .agg #[.bool nq, .string (bs bq), .string (bs dq)] := hd ⟨1, .data⟩ (by simp) rfl
    rw [d1] at e22
    clear d1
    clear hev hev0 hd
    go_wp2_with fail
    refine (DQ.out _).mono ?_
    rintro e w8 ⟨rfl, hb8⟩
    go_wp2
    exact StepQ.mk _ hb8 rfl
  · intro x a1 w1 hbx hev hev0 hd
    have e21 := hev 0 _ 21 rfl rfl
    have d0 : x 0 = .string (bs bp) := hd ⟨0, .data⟩ (by simp) rfl
    rw [d0] at e21
    clear d0
    have e23 := hev 2 _ 23 rfl rfl
    have d2 : x 2 = .string (bs eq) := hd ⟨2, .data⟩ (by simp) rfl
    rw [d2] at e23
    clear d2
    clear hev hev0 hd
    go_wp2_with fail
    refine (MX.out _).mono ?_
    rintro e w8 ⟨rfl, hb8⟩
    go_wp2
    exact StepQ.mk _ hb8 rfl
  · intro x a1 w1 hbx hev hev0 hd
    have e6 : a1.tmps[6]?.getD undef = .string (bs bq) := hev0 6 rfl
    clear hev hev0 hd
    go_wp2
    exact StepQ.mk _ (Below.refl _ _) rfl
  · intro x a1 w1 hbx hev hev0 hd
    have e2 : a1.tmps[2]?.getD undef = .pointer (some ⟨w.heap.size, 0, none⟩) := hev0 2 rfl
    clear hev hev0 hd
    have hs1 := zh (HS6.out.call hbx)
    have y0 := hs1.out.cell 2 rfl 0 rfl
    have y1 := hs1.out.cell 2 rfl 1 rfl
    have y2 := hs1.out.cell 2 rfl 2 rfl
    go_wp2
    exact StepQ.mk _ (Below.refl _ _) rfl
  · intro x a1 w1 hbx hev hev0 hd
    have e26 := hev 5 _ 26 rfl rfl
    have d5 : x 5 = .agg #[.bool np, .string (bs bp), .string (bs dp)] := hd ⟨5, .data⟩ (by simp) rfl
    rw [d5] at e26
    clear d5
    clear hev hev0 hd
    go_wp2_with fail
    refine (DP.out _).mono ?_
    rintro e w8 ⟨rfl, hb8⟩
    go_wp2
    exact StepQ.mk _ hb8 rfl
  · intro x a1 w1 hbx hev hev0 hd
    have e25 := hev 4 _ 25 rfl rfl
    have d4 : x 4 = .string (bs bq) := hd ⟨4, .data⟩ (by simp) rfl
    rw [d4] at e25
    clear d4
    have e27 := hev 6 _ 27 rfl rfl
    have d6 : x 6 = .string (bs ep) := hd ⟨6, .data⟩ (by simp) rfl
    rw [d6] at e27
    clear d6
    clear hev hev0 hd
    go_wp2_with fail
    refine (MY.out _).mono ?_
    rintro e w8 ⟨rfl, hb8⟩
    go_wp2
    exact StepQ.mk _ hb8 rfl
  intro x w7 hb9 hv
  have hv0 : x 0 = .string (bs bp) := hv 0 (by decide)
  have hv1 : x 1 = .agg #[.bool nq, .string (bs bq), .string (bs dq)] := hv 1 (by decide)
  have hv2 : x 2 = .string (bs eq) := hv 2 (by decide)
  have hv3 : x 3 = .string (bs ex) := hv 3 (by decide)
  have hv4 : x 4 = .string (bs bq) := hv 4 (by decide)
  have hv5 : x 5 = .agg #[.bool np, .string (bs bp), .string (bs dp)] := hv 5 (by decide)
  have hv6 : x 6 = .string (bs ep) := hv 6 (by decide)
  have hv7 : x 7 = .string (bs ey) := hv 7 (by decide)
  clear hv
  simp only [List.take, List.drop, a0j, Act.put]
  simp only [hv0, hv1, hv2, hv3, hv4, hv5, hv6, hv7]
  clear hv0 hv1 hv2 hv3 hv4 hv5 hv6 hv7
  have HS7 := zh (HS6.out.call hb9)
  clear hb9 HS6
  go_wp2
  refine a0d 5 [fun _ v => v = .agg #[.bool np, .string (bs bp), .string (bs dp)], fun _ v => v = .string (bs ep), fun _ v => v = .agg #[.bool nq, .string (bs bq), .string (bs dq)], fun _ v => v = .string (bs eq), fun _ v => v = .string (bs ed)] rfl (by kernel_rfl) (by kernel_rfl) (by kernel_rfl) ⟨fun _ _ _ h _ => h, fun _ _ _ h _ => h, fun _ _ _ h _ => h, fun _ _ _ h _ => h, fun _ _ _ h _ => h, trivial⟩ ?_ ?_
  refine ⟨?_, ?_, ?_, ?_, ?_, trivial⟩
  · intro x a1 w1 hbx hev hev0 hd
    have e2 : a1.tmps[2]?.getD undef = .pointer (some ⟨w.heap.size, 0, none⟩) := hev0 2 rfl
    clear hev hev0 hd
    have hs1 := zh (HS7.out.call hbx)
    have y0 := hs1.out.cell 2 rfl 0 rfl
    have y1 := hs1.out.cell 2 rfl 1 rfl
    have y2 := hs1.out.cell 2 rfl 2 rfl
    go_wp2
    exact StepQ.mk _ (Below.refl _ _) rfl
  · intro x a1 w1 hbx hev hev0 hd
    have e29 := hev 0 _ 29 rfl rfl
    have d0 : x 0 = .agg #[.bool np, .string (bs bp), .string (bs dp)] := hd ⟨0, .data⟩ (by simp) rfl
    rw [d0] at e29
    clear d0
    clear hev hev0 hd
    go_wp2_with fail
    refine (DP.out _).mono ?_
    rintro e w8 ⟨rfl, hb8⟩
    go_wp2
    exact StepQ.mk _ hb8 rfl
  · intro x a1 w1 hbx hev hev0 hd
    have e3 : a1.tmps[3]?.getD undef = .pointer (some ⟨w.heap.size + 1, 0, none⟩) := hev0 3 rfl
    clear hev hev0 hd
    have hs1 := zh (HS7.out.call hbx)
    have y0 := hs1.out.cell 1 rfl 0 rfl
    have y1 := hs1.out.cell 1 rfl 1 rfl
    have y2 := hs1.out.cell 1 rfl 2 rfl
    go_wp2
    exact StepQ.mk _ (Below.refl _ _) rfl
  · intro x a1 w1 hbx hev hev0 hd
    have e31 := hev 2 _ 31 rfl rfl
    have d2 : x 2 = .agg #[.bool nq, .string (bs bq), .string (bs dq)] := hd ⟨2, .data⟩ (by simp) rfl
    rw [d2] at e31
    clear d2
    clear hev hev0 hd
    go_wp2_with fail
    refine (DQ.out _).mono ?_
    rintro e w8 ⟨rfl, hb8⟩
    go_wp2
    exact StepQ.mk _ hb8 rfl
  · intro x a1 w1 hbx hev hev0 hd
    have e30 := hev 1 _ 30 rfl rfl
    have d1 : x 1 = .string (bs ep) := hd ⟨1, .data⟩ (by simp) rfl
    rw [d1] at e30
    clear d1
    have e32 := hev 3 _ 32 rfl rfl
    have d3 : x 3 = .string (bs eq) := hd ⟨3, .data⟩ (by simp) rfl
    rw [d3] at e32
    clear d3
    clear hev hev0 hd
    go_wp2_with fail
    refine (MD.out _).mono ?_
    rintro e w8 ⟨rfl, hb8⟩
    go_wp2
    exact StepQ.mk _ hb8 rfl
  intro x w8 hb9 hv
  have hv0 : x 0 = .agg #[.bool np, .string (bs bp), .string (bs dp)] := hv 0 (by decide)
  have hv1 : x 1 = .string (bs ep) := hv 1 (by decide)
  have hv2 : x 2 = .agg #[.bool nq, .string (bs bq), .string (bs dq)] := hv 2 (by decide)
  have hv3 : x 3 = .string (bs eq) := hv 3 (by decide)
  have hv4 : x 4 = .string (bs ed) := hv 4 (by decide)
  clear hv
  simp only [List.take, List.drop, a0j, Act.put]
  simp only [hv0, hv1, hv2, hv3, hv4]
  clear hv0 hv1 hv2 hv3 hv4
  have HS8 := zh (HS7.out.call hb9)
  clear hb9 HS7
  have x3 := HS8.out.cell 2 rfl 0 rfl
  have x4 := HS8.out.cell 1 rfl 0 rfl
  go_wp2
  clear x3 x4
  refine a0d 7 [fun _ v => v = .pointer (some ⟨w.heap.size, 0, none⟩), fun _ v => v = .bool np, fun _ v => v = .string (bs ex), fun _ v => v = .string (bs ey), fun _ v => v = .string (bs es), fun _ v => v = .string (bs ed), fun _ v => v = .agg #[.bool nr, .string (bs br), .string (bs dr)]] rfl (by kernel_rfl) (by kernel_rfl) (by kernel_rfl) ⟨fun _ _ _ h _ => h, fun _ _ _ h _ => h, fun _ _ _ h _ => h, fun _ _ _ h _ => h, fun _ _ _ h _ => h, fun _ _ _ h _ => h, fun _ _ _ h _ => h, trivial⟩ ?_ ?_
  refine ⟨?_, ?_, ?_, ?_, ?_, ?_, ?_, trivial⟩
  · intro x a1 w1 hbx hev hev0 hd
    have e2 : a1.tmps[2]?.getD undef = .pointer (some ⟨w.heap.size, 0, none⟩) := hev0 2 rfl
    clear hev hev0 hd
    go_wp2
    exact StepQ.mk _ (Below.refl _ _) rfl
  · intro x a1 w1 hbx hev hev0 hd
    have e41 := hev 0 _ 41 rfl rfl
    have d0 : x 0 = .pointer (some ⟨w.heap.size, 0, none⟩) := hd ⟨0, .data⟩ (by simp) rfl
    rw [d0] at e41
    clear d0
    clear hev hev0 hd
    have hs1 := zh (HS8.out.call hbx)
    have y0 := hs1.out.cell 2 rfl 0 rfl
    go_wp2
    exact StepQ.mk _ (Below.refl _ _) rfl
  · intro x a1 w1 hbx hev hev0 hd
    have e5 : a1.tmps[5]?.getD undef = .string (bs ex) := hev0 5 rfl
    clear hev hev0 hd
    go_wp2
    exact StepQ.mk _ (Below.refl _ _) rfl
  · intro x a1 w1 hbx hev hev0 hd
    have e6 : a1.tmps[6]?.getD undef = .string (bs ey) := hev0 6 rfl
    clear hev hev0 hd
    go_wp2
    exact StepQ.mk _ (Below.refl _ _) rfl
  · intro x a1 w1 hbx hev hev0 hd
    have e43 := hev 2 _ 43 rfl rfl
    have d2 : x 2 = .string (bs ex) := hd ⟨2, .data⟩ (by simp) rfl
    rw [d2] at e43
    clear d2
    have e44 := hev 3 _ 44 rfl rfl
    have d3 : x 3 = .string (bs ey) := hd ⟨3, .data⟩ (by simp) rfl
    rw [d3] at e44
    clear d3
    clear hev hev0 hd
    go_wp2_with fail
    refine (SX.out _).mono ?_
    rintro e w8 ⟨rfl, hb8⟩
    go_wp2
    exact StepQ.mk _ hb8 rfl
  · intro x a1 w1 hbx hev hev0 hd
    have e7 : a1.tmps[7]?.getD undef = .string (bs ed) := hev0 7 rfl
    clear hev hev0 hd
    go_wp2
    exact StepQ.mk _ (Below.refl _ _) rfl
  · intro x a1 w1 hbx hev hev0 hd
    have e42 := hev 1 _ 42 rfl rfl
    have d1 : x 1 = .bool np := hd ⟨1, .data⟩ (by simp) rfl
    rw [d1] at e42
    clear d1
    have e45 := hev 4 _ 45 rfl rfl
    have d4 : x 4 = .string (bs es) := hd ⟨4, .data⟩ (by simp) rfl
    rw [d4] at e45
    clear d4
    have e46 := hev 5 _ 46 rfl rfl
    have d5 : x 5 = .string (bs ed) := hd ⟨5, .data⟩ (by simp) rfl
    rw [d5] at e46
    clear d5
    clear hev hev0 hd
    go_wp2_with fail
    refine (RD.out _).mono ?_
    rintro e w8 ⟨rfl, hb8⟩
    go_wp2
    exact StepQ.mk _ hb8 rfl
  intro x w9 hb9 hv
  have hv0 : x 0 = .pointer (some ⟨w.heap.size, 0, none⟩) := hv 0 (by decide)
  have hv1 : x 1 = .bool np := hv 1 (by decide)
  have hv2 : x 2 = .string (bs ex) := hv 2 (by decide)
  have hv3 : x 3 = .string (bs ey) := hv 3 (by decide)
  have hv4 : x 4 = .string (bs es) := hv 4 (by decide)
  have hv5 : x 5 = .string (bs ed) := hv 5 (by decide)
  have hv6 : x 6 = .agg #[.bool nr, .string (bs br), .string (bs dr)] := hv 6 (by decide)
  clear hv
  simp only [List.take, List.drop, a0j, Act.put]
  simp only [hv0, hv1, hv2, hv3, hv4, hv5, hv6]
  clear hv0 hv1 hv2 hv3 hv4 hv5 hv6
  have HS9 := zh (HS8.out.call hb9)
  clear hb9 HS8
  have x5 := HS9.out.cell 0 rfl 0 rfl
  have x6 := HS9.out.cell 0 rfl 1 rfl
  have x7 := HS9.out.cell 0 rfl 2 rfl
  have x8 := HS9.out.frozen 0 rfl 0
  have x9 := HS9.out.frozen 0 rfl 1
  have x10 := HS9.out.frozen 0 rfl 2
  have x11 := HS9.out.ne 0 1 rfl rfl (by decide)
  have x12 := HS9.out.ne 1 0 rfl rfl (by decide)
  have x13 := HS9.out.ne 0 2 rfl rfl (by decide)
  have x14 := HS9.out.ne 2 0 rfl rfl (by decide)
  go_wp2
  have HS10 : Hid (St w [⟨w.heap.size + 1 + 1, #[.bool nr, .string (bs br), .string (bs dr)], 51⟩, ⟨w.heap.size + 1, #[.bool nq, .string (bs bq), .string (bs dq)], 51⟩, ⟨w.heap.size, #[.bool np, .string (bs bp), .string (bs dp)], 51⟩] _) := zh (St.set ((St.set ((St.set (HS9.out) 0 rfl 0 _)) 0 rfl 1 _)) 0 rfl 2 _)
  exact bodyPost_ret (a1c rfl _ _ _ _ _ _ rfl (HS10.out.blk 0 rfl)) rfl ⟨rfl, HS10.out.below⟩

set_option maxRecDepth 100000 in
set_option maxHeartbeats 4000000 in
theorem b1k (p q : Rat) (w : World) (sp : Sized 17179869184 p) (sq : Sized 17179869184 q) (hd : p.den ≠ q.den) (hs : negB p ≠ negB q) (hl : q.num.natAbs * p.den <= p.num.natAbs * q.den) :
    Calls Tryz.prog 59 #[rat p, rat q] w fun e w' => e = .returned (rat (p + q)) /\ Below w.heap.size w w' := by
  obtain ⟨x, hx⟩ : ∃ x, x = p.num.natAbs * q.den := ⟨_, rfl⟩
  obtain ⟨y, hy⟩ : ∃ y, y = q.num.natAbs * p.den := ⟨_, rfl⟩
  obtain ⟨d, hdd⟩ : ∃ d, d = p.den * q.den := ⟨_, rfl⟩
  have hd0 : d ≠ 0 := by rw [hdd]; exact Nat.mul_ne_zero p.den_nz q.den_nz
  have lx : (bytesOf x).length <= 34359738368 := by rw [hx]; exact a2a sp.1 sq.2
  have ly : (bytesOf y).length <= 34359738368 := by rw [hy]; exact a2a sq.1 sp.2
  have ld : (bytesOf d).length <= 34359738368 := by rw [hdd]; exact a2a sp.2 sq.2
  have hr : mkRat (signed (negB p) (x - y)) d = p + q := by
    rw [hdd, a6p hs (by rw [hx, hy]; exact hl), hx, hy]
    exact b3u p q
  have lz : (bytesOf (x - y)).length <= 34359738369 := Nat.le_trans (a2y (Nat.sub_le _ _) lx) (by decide)
  have rd := fun W => a1q (negB p) (bytesOf (x - y)) (bytesOf d) W (by omega) (by omega) (by rw [a0a]; exact hd0)
  rw [a0a, a0a, hr] at rd
  have sx := fun W => b3c (bytesOf x) (bytesOf y) W (by omega) (by omega) (by rw [a0a, a0a, hx, hy]; exact hl)
  rw [a0a, a0a] at sx
  have dp := fun W => a0s p W
  have dq := fun W => a0s q W
  have lp := sp.num
  have lq := sq.num
  have lpd := sp.2
  have lqd := sq.2
  have mx := fun W => a4w (numB p) (bytesOf q.den) W (by omega) (by omega)
  have my := fun W => a4w (numB q) (bytesOf p.den) W (by omega) (by omega)
  have md := fun W => a4w (bytesOf p.den) (bytesOf q.den) W (by omega) (by omega)
  rw [a6b, a0a, <- hx] at mx
  rw [a6b, a0a, <- hy] at my
  rw [a0a, a0a, <- hdd] at md
  have ft : ((bs (a0p p)).toList == (bs (a0p q)).toList) = false := a3z (mt denom_same.1 hd)
  have fs : (negB p == negB q) = false := by simpa using hs
  unfold rat raw at *
  clear hx hy hdd hd0 hr lx ly ld lz sp sq hd hs lp lq lpd lqd hl
  generalize p + q = r at *
  generalize negB p = np at *
  generalize numB p = bp at *
  generalize a0p p = dp at *
  generalize negB q = nq at *
  generalize numB q = bq at *
  generalize a0p q = dq at *
  generalize negB r = nr at *
  generalize numB r = br at *
  generalize a0p r = dr at *
  generalize bytesOf (x - y) = es at *
  generalize bytesOf x = ex at *
  generalize bytesOf y = ey at *
  generalize bytesOf d = ed at *
  generalize bytesOf p.den = ep at *
  generalize bytesOf q.den = eq at *
  have RD := zh rd
  have SX := zh sx
  have DP := zh dp
  clear rd sx dp
  have DQ := zh dq
  have MX := zh mx
  have MY := zh my
  have MD := zh md
  clear dq mx my md
  go_enter Tryz.func59, Tryz.ntmps59
  have HS := zh (St.start w)
  go_wp2
  have HS2 : Hid (St w [⟨w.heap.size + 1 + 1, #[.bool false, .string (bs []), .string (bs [])], 51⟩, ⟨w.heap.size + 1, #[.bool nq, .string (bs bq), .string (bs dq)], 51⟩, ⟨w.heap.size, #[.bool np, .string (bs bp), .string (bs dp)], 51⟩] _) := zh (St.alloc ((St.alloc ((St.alloc (HS.out) _ _ _ (by simp))) _ _ _ (by simp))) _ _ _ (by simp))
  clear HS
  refine a0d 6 [fun _ v => v = .pointer (some ⟨w.heap.size, 1, none⟩), fun _ v => v = .string (bs bp), fun _ v => v = .pointer (some ⟨w.heap.size + 1, 1, none⟩), fun _ v => v = .string (bs bq), fun _ v => v = .string (bs bp), fun _ v => v = .string (bs bq)] rfl (by kernel_rfl) (by kernel_rfl) (by kernel_rfl) ⟨fun _ _ _ h _ => h, fun _ _ _ h _ => h, fun _ _ _ h _ => h, fun _ _ _ h _ => h, fun _ _ _ h _ => h, fun _ _ _ h _ => h, trivial⟩ ?_ ?_
  refine ⟨?_, ?_, ?_, ?_, ?_, ?_, trivial⟩
  · intro x a1 w1 hbx hev hev0 hd
    have e2 : a1.tmps[2]?.getD undef = .pointer (some ⟨w.heap.size, 0, none⟩) := hev0 2 rfl
    clear hev hev0 hd
    go_wp2
    exact StepQ.mk _ (Below.refl _ _) rfl
  · intro x a1 w1 hbx hev hev0 hd
    have e12 := hev 0 _ 12 rfl rfl
    have d0 : x 0 = .pointer (some ⟨w.heap.size, 1, none⟩) := hd ⟨0, .data⟩ (by simp) rfl
    rw [d0] at e12
    clear d0
    clear hev hev0 hd
    have hs1 := zh (HS2.out.call hbx)
    have y0 := hs1.out.cell 2 rfl 1 rfl
    go_wp2
    exact StepQ.mk _ (Below.refl _ _) rfl
  · intro x a1 w1 hbx hev hev0 hd
    have e3 : a1.tmps[3]?.getD undef = .pointer (some ⟨w.heap.size + 1, 0, none⟩) := hev0 3 rfl
    clear hev hev0 hd
    go_wp2
    exact StepQ.mk _ (Below.refl _ _) rfl
  · intro x a1 w1 hbx hev hev0 hd
    have e14 := hev 2 _ 14 rfl rfl
    have d2 : x 2 = .pointer (some ⟨w.heap.size + 1, 1, none⟩) := hd ⟨2, .data⟩ (by simp) rfl
    rw [d2] at e14
    clear d2
    clear hev hev0 hd
    have hs1 := zh (HS2.out.call hbx)
    have y0 := hs1.out.cell 1 rfl 1 rfl
    go_wp2
    exact StepQ.mk _ (Below.refl _ _) rfl
  · intro x a1 w1 hbx hev hev0 hd
    have e13 := hev 1 _ 13 rfl rfl
    have d1 : x 1 = .string (bs bp) := hd ⟨1, .data⟩ (by simp) rfl
    rw [d1] at e13
    clear d1
    clear hev hev0 hd
    go_wp2
    exact StepQ.mk _ (Below.refl _ _) rfl
  · intro x a1 w1 hbx hev hev0 hd
    have e15 := hev 3 _ 15 rfl rfl
    have d3 : x 3 = .string (bs bq) := hd ⟨3, .data⟩ (by simp) rfl
    rw [d3] at e15
    clear d3
    clear hev hev0 hd
    go_wp2
    exact StepQ.mk _ (Below.refl _ _) rfl
  intro x w6 hb9 hv
  have hv0 : x 0 = .pointer (some ⟨w.heap.size, 1, none⟩) := hv 0 (by decide)
  have hv1 : x 1 = .string (bs bp) := hv 1 (by decide)
  have hv2 : x 2 = .pointer (some ⟨w.heap.size + 1, 1, none⟩) := hv 2 (by decide)
  have hv3 : x 3 = .string (bs bq) := hv 3 (by decide)
  have hv4 : x 4 = .string (bs bp) := hv 4 (by decide)
  have hv5 : x 5 = .string (bs bq) := hv 5 (by decide)
  clear hv
  simp only [List.take, List.drop, a0j, Act.put]
  simp only [hv0, hv1, hv2, hv3, hv4, hv5]
  clear hv0 hv1 hv2 hv3 hv4 hv5
  have HS6 := zh (HS2.out.call hb9)
  clear hb9 HS2
  have x1 := HS6.out.cell 2 rfl 2 rfl
  have x2 := HS6.out.cell 1 rfl 2 rfl
  go_wp2
  clear x1 x2
  refine a0d 8 [fun _ v => v = .string (bs bp), fun _ v => v = .agg #[.bool nq, .string (bs bq), .string (bs dq)], fun _ v => v = .string (bs eq), fun _ v => v = .string (bs ex), fun _ v => v = .string (bs bq), fun _ v => v = .agg #[.bool np, .string (bs bp), .string (bs dp)], fun _ v => v = .string (bs ep), fun _ v => v = .string (bs ey)] rfl (by kernel_rfl) (by kernel_rfl) (by kernel_rfl) ⟨fun _ _ _ h _ => h, fun _ _ _ h _ => h, fun _ _ _ h _ => h, fun _ _ _ h _ => h, fun _ _ _ h _ => h, fun _ _ _ h _ => h, fun _ _ _ h _ => h, fun _ _ _ h _ => h, trivial⟩ ?_ ?_
  refine ⟨?_, ?_, ?_, ?_, ?_, ?_, ?_, ?_, trivial⟩
  · intro x a1 w1 hbx hev hev0 hd
    have e5 : a1.tmps[5]?.getD undef = .string (bs bp) := hev0 5 rfl
    clear hev hev0 hd
    go_wp2
    exact StepQ.mk _ (Below.refl _ _) rfl
  · intro x a1 w1 hbx hev hev0 hd
    have e3 : a1.tmps[3]?.getD undef = .pointer (some ⟨w.heap.size + 1, 0, none⟩) := hev0 3 rfl
    clear hev hev0 hd
    have hs1 := zh (HS6.out.call hbx)
    have y0 := hs1.out.cell 1 rfl 0 rfl
    have y1 := hs1.out.cell 1 rfl 1 rfl
    have y2 := hs1.out.cell 1 rfl 2 rfl
    go_wp2
    exact StepQ.mk _ (Below.refl _ _) rfl
  · intro x a1 w1 hbx hev hev0 hd
    have e22 := hev 1 _ 22 rfl rfl
    have d1 : x 1 = .agg #[.bool nq, .string (bs bq), .string (bs dq)] := hd ⟨1, .data⟩ (by simp) rfl
    rw [d1] at e22
    clear d1
    clear hev hev0 hd
    go_wp2_with fail
    refine (DQ.out _).mono ?_
    rintro e w8 ⟨rfl, hb8⟩
    go_wp2
    exact StepQ.mk _ hb8 rfl
  · intro x a1 w1 hbx hev hev0 hd
    have e21 := hev 0 _ 21 rfl rfl
    have d0 : x 0 = .string (bs bp) := hd ⟨0, .data⟩ (by simp) rfl
    rw [d0] at e21
    clear d0
    have e23 := hev 2 _ 23 rfl rfl
    have d2 : x 2 = .string (bs eq) := hd ⟨2, .data⟩ (by simp) rfl
    rw [d2] at e23
    clear d2
    clear hev hev0 hd
    go_wp2_with fail
    refine (MX.out _).mono ?_
    rintro e w8 ⟨rfl, hb8⟩
    go_wp2
    exact StepQ.mk _ hb8 rfl
  · intro x a1 w1 hbx hev hev0 hd
    have e6 : a1.tmps[6]?.getD undef = .string (bs bq) := hev0 6 rfl
    clear hev hev0 hd
    go_wp2
    exact StepQ.mk _ (Below.refl _ _) rfl
  · intro x a1 w1 hbx hev hev0 hd
    have e2 : a1.tmps[2]?.getD undef = .pointer (some ⟨w.heap.size, 0, none⟩) := hev0 2 rfl
    clear hev hev0 hd
    have hs1 := zh (HS6.out.call hbx)
    have y0 := hs1.out.cell 2 rfl 0 rfl
    have y1 := hs1.out.cell 2 rfl 1 rfl
    have y2 := hs1.out.cell 2 rfl 2 rfl
    go_wp2
    exact StepQ.mk _ (Below.refl _ _) rfl
  · intro x a1 w1 hbx hev hev0 hd
    have e26 := hev 5 _ 26 rfl rfl
    have d5 : x 5 = .agg #[.bool np, .string (bs bp), .string (bs dp)] := hd ⟨5, .data⟩ (by simp) rfl
    rw [d5] at e26
    clear d5
    clear hev hev0 hd
    go_wp2_with fail
    refine (DP.out _).mono ?_
    rintro e w8 ⟨rfl, hb8⟩
    go_wp2
    exact StepQ.mk _ hb8 rfl
  · intro x a1 w1 hbx hev hev0 hd
    have e25 := hev 4 _ 25 rfl rfl
    have d4 : x 4 = .string (bs bq) := hd ⟨4, .data⟩ (by simp) rfl
    rw [d4] at e25
    clear d4
    have e27 := hev 6 _ 27 rfl rfl
    have d6 : x 6 = .string (bs ep) := hd ⟨6, .data⟩ (by simp) rfl
    rw [d6] at e27
    clear d6
    clear hev hev0 hd
    go_wp2_with fail
    refine (MY.out _).mono ?_
    rintro e w8 ⟨rfl, hb8⟩
    go_wp2
    exact StepQ.mk _ hb8 rfl
  intro x w7 hb9 hv
  have hv0 : x 0 = .string (bs bp) := hv 0 (by decide)
  have hv1 : x 1 = .agg #[.bool nq, .string (bs bq), .string (bs dq)] := hv 1 (by decide)
  have hv2 : x 2 = .string (bs eq) := hv 2 (by decide)
  have hv3 : x 3 = .string (bs ex) := hv 3 (by decide)
  have hv4 : x 4 = .string (bs bq) := hv 4 (by decide)
  have hv5 : x 5 = .agg #[.bool np, .string (bs bp), .string (bs dp)] := hv 5 (by decide)
  have hv6 : x 6 = .string (bs ep) := hv 6 (by decide)
  have hv7 : x 7 = .string (bs ey) := hv 7 (by decide)
  clear hv
  simp only [List.take, List.drop, a0j, Act.put]
  simp only [hv0, hv1, hv2, hv3, hv4, hv5, hv6, hv7]
  clear hv0 hv1 hv2 hv3 hv4 hv5 hv6 hv7
  have HS7 := zh (HS6.out.call hb9)
  clear hb9 HS6
  go_wp2
  refine a0d 5 [fun _ v => v = .agg #[.bool np, .string (bs bp), .string (bs dp)], fun _ v => v = .string (bs ep), fun _ v => v = .agg #[.bool nq, .string (bs bq), .string (bs dq)], fun _ v => v = .string (bs eq), fun _ v => v = .string (bs ed)] rfl (by kernel_rfl) (by kernel_rfl) (by kernel_rfl) ⟨fun _ _ _ h _ => h, fun _ _ _ h _ => h, fun _ _ _ h _ => h, fun _ _ _ h _ => h, fun _ _ _ h _ => h, trivial⟩ ?_ ?_
  refine ⟨?_, ?_, ?_, ?_, ?_, trivial⟩
  · intro x a1 w1 hbx hev hev0 hd
    have e2 : a1.tmps[2]?.getD undef = .pointer (some ⟨w.heap.size, 0, none⟩) := hev0 2 rfl
    clear hev hev0 hd
    have hs1 := zh (HS7.out.call hbx)
    have y0 := hs1.out.cell 2 rfl 0 rfl
    have y1 := hs1.out.cell 2 rfl 1 rfl
    have y2 := hs1.out.cell 2 rfl 2 rfl
    go_wp2
    exact StepQ.mk _ (Below.refl _ _) rfl
  · intro x a1 w1 hbx hev hev0 hd
    have e29 := hev 0 _ 29 rfl rfl
    have d0 : x 0 = .agg #[.bool np, .string (bs bp), .string (bs dp)] := hd ⟨0, .data⟩ (by simp) rfl
    rw [d0] at e29
    clear d0
    clear hev hev0 hd
    go_wp2_with fail
    refine (DP.out _).mono ?_
    rintro e w8 ⟨rfl, hb8⟩
    go_wp2
    exact StepQ.mk _ hb8 rfl
  · intro x a1 w1 hbx hev hev0 hd
    have e3 : a1.tmps[3]?.getD undef = .pointer (some ⟨w.heap.size + 1, 0, none⟩) := hev0 3 rfl
    clear hev hev0 hd
    have hs1 := zh (HS7.out.call hbx)
    have y0 := hs1.out.cell 1 rfl 0 rfl
    have y1 := hs1.out.cell 1 rfl 1 rfl
    have y2 := hs1.out.cell 1 rfl 2 rfl
    go_wp2
    exact StepQ.mk _ (Below.refl _ _) rfl
  · intro x a1 w1 hbx hev hev0 hd
    have e31 := hev 2 _ 31 rfl rfl
    have d2 : x 2 = .agg #[.bool nq, .string (bs bq), .string (bs dq)] := hd ⟨2, .data⟩ (by simp) rfl
    rw [d2] at e31
    clear d2
    clear hev hev0 hd
    go_wp2_with fail
    refine (DQ.out _).mono ?_
    rintro e w8 ⟨rfl, hb8⟩
    go_wp2
    exact StepQ.mk _ hb8 rfl
  · intro x a1 w1 hbx hev hev0 hd
    have e30 := hev 1 _ 30 rfl rfl
    have d1 : x 1 = .string (bs ep) := hd ⟨1, .data⟩ (by simp) rfl
    rw [d1] at e30
    clear d1
    have e32 := hev 3 _ 32 rfl rfl
    have d3 : x 3 = .string (bs eq) := hd ⟨3, .data⟩ (by simp) rfl
    rw [d3] at e32
    clear d3
    clear hev hev0 hd
    go_wp2_with fail
    refine (MD.out _).mono ?_
    rintro e w8 ⟨rfl, hb8⟩
    go_wp2
    exact StepQ.mk _ hb8 rfl
  intro x w8 hb9 hv
  have hv0 : x 0 = .agg #[.bool np, .string (bs bp), .string (bs dp)] := hv 0 (by decide)
  have hv1 : x 1 = .string (bs ep) := hv 1 (by decide)
  have hv2 : x 2 = .agg #[.bool nq, .string (bs bq), .string (bs dq)] := hv 2 (by decide)
  have hv3 : x 3 = .string (bs eq) := hv 3 (by decide)
  have hv4 : x 4 = .string (bs ed) := hv 4 (by decide)
  clear hv
  simp only [List.take, List.drop, a0j, Act.put]
  simp only [hv0, hv1, hv2, hv3, hv4]
  clear hv0 hv1 hv2 hv3 hv4
  have HS8 := zh (HS7.out.call hb9)
  clear hb9 HS7
  have x3 := HS8.out.cell 2 rfl 0 rfl
  have x4 := HS8.out.cell 1 rfl 0 rfl
  go_wp2_with fail
  refine (SX.out _).mono ?_
  rintro e w9 ⟨rfl, hb9⟩
  have HS9 := zh (HS8.out.call hb9)
  clear hb9 HS8
  clear x3 x4
  have x5 := HS9.out.cell 2 rfl 0 rfl
  go_wp2_with fail
  refine (RD.out _).mono ?_
  rintro e w10 ⟨rfl, hb10⟩
  have HS10 := zh (HS9.out.call hb10)
  clear hb10 HS9
  clear x5
  have x6 := HS10.out.cell 0 rfl 0 rfl
  have x7 := HS10.out.cell 0 rfl 1 rfl
  have x8 := HS10.out.cell 0 rfl 2 rfl
  have x9 := HS10.out.frozen 0 rfl 0
  have x10 := HS10.out.frozen 0 rfl 1
  have x11 := HS10.out.frozen 0 rfl 2
  have x12 := HS10.out.ne 0 1 rfl rfl (by decide)
  have x13 := HS10.out.ne 1 0 rfl rfl (by decide)
  have x14 := HS10.out.ne 0 2 rfl rfl (by decide)
  have x15 := HS10.out.ne 2 0 rfl rfl (by decide)
  go_wp2
  have HS11 : Hid (St w [⟨w.heap.size + 1 + 1, #[.bool nr, .string (bs br), .string (bs dr)], 51⟩, ⟨w.heap.size + 1, #[.bool nq, .string (bs bq), .string (bs dq)], 51⟩, ⟨w.heap.size, #[.bool np, .string (bs bp), .string (bs dp)], 51⟩] _) := zh (St.set ((St.set ((St.set (HS10.out) 0 rfl 0 _)) 0 rfl 1 _)) 0 rfl 2 _)
  exact bodyPost_ret (a1c rfl _ _ _ _ _ _ rfl (HS11.out.blk 0 rfl)) rfl ⟨rfl, HS11.out.below⟩

set_option maxRecDepth 100000 in
set_option maxHeartbeats 4000000 in
theorem b1j (p q : Rat) (w : World) (sp : Sized 17179869184 p) (sq : Sized 17179869184 q) (hd : p.den ≠ q.den) (hs : negB p ≠ negB q) (hl : p.num.natAbs * q.den < q.num.natAbs * p.den) :
    Calls Tryz.prog 59 #[rat p, rat q] w fun e w' => e = .returned (rat (p + q)) /\ Below w.heap.size w w' := by
  obtain ⟨x, hx⟩ : ∃ x, x = p.num.natAbs * q.den := ⟨_, rfl⟩
  obtain ⟨y, hy⟩ : ∃ y, y = q.num.natAbs * p.den := ⟨_, rfl⟩
  obtain ⟨d, hdd⟩ : ∃ d, d = p.den * q.den := ⟨_, rfl⟩
  have hd0 : d ≠ 0 := by rw [hdd]; exact Nat.mul_ne_zero p.den_nz q.den_nz
  have lx : (bytesOf x).length <= 34359738368 := by rw [hx]; exact a2a sp.1 sq.2
  have ly : (bytesOf y).length <= 34359738368 := by rw [hy]; exact a2a sq.1 sp.2
  have ld : (bytesOf d).length <= 34359738368 := by rw [hdd]; exact a2a sp.2 sq.2
  have hr : mkRat (signed (negB q) (y - x)) d = p + q := by
    rw [hdd, a9p hs (by rw [hx, hy]; exact Nat.le_of_lt hl), hx, hy]
    exact b3u p q
  have lz : (bytesOf (y - x)).length <= 34359738369 := Nat.le_trans (a2y (Nat.sub_le _ _) ly) (by decide)
  have rd := fun W => a1q (negB q) (bytesOf (y - x)) (bytesOf d) W (by omega) (by omega) (by rw [a0a]; exact hd0)
  rw [a0a, a0a, hr] at rd
  have sx := fun W => a8j (bytesOf x) (bytesOf y) W (by omega) (by omega) (by rw [a0a, a0a, hx, hy]; exact hl)
  have sy := fun W => b3c (bytesOf y) (bytesOf x) W (by omega) (by omega) (by rw [a0a, a0a, hx, hy]; exact Nat.le_of_lt hl)
  rw [a0a, a0a] at sy
  have dp := fun W => a0s p W
  have dq := fun W => a0s q W
  have lp := sp.num
  have lq := sq.num
  have lpd := sp.2
  have lqd := sq.2
  have mx := fun W => a4w (numB p) (bytesOf q.den) W (by omega) (by omega)
  have my := fun W => a4w (numB q) (bytesOf p.den) W (by omega) (by omega)
  have md := fun W => a4w (bytesOf p.den) (bytesOf q.den) W (by omega) (by omega)
  rw [a6b, a0a, <- hx] at mx
  rw [a6b, a0a, <- hy] at my
  rw [a0a, a0a, <- hdd] at md
  have ft : ((bs (a0p p)).toList == (bs (a0p q)).toList) = false := a3z (mt denom_same.1 hd)
  have fs : (negB p == negB q) = false := by simpa using hs
  unfold rat raw at *
  clear hx hy hdd hd0 hr lx ly ld lz sp sq hd hs lp lq lpd lqd hl
  generalize p + q = r at *
  generalize negB p = np at *
  generalize numB p = bp at *
  generalize a0p p = dp at *
  generalize negB q = nq at *
  generalize numB q = bq at *
  generalize a0p q = dq at *
  generalize negB r = nr at *
  generalize numB r = br at *
  generalize a0p r = dr at *
  generalize bytesOf (y - x) = es at *
  generalize bytesOf x = ex at *
  generalize bytesOf y = ey at *
  generalize bytesOf d = ed at *
  generalize bytesOf p.den = ep at *
  generalize bytesOf q.den = eq at *
  have RD := zh rd
  have SX := zh sx
  have DP := zh dp
  clear rd sx dp
  have SY := zh sy
  clear sy
  have DQ := zh dq
  have MX := zh mx
  have MY := zh my
  have MD := zh md
  clear dq mx my md
  go_enter Tryz.func59, Tryz.ntmps59
  have HS := zh (St.start w)
  go_wp2
  have HS2 : Hid (St w [⟨w.heap.size + 1 + 1, #[.bool false, .string (bs []), .string (bs [])], 51⟩, ⟨w.heap.size + 1, #[.bool nq, .string (bs bq), .string (bs dq)], 51⟩, ⟨w.heap.size, #[.bool np, .string (bs bp), .string (bs dp)], 51⟩] _) := zh (St.alloc ((St.alloc ((St.alloc (HS.out) _ _ _ (by simp))) _ _ _ (by simp))) _ _ _ (by simp))
  clear HS
  refine a0d 6 [fun _ v => v = .pointer (some ⟨w.heap.size, 1, none⟩), fun _ v => v = .string (bs bp), fun _ v => v = .pointer (some ⟨w.heap.size + 1, 1, none⟩), fun _ v => v = .string (bs bq), fun _ v => v = .string (bs bp), fun _ v => v = .string (bs bq)] rfl (by kernel_rfl) (by kernel_rfl) (by kernel_rfl) ⟨fun _ _ _ h _ => h, fun _ _ _ h _ => h, fun _ _ _ h _ => h, fun _ _ _ h _ => h, fun _ _ _ h _ => h, fun _ _ _ h _ => h, trivial⟩ ?_ ?_
  refine ⟨?_, ?_, ?_, ?_, ?_, ?_, trivial⟩
  · intro x a1 w1 hbx hev hev0 hd
    have e2 : a1.tmps[2]?.getD undef = .pointer (some ⟨w.heap.size, 0, none⟩) := hev0 2 rfl
    clear hev hev0 hd
    go_wp2
    exact StepQ.mk _ (Below.refl _ _) rfl
  · intro x a1 w1 hbx hev hev0 hd
    have e12 := hev 0 _ 12 rfl rfl
    have d0 : x 0 = .pointer (some ⟨w.heap.size, 1, none⟩) := hd ⟨0, .data⟩ (by simp) rfl
    rw [d0] at e12
    clear d0
    clear hev hev0 hd
    have hs1 := zh (HS2.out.call hbx)
    have y0 := hs1.out.cell 2 rfl 1 rfl
    go_wp2
    exact StepQ.mk _ (Below.refl _ _) rfl
  · intro x a1 w1 hbx hev hev0 hd
    have e3 : a1.tmps[3]?.getD undef = .pointer (some ⟨w.heap.size + 1, 0, none⟩) := hev0 3 rfl
    clear hev hev0 hd
    go_wp2
    exact StepQ.mk _ (Below.refl _ _) rfl
  · intro x a1 w1 hbx hev hev0 hd
    have e14 := hev 2 _ 14 rfl rfl
    have d2 : x 2 = .pointer (some ⟨w.heap.size + 1, 1, none⟩) := hd ⟨2, .data⟩ (by simp) rfl
    rw [d2] at e14
    clear d2
    clear hev hev0 hd
    have hs1 := zh (HS2.out.call hbx)
    have y0 := hs1.out.cell 1 rfl 1 rfl
    go_wp2
    exact StepQ.mk _ (Below.refl _ _) rfl
  · intro x a1 w1 hbx hev hev0 hd
    have e13 := hev 1 _ 13 rfl rfl
    have d1 : x 1 = .string (bs bp) := hd ⟨1, .data⟩ (by simp) rfl
    rw [d1] at e13
    clear d1
    clear hev hev0 hd
    go_wp2
    exact StepQ.mk _ (Below.refl _ _) rfl
  · intro x a1 w1 hbx hev hev0 hd
    have e15 := hev 3 _ 15 rfl rfl
    have d3 : x 3 = .string (bs bq) := hd ⟨3, .data⟩ (by simp) rfl
    rw [d3] at e15
    clear d3
    clear hev hev0 hd
    go_wp2
    exact StepQ.mk _ (Below.refl _ _) rfl
  intro x w6 hb9 hv
  have hv0 : x 0 = .pointer (some ⟨w.heap.size, 1, none⟩) := hv 0 (by decide)
  have hv1 : x 1 = .string (bs bp) := hv 1 (by decide)
  have hv2 : x 2 = .pointer (some ⟨w.heap.size + 1, 1, none⟩) := hv 2 (by decide)
  have hv3 : x 3 = .string (bs bq) := hv 3 (by decide)
  have hv4 : x 4 = .string (bs bp) := hv 4 (by decide)
  have hv5 : x 5 = .string (bs bq) := hv 5 (by decide)
  clear hv
  simp only [List.take, List.drop, a0j, Act.put]
  simp only [hv0, hv1, hv2, hv3, hv4, hv5]
  clear hv0 hv1 hv2 hv3 hv4 hv5
  have HS6 := zh (HS2.out.call hb9)
  clear hb9 HS2
  have x1 := HS6.out.cell 2 rfl 2 rfl
  have x2 := HS6.out.cell 1 rfl 2 rfl
  go_wp2
  clear x1 x2
  refine a0d 8 [fun _ v => v = .string (bs bp), fun _ v => v = .agg #[.bool nq, .string (bs bq), .string (bs dq)], fun _ v => v = .string (bs eq), fun _ v => v = .string (bs ex), fun _ v => v = .string (bs bq), fun _ v => v = .agg #[.bool np, .string (bs bp), .string (bs dp)], fun _ v => v = .string (bs ep), fun _ v => v = .string (bs ey)] rfl (by kernel_rfl) (by kernel_rfl) (by kernel_rfl) ⟨fun _ _ _ h _ => h, fun _ _ _ h _ => h, fun _ _ _ h _ => h, fun _ _ _ h _ => h, fun _ _ _ h _ => h, fun _ _ _ h _ => h, fun _ _ _ h _ => h, fun _ _ _ h _ => h, trivial⟩ ?_ ?_
  refine ⟨?_, ?_, ?_, ?_, ?_, ?_, ?_, ?_, trivial⟩
  · intro x a1 w1 hbx hev hev0 hd
    have e5 : a1.tmps[5]?.getD undef = .string (bs bp) := hev0 5 rfl
    clear hev hev0 hd
    go_wp2
    exact StepQ.mk _ (Below.refl _ _) rfl
  · intro x a1 w1 hbx hev hev0 hd
    have e3 : a1.tmps[3]?.getD undef = .pointer (some ⟨w.heap.size + 1, 0, none⟩) := hev0 3 rfl
    clear hev hev0 hd
    have hs1 := zh (HS6.out.call hbx)
    have y0 := hs1.out.cell 1 rfl 0 rfl
    have y1 := hs1.out.cell 1 rfl 1 rfl
    have y2 := hs1.out.cell 1 rfl 2 rfl
    go_wp2
    exact StepQ.mk _ (Below.refl _ _) rfl
  · intro x a1 w1 hbx hev hev0 hd
    have e22 := hev 1 _ 22 rfl rfl
    have d1 : x 1 = .agg #[.bool nq, .string (bs bq), .string (bs dq)] := hd ⟨1, .data⟩ (by simp) rfl
    rw [d1] at e22
    clear d1
    clear hev hev0 hd
    go_wp2_with fail
    refine (DQ.out _).mono ?_
    rintro e w8 ⟨rfl, hb8⟩
    go_wp2
    exact StepQ.mk _ hb8 rfl
  · intro x a1 w1 hbx hev hev0 hd
    have e21 := hev 0 _ 21 rfl rfl
    have d0 : x 0 = .string (bs bp) := hd ⟨0, .data⟩ (by simp) rfl
    rw [d0] at e21
    clear d0
    have e23 := hev 2 _ 23 rfl rfl
    have d2 : x 2 = .string (bs eq) := hd ⟨2, .data⟩ (by simp) rfl
    rw [d2] at e23
    clear d2
    clear hev hev0 hd
    go_wp2_with fail
    refine (MX.out _).mono ?_
    rintro e w8 ⟨rfl, hb8⟩
    go_wp2
    exact StepQ.mk _ hb8 rfl
  · intro x a1 w1 hbx hev hev0 hd
    have e6 : a1.tmps[6]?.getD undef = .string (bs bq) := hev0 6 rfl
    clear hev hev0 hd
    go_wp2
    exact StepQ.mk _ (Below.refl _ _) rfl
  · intro x a1 w1 hbx hev hev0 hd
    have e2 : a1.tmps[2]?.getD undef = .pointer (some ⟨w.heap.size, 0, none⟩) := hev0 2 rfl
    clear hev hev0 hd
    have hs1 := zh (HS6.out.call hbx)
    have y0 := hs1.out.cell 2 rfl 0 rfl
    have y1 := hs1.out.cell 2 rfl 1 rfl
    have y2 := hs1.out.cell 2 rfl 2 rfl
    go_wp2
    exact StepQ.mk _ (Below.refl _ _) rfl
  · intro x a1 w1 hbx hev hev0 hd
    have e26 := hev 5 _ 26 rfl rfl
    have d5 : x 5 = .agg #[.bool np, .string (bs bp), .string (bs dp)] := hd ⟨5, .data⟩ (by simp) rfl
    rw [d5] at e26
    clear d5
    clear hev hev0 hd
    go_wp2_with fail
    refine (DP.out _).mono ?_
    rintro e w8 ⟨rfl, hb8⟩
    go_wp2
    exact StepQ.mk _ hb8 rfl
  · intro x a1 w1 hbx hev hev0 hd
    have e25 := hev 4 _ 25 rfl rfl
    have d4 : x 4 = .string (bs bq) := hd ⟨4, .data⟩ (by simp) rfl
    rw [d4] at e25
    clear d4
    have e27 := hev 6 _ 27 rfl rfl
    have d6 : x 6 = .string (bs ep) := hd ⟨6, .data⟩ (by simp) rfl
    rw [d6] at e27
    clear d6
    clear hev hev0 hd
    go_wp2_with fail
    refine (MY.out _).mono ?_
    rintro e w8 ⟨rfl, hb8⟩
    go_wp2
    exact StepQ.mk _ hb8 rfl
  intro x w7 hb9 hv
  have hv0 : x 0 = .string (bs bp) := hv 0 (by decide)
  have hv1 : x 1 = .agg #[.bool nq, .string (bs bq), .string (bs dq)] := hv 1 (by decide)
  have hv2 : x 2 = .string (bs eq) := hv 2 (by decide)
  have hv3 : x 3 = .string (bs ex) := hv 3 (by decide)
  have hv4 : x 4 = .string (bs bq) := hv 4 (by decide)
  have hv5 : x 5 = .agg #[.bool np, .string (bs bp), .string (bs dp)] := hv 5 (by decide)
  have hv6 : x 6 = .string (bs ep) := hv 6 (by decide)
  have hv7 : x 7 = .string (bs ey) := hv 7 (by decide)
  clear hv
  simp only [List.take, List.drop, a0j, Act.put]
  simp only [hv0, hv1, hv2, hv3, hv4, hv5, hv6, hv7]
  clear hv0 hv1 hv2 hv3 hv4 hv5 hv6 hv7
  have HS7 := zh (HS6.out.call hb9)
  clear hb9 HS6
  go_wp2
  refine a0d 5 [fun _ v => v = .agg #[.bool np, .string (bs bp), .string (bs dp)], fun _ v => v = .string (bs ep), fun _ v => v = .agg #[.bool nq, .string (bs bq), .string (bs dq)], fun _ v => v = .string (bs eq), fun _ v => v = .string (bs ed)] rfl (by kernel_rfl) (by kernel_rfl) (by kernel_rfl) ⟨fun _ _ _ h _ => h, fun _ _ _ h _ => h, fun _ _ _ h _ => h, fun _ _ _ h _ => h, fun _ _ _ h _ => h, trivial⟩ ?_ ?_
  refine ⟨?_, ?_, ?_, ?_, ?_, trivial⟩
  · intro x a1 w1 hbx hev hev0 hd
    have e2 : a1.tmps[2]?.getD undef = .pointer (some ⟨w.heap.size, 0, none⟩) := hev0 2 rfl
    clear hev hev0 hd
    have hs1 := zh (HS7.out.call hbx)
    have y0 := hs1.out.cell 2 rfl 0 rfl
    have y1 := hs1.out.cell 2 rfl 1 rfl
    have y2 := hs1.out.cell 2 rfl 2 rfl
    go_wp2
    exact StepQ.mk _ (Below.refl _ _) rfl
  · intro x a1 w1 hbx hev hev0 hd
    have e29 := hev 0 _ 29 rfl rfl
    have d0 : x 0 = .agg #[.bool np, .string (bs bp), .string (bs dp)] := hd ⟨0, .data⟩ (by simp) rfl
    rw [d0] at e29
    clear d0
    clear hev hev0 hd
    go_wp2_with fail
    refine (DP.out _).mono ?_
    rintro e w8 ⟨rfl, hb8⟩
    go_wp2
    exact StepQ.mk _ hb8 rfl
  · intro x a1 w1 hbx hev hev0 hd
    have e3 : a1.tmps[3]?.getD undef = .pointer (some ⟨w.heap.size + 1, 0, none⟩) := hev0 3 rfl
    clear hev hev0 hd
    have hs1 := zh (HS7.out.call hbx)
    have y0 := hs1.out.cell 1 rfl 0 rfl
    have y1 := hs1.out.cell 1 rfl 1 rfl
    have y2 := hs1.out.cell 1 rfl 2 rfl
    go_wp2
    exact StepQ.mk _ (Below.refl _ _) rfl
  · intro x a1 w1 hbx hev hev0 hd
    have e31 := hev 2 _ 31 rfl rfl
    have d2 : x 2 = .agg #[.bool nq, .string (bs bq), .string (bs dq)] := hd ⟨2, .data⟩ (by simp) rfl
    rw [d2] at e31
    clear d2
    clear hev hev0 hd
    go_wp2_with fail
    refine (DQ.out _).mono ?_
    rintro e w8 ⟨rfl, hb8⟩
    go_wp2
    exact StepQ.mk _ hb8 rfl
  · intro x a1 w1 hbx hev hev0 hd
    have e30 := hev 1 _ 30 rfl rfl
    have d1 : x 1 = .string (bs ep) := hd ⟨1, .data⟩ (by simp) rfl
    rw [d1] at e30
    clear d1
    have e32 := hev 3 _ 32 rfl rfl
    have d3 : x 3 = .string (bs eq) := hd ⟨3, .data⟩ (by simp) rfl
    rw [d3] at e32
    clear d3
    clear hev hev0 hd
    go_wp2_with fail
    refine (MD.out _).mono ?_
    rintro e w8 ⟨rfl, hb8⟩
    go_wp2
    exact StepQ.mk _ hb8 rfl
  intro x w8 hb9 hv
  have hv0 : x 0 = .agg #[.bool np, .string (bs bp), .string (bs dp)] := hv 0 (by decide)
  have hv1 : x 1 = .string (bs ep) := hv 1 (by decide)
  have hv2 : x 2 = .agg #[.bool nq, .string (bs bq), .string (bs dq)] := hv 2 (by decide)
  have hv3 : x 3 = .string (bs eq) := hv 3 (by decide)
  have hv4 : x 4 = .string (bs ed) := hv 4 (by decide)
  clear hv
  simp only [List.take, List.drop, a0j, Act.put]
  simp only [hv0, hv1, hv2, hv3, hv4]
  clear hv0 hv1 hv2 hv3 hv4
  have HS8 := zh (HS7.out.call hb9)
  clear hb9 HS7
  have x3 := HS8.out.cell 2 rfl 0 rfl
  have x4 := HS8.out.cell 1 rfl 0 rfl
  go_wp2_with fail
  refine (SX.out _).mono ?_
  rintro e w9 ⟨rfl, hb9⟩
  have HS9 := zh (HS8.out.call hb9)
  clear hb9 HS8
  clear x3 x4
  go_wp2_with fail
  refine (SY.out _).mono ?_
  rintro e w10 ⟨rfl, hb10⟩
  have HS10 := zh (HS9.out.call hb10)
  clear hb10 HS9
  have x5 := HS10.out.cell 1 rfl 0 rfl
  go_wp2_with fail
  refine (RD.out _).mono ?_
  rintro e w11 ⟨rfl, hb11⟩
  have HS11 := zh (HS10.out.call hb11)
  clear hb11 HS10
  clear x5
  have x6 := HS11.out.cell 0 rfl 0 rfl
  have x7 := HS11.out.cell 0 rfl 1 rfl
  have x8 := HS11.out.cell 0 rfl 2 rfl
  have x9 := HS11.out.frozen 0 rfl 0
  have x10 := HS11.out.frozen 0 rfl 1
  have x11 := HS11.out.frozen 0 rfl 2
  have x12 := HS11.out.ne 0 1 rfl rfl (by decide)
  have x13 := HS11.out.ne 1 0 rfl rfl (by decide)
  have x14 := HS11.out.ne 0 2 rfl rfl (by decide)
  have x15 := HS11.out.ne 2 0 rfl rfl (by decide)
  go_wp2
  have HS12 : Hid (St w [⟨w.heap.size + 1 + 1, #[.bool nr, .string (bs br), .string (bs dr)], 51⟩, ⟨w.heap.size + 1, #[.bool nq, .string (bs bq), .string (bs dq)], 51⟩, ⟨w.heap.size, #[.bool np, .string (bs bp), .string (bs dp)], 51⟩] _) := zh (St.set ((St.set ((St.set (HS11.out) 0 rfl 0 _)) 0 rfl 1 _)) 0 rfl 2 _)
  exact bodyPost_ret (a1c rfl _ _ _ _ _ _ rfl (HS12.out.blk 0 rfl)) rfl ⟨rfl, HS12.out.below⟩

theorem b4m (p q : Rat) (w : World) (sp : Sized 17179869184 p) (sq : Sized 17179869184 q) :
    Calls Tryz.prog 59 #[rat p, rat q] w fun e w' => e = .returned (rat (p + q)) /\ Below w.heap.size w w' := by
  by_cases hd : p.den = q.den
  · by_cases hs : negB p = negB q
    · exact b1q p q w sp sq hd hs
    · by_cases hl : q.num.natAbs <= p.num.natAbs
      · exact b1p p q w sp sq hd hs hl
      · exact b1n p q w sp sq hd hs (by omega)
  · by_cases hs : negB p = negB q
    · exact b1m p q w sp sq hd hs
    · by_cases hl : q.num.natAbs * p.den <= p.num.natAbs * q.den
      · exact b1k p q w sp sq hd hs hl
      · exact b1j p q w sp sq hd hs (by omega)
end Go.Proofs.YtbkbiokgfoomfaaGreatDoor
