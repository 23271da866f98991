/-
Part 40 of the base.
-/
import Derived.Test.YtoighiepglclkaaGreatDoorKf39
import Derived.Test.YtoighiepglclkaaGreatDoorKf34
set_option maxRecDepth 100000
set_option maxHeartbeats 3000000
namespace Go.Proofs.YtoighiepglclkaaGreatDoor
open Go.RowKit
theorem c7m (p : Prf) (cut : Int) (v : Value) (qs : List Quo) (w : World) (hl : p.id.length <= 9223372036854775807 /\ p.code.length <= 9223372036854775807) (h : (p.aa.length <= 100 /\ p.ab.length <= 100) /\ p.ra.length <= 100 /\ p.rb.length <= 100) (hv : a3f w v qs) (hok : ∀ q ∈ qs, q.ok) (hq : ∀ q ∈ qs, q.num.length <= 100 /\ q.den.length <= 100) :
  Calls Tryz.prog 38 #[.agg (prfC p), .int .i64 cut, v] w fun e w' => e = .returned (.tuple #[rat (a0u p cut qs).1, .int .i64 (a0u p cut qs).2]) /\ Below w.heap.size w w' := by
 unfold prfC
 have hC := fun W => b5x p W ⟨hl.1, hl.2, ⟨by omega, by omega⟩, by omega, by omega⟩
 have hD := fun W => a3p cut W
 have hV := fun W (hb : Below w.heap.size w W) => c3r v qs p.an p.aa p.ab p.code eur cut W (hv.below hb) hok (fun q h => ⟨Nat.le_trans (hq q h).1 (by decide), Nat.le_trans (hq q h).2 (by decide)⟩) (by omega) (by omega)
 have hR := fun W => b0a p.rn p.ra p.rb W (by omega) (by omega)
 change ∀ W, Calls Tryz.prog _ _ W (fun e w' => e = .returned (.int .i64 (sgn p.rate.num)) /\ _) at hR
 change ∀ W, _ -> Calls Tryz.prog _ _ W (fun e w' => e = .returned (.tuple #[rat (a2m qs p.amount p.code eur cut).1, .int .i64 (a2m qs p.amount p.code eur cut).2]) /\ _) at hV
 have v1 := @c5h p cut qs
 have v2 := @va_cut p cut qs
 have v3 := @c8k p cut qs
 have v4 := @c8n p cut qs
 have v5 := @c8m p cut qs
 have v6 := @c8j p cut qs
 have hz := @a6e p
 have hcs := b1d (by decide) hq (show Sized 100 p.amount from a1f h.1.1 h.1.2 (by decide)) p.code eur cut
 have hcn : 0 <= p.amount -> 0 <= (a2m qs p.amount p.code eur cut).1 := b1e
 have hS := fun sl W (hs : a9x W sl [p.step]) => c7c (negB (a2m qs p.amount p.code eur cut).1) (numB (a2m qs p.amount p.code eur cut).1) (a0a (a2m qs p.amount p.code eur cut).1) sl [p.step] p.rf cut 365 W hs (fun s hs => by
  obtain rfl : s = p.step := by simpa using hs
  exact ⟨Nat.le_trans h.2.1 (by decide), Nat.le_trans h.2.2 (by decide)⟩) (Nat.le_trans hcs.num (by decide)) (Nat.le_trans hcs.denom (by decide))
 rw [a6y] at hS
 have hA := fun W (hs : Sized 8000 (a5z (a2m qs p.amount p.code eur cut).1 [p.step] p.rf cut 365).1) => c0f (a2m qs p.amount p.code eur cut).1 (a5z (a2m qs p.amount p.code eur cut).1 [p.step] p.rf cut 365).1 W (hcs.mono (by decide)) (hs.mono (by decide))
 have hsz := fun (h0 : 0 <= (a2m qs p.amount p.code eur cut).1) (z6 : dayB p.rf = true) (z5 : ¬ sgn p.rate.num < 0) (hd : dayB cut = true) (h5 : ¬ cut < p.rf) => c5p h0 z6 z5 hd h5
 have hs8 : dayB p.rf = true -> ¬ sgn p.rate.num < 0 -> dayB cut = true -> Sized 8000 (a5z (a2m qs p.amount p.code eur cut).1 [p.step] p.rf cut 365).1 := fun z6 z5 hd => by
  unfold a5z
  split
  ·exact sized_zero.mono (by decide)
  have d1 := a5n hd
  have d2 := a5n z6
  have := a7u (N := 100) (src := p.rf) (dst := cut) (base := 365) (a4h (a9s (s := p.step) z6 z5)) (by simp) (fun s hs => by
   obtain rfl : s = p.step := by simpa using hs
   exact a1f h.2.1 h.2.2 (by decide)) (by omega) (by omega) (by decide) (by omega)
  exact (hcs.mul this).mono (by decide)
 have ham : 0 <= sgn p.amount.num -> 0 <= p.amount := b2r
 generalize a1m p = n at *
 generalize a2m qs p.amount p.code eur cut = cv at *
 obtain ⟨cq, cn⟩ := cv
 dsimp only at *
 generalize a5z cq [p.step] p.rf cut 365 = sp at *
 obtain ⟨sq, sn⟩ := sp
 dsimp only at *
 generalize a0u p cut qs = ans at *
 generalize sgn p.rate.num = sr at *
 obtain ⟨dB, hdB⟩ : ∃ y, y = dayB cut := ⟨_, rfl⟩
 rw [<- hdB] at hD v2 v3 v4 v5 v6 hsz hs8
 unfold rat raw at hV hS hA
 unfold raw at hR
 have HCx := zh hC
 have HDx := zh hD
 have HVx := zh hV
 have HRx := zh hR
 have V1x := zh v1
 have V2x := zh v2
 have V3x := zh v3
 have V4x := zh v4
 have V5x := zh v5
 have V6x := zh v6
 have HZx := zh hz
 have HCSx := zh hcs
 have HCNx := zh hcn
 have HSx := zh hS
 have HAx := zh hA
 have HSZx := zh hsz
 have HS8x := zh hs8
 have HAMx := zh ham
 clear hC hD hV hR v1 v2 v3 v4 v5 v6 hz hcs hcn hS hA hsz hs8 ham hdB hl h hv hok hq
 by_cases h0 : n = 0
 subst h0
 cases dB
 have R := zh (V2x.out rfl rfl)
 rotate_left
 by_cases h2 : cut < p.inc
 have d2 : decide (cut < p.inc) = true := decide_eq_true h2
 have R := zh (V3x.out rfl rfl h2)
 clear h2
 rotate_left
 have d2 : decide (cut < p.inc) = false := decide_eq_false h2
 by_cases h3 : cn = 0
 subst h3
 by_cases h4 : sr = 0
 have z1 : (sr == 0) = true := by rw [beq_iff_eq]; exact h4
 have R := zh (V5x.out rfl rfl h2 rfl (.inl h4))
 clear h2 h4
 rotate_left
 have z1 : (sr == 0) = false := by rw [beq_eq_false_iff_ne]; exact h4
 by_cases h5 : cut < p.rf
 have d5 : decide (cut < p.rf) = true := decide_eq_true h5
 have R := zh (V5x.out rfl rfl h2 rfl (.inr h5))
 clear h2 h4 h5
 rotate_left
 have d5 : decide (cut < p.rf) = false := decide_eq_false h5
 have R := zh (V6x.out rfl rfl h2 rfl (fun k => k.elim h4 h5))
 obtain ⟨_, _, z3, _, z5, z6⟩ := HZx.out rfl
 have S8 := zh (HS8x.out z6 (by omega) rfl)
 obtain rfl : sn = 0 := HSZx.out (HCNx.out (HAMx.out z3)) z6 (by omega) rfl h5
 clear h2 h4 h5 z3 z5 z6
 rotate_left
 have q1 : (cn == 0) = false := by rw [beq_eq_false_iff_ne]; exact h3
 have q2 : (cn != 0) = true := by rw [bne, q1]; rfl
 have R := zh (V4x.out rfl rfl h2 h3)
 clear h2 h3
 rotate_left
 have q1 : (n == 0) = false := by rw [beq_eq_false_iff_ne]; exact h0
 have q2 : (n != 0) = true := by rw [bne, q1]; rfl
 have R := zh (V1x.out h0)
 clear h0
 rotate_left
 all_goals
   go_enter Tryz.func38, Tryz.ntmps38
   have HS := zh (St.start w)
   go_wp2_with fail
   have HS2 := aL (aL HS (prfC p) 42 w.heap.size) #[.bool false, .string (bs []), .string (bs [])] 40 (w.heap.size + 1)
   refine cL (HCx.out _) HS2 fun w3 HS3 => ?_
   clear HS HS2
 ·go_wp2_with fail
  refine (HDx.out _).mono ?_
  rintro e w' ⟨rfl, rfl⟩
  obtain ⟨x1, x2, x3⟩ := HS3.out.k0 0 rfl rfl rfl rfl
  obtain ⟨x4, x5, x6⟩ := HS3.out.f0 0 rfl
  have x7 := cN HS3 0 1
  have x8 := cN HS3 1 0
  go_wp2
  have HS4 : Hid (St w [⟨w.heap.size + 1, #[.bool false, .string (bs []), .string (bs [])], 40⟩, _] _) := zh (St.set (St.set (St.set (HS3.out) 0 rfl 0 _) 0 rfl 1 _) 0 rfl 2 _)
  refine bodyPost_ret (a0k rfl _ _ _ _ _ _ rfl (HS4.out.blk 0 rfl)) rfl ?_
  rw [R.out]
  dsimp only
  rw [a5w]
  exact ⟨rfl, HS4.out.below⟩
 ·go_wp2_with fail
  refine (HDx.out _).mono ?_
  rintro e w' ⟨rfl, rfl⟩
  have x1 := cC HS3 1 7
  obtain ⟨x2, x3, x4⟩ := HS3.out.k0 0 rfl rfl rfl rfl
  obtain ⟨x5, x6, x7⟩ := HS3.out.f0 0 rfl
  have x8 := cN HS3 0 1
  have x9 := cN HS3 1 0
  go_wp2
  have HS4 : Hid (St w [⟨w.heap.size + 1, #[.bool false, .string (bs []), .string (bs [])], 40⟩, _] _) := zh (St.set (St.set (St.set (HS3.out) 0 rfl 0 _) 0 rfl 1 _) 0 rfl 2 _)
  refine bodyPost_ret (a0k rfl _ _ _ _ _ _ rfl (HS4.out.blk 0 rfl)) rfl ?_
  rw [R.out]
  dsimp only
  rw [a5w]
  exact ⟨rfl, HS4.out.below⟩
 ·go_wp2_with fail
  refine (HDx.out _).mono ?_
  rintro e w' ⟨rfl, rfl⟩
  have x1 := cC HS3 1 7
  obtain ⟨x2, x3, x4⟩ := HS3.out.k4 1 rfl rfl rfl rfl
  have x5 := cC HS3 1 3
  go_wp2_with fail
  refine cL (HVx.out _ HS3.out.below) HS3 fun w4 HS4 => ?_
  clear HS3 x1 x2 x3 x4 x5
  have x6 := cC HS4 1 9
  have x7 := cC HS4 1 10
  have x8 := cC HS4 1 11
  have x9 := HS4.out.lt 1 rfl
  have x10 : ¬ w.heap.size = w4.heap.size := by omega
  have x11 : ¬ w4.heap.size = w.heap.size := by omega
  go_wp2_with fail
  have HS5 := aL HS4 #[.bool (negB (cq)), .string (bs (numB (cq))), .string (bs (a0a (cq)))] 40 w4.heap.size
  refine cL (HRx.out _) HS5 fun w6 HS6 => ?_
  clear HS4 HS5 x6 x7 x8 x9 x10 x11
  obtain ⟨x12, x13, x14⟩ := HS6.out.k0 0 rfl rfl rfl rfl
  obtain ⟨x15, x16, x17⟩ := HS6.out.k0 1 rfl rfl rfl rfl
  obtain ⟨x18, x19, x20⟩ := HS6.out.f0 1 rfl
  have x21 := cN HS6 1 0
  have x22 := cN HS6 0 1
  have x23 := cN HS6 1 2
  have x24 := cN HS6 2 1
  go_wp2
  have HS7 : Hid (St w [_, ⟨w.heap.size + 1, #[.bool (negB (cq)), .string (bs (numB (cq))), .string (bs (a0a (cq)))], 40⟩, _] _) := zh (St.set (St.set (St.set (HS6.out) 1 rfl 0 _) 1 rfl 1 _) 1 rfl 2 _)
  refine bodyPost_ret (a0k rfl _ _ _ _ _ _ rfl (HS7.out.blk 1 rfl)) rfl ?_
  rw [R.out]
  exact ⟨rfl, HS7.out.below⟩
 ·go_wp2_with fail
  refine (HDx.out _).mono ?_
  rintro e w' ⟨rfl, rfl⟩
  have x1 := cC HS3 1 7
  obtain ⟨x2, x3, x4⟩ := HS3.out.k4 1 rfl rfl rfl rfl
  have x5 := cC HS3 1 3
  go_wp2_with fail
  refine cL (HVx.out _ HS3.out.below) HS3 fun w4 HS4 => ?_
  clear HS3 x1 x2 x3 x4 x5
  have x6 := cC HS4 1 9
  have x7 := cC HS4 1 10
  have x8 := cC HS4 1 11
  have x9 := HS4.out.lt 1 rfl
  have x10 : ¬ w.heap.size = w4.heap.size := by omega
  have x11 : ¬ w4.heap.size = w.heap.size := by omega
  go_wp2_with fail
  have HS5 := aL HS4 #[.bool (negB (cq)), .string (bs (numB (cq))), .string (bs (a0a (cq)))] 40 w4.heap.size
  refine cL (HRx.out _) HS5 fun w6 HS6 => ?_
  clear HS4 HS5 x6 x7 x8 x9 x10 x11
  have x12 := cC HS6 2 12
  obtain ⟨x13, x14, x15⟩ := HS6.out.k0 0 rfl rfl rfl rfl
  obtain ⟨x16, x17, x18⟩ := HS6.out.k0 1 rfl rfl rfl rfl
  obtain ⟨x19, x20, x21⟩ := HS6.out.f0 1 rfl
  have x22 := cN HS6 1 0
  have x23 := cN HS6 0 1
  have x24 := cN HS6 1 2
  have x25 := cN HS6 2 1
  go_wp2
  have HS7 : Hid (St w [_, ⟨w.heap.size + 1, #[.bool (negB (cq)), .string (bs (numB (cq))), .string (bs (a0a (cq)))], 40⟩, _] _) := zh (St.set (St.set (St.set (HS6.out) 1 rfl 0 _) 1 rfl 1 _) 1 rfl 2 _)
  refine bodyPost_ret (a0k rfl _ _ _ _ _ _ rfl (HS7.out.blk 1 rfl)) rfl ?_
  rw [R.out]
  exact ⟨rfl, HS7.out.below⟩
 ·go_wp2_with fail
  refine (HDx.out _).mono ?_
  rintro e w' ⟨rfl, rfl⟩
  have x1 := cC HS3 1 7
  obtain ⟨x2, x3, x4⟩ := HS3.out.k4 1 rfl rfl rfl rfl
  have x5 := cC HS3 1 3
  go_wp2_with fail
  refine cL (HVx.out _ HS3.out.below) HS3 fun w4 HS4 => ?_
  clear HS3 x1 x2 x3 x4 x5
  have x6 := cC HS4 1 9
  have x7 := cC HS4 1 10
  have x8 := cC HS4 1 11
  have x9 := HS4.out.lt 1 rfl
  have x10 : ¬ w.heap.size = w4.heap.size := by omega
  have x11 : ¬ w4.heap.size = w.heap.size := by omega
  go_wp2_with fail
  have HS5 := aL HS4 #[.bool (negB (cq)), .string (bs (numB (cq))), .string (bs (a0a (cq)))] 40 w4.heap.size
  refine cL (HRx.out _) HS5 fun w6 HS6 => ?_
  clear HS4 HS5 x6 x7 x8 x9 x10 x11
  have x12 := cC HS6 2 12
  obtain ⟨x13, x14, x15⟩ := HS6.out.k0 0 rfl rfl rfl rfl
  have x16 := cC HS6 2 9
  have x17 := cC HS6 2 10
  have x18 := cC HS6 2 11
  have x19 := HS6.out.lt 2 rfl
  have x20 : ¬ w.heap.size = w6.heap.size := by omega
  have x21 : ¬ w6.heap.size = w.heap.size := by omega
  have x22 := HS6.out.lt 0 rfl
  have x23 : ¬ w4.heap.size = w6.heap.size := by omega
  have x24 : ¬ w6.heap.size = w4.heap.size := by omega
  go_wp2_with fail
  have HS7 := aL HS6 #[.int .i64 p.rf, .bool p.rn, .string (bs p.ra), .string (bs p.rb)] 99 w6.heap.size
  refine cL (HSx.out _ _ (Slc.of_blk c8t (HS7.out.blk 0 rfl) rfl rfl (by simp) (by decide))) HS7 fun w8 HS8 => ?_
  clear HS6 HS7 x12 x13 x14 x15 x16 x17 x18 x19 x20 x21 x22 x23 x24
  obtain ⟨x25, x26, x27⟩ := HS8.out.k0 1 rfl rfl rfl rfl
  have x28 := HS8.out.lt 1 rfl
  have x29 : ¬ w4.heap.size = w8.heap.size := by omega
  have x30 : ¬ w8.heap.size = w4.heap.size := by omega
  go_wp2_with fail
  have HS9 := aL HS8 #[.bool (negB (sq)), .string (bs (numB (sq))), .string (bs (a0a (sq)))] 40 w8.heap.size
  refine cL (HAx.out _ S8.out) HS9 fun w10 HS10 => ?_
  clear HS8 HS9 x25 x26 x27 x28 x29 x30
  obtain ⟨x31, x32, x33⟩ := HS10.out.k0 3 rfl rfl rfl rfl
  obtain ⟨x34, x35, x36⟩ := HS10.out.f0 3 rfl
  have x37 := cN HS10 3 0
  have x38 := cN HS10 0 3
  have x39 := cN HS10 3 1
  have x40 := cN HS10 1 3
  have x41 := cN HS10 3 2
  have x42 := cN HS10 2 3
  have x43 := cN HS10 3 4
  have x44 := cN HS10 4 3
  go_wp2
  have HS11 : Hid (St w [_, _, _, ⟨w.heap.size + 1, #[.bool (negB (cq + sq)), .string (bs (numB (cq + sq))), .string (bs (a0a (cq + sq)))], 40⟩, _] _) := zh (St.set (St.set (St.set (HS10.out) 3 rfl 0 _) 3 rfl 1 _) 3 rfl 2 _)
  refine bodyPost_ret (a0k rfl _ _ _ _ _ _ rfl (HS11.out.blk 3 rfl)) rfl ?_
  rw [R.out]
  exact ⟨rfl, HS11.out.below⟩
 ·go_wp2_with fail
  refine (HDx.out _).mono ?_
  rintro e w' ⟨rfl, rfl⟩
  have x1 := cC HS3 1 7
  obtain ⟨x2, x3, x4⟩ := HS3.out.k4 1 rfl rfl rfl rfl
  have x5 := cC HS3 1 3
  go_wp2_with fail
  refine cL (HVx.out _ HS3.out.below) HS3 fun w4 HS4 => ?_
  clear HS3 x1 x2 x3 x4 x5
  obtain ⟨x6, x7, x8⟩ := HS4.out.k0 0 rfl rfl rfl rfl
  obtain ⟨x9, x10, x11⟩ := HS4.out.f0 0 rfl
  have x12 := cN HS4 0 1
  have x13 := cN HS4 1 0
  have x14 := HS4.out.lt 0 rfl
  have x15 : ¬ w.heap.size + 1 = w4.heap.size := by omega
  have x16 : ¬ w4.heap.size = w.heap.size + 1 := by omega
  go_wp2
  have HS5 : Hid (St w [_, ⟨w.heap.size + 1, #[.bool false, .string (bs []), .string (bs [])], 40⟩, _] _) := zh (St.alloc (St.set (St.set (St.set (HS4.out) 0 rfl 0 _) 0 rfl 1 _) 0 rfl 2 _) #[.bool (negB (cq)), .string (bs (numB (cq))), .string (bs (a0a (cq)))] 40 (w4.heap.size) (by simp))
  refine bodyPost_ret (a0k rfl _ _ _ _ _ _ rfl (HS5.out.blk 1 rfl)) rfl ?_
  rw [R.out]
  dsimp only
  rw [a5w]
  exact ⟨rfl, HS5.out.below⟩
 obtain ⟨x1, x2, x3⟩ := HS3.out.k0 0 rfl rfl rfl rfl
 obtain ⟨x4, x5, x6⟩ := HS3.out.f0 0 rfl
 have x7 := cN HS3 0 1
 have x8 := cN HS3 1 0
 go_wp2
 have HS4 : Hid (St w [⟨w.heap.size + 1, #[.bool false, .string (bs []), .string (bs [])], 40⟩, _] _) := zh (St.set (St.set (St.set (HS3.out) 0 rfl 0 _) 0 rfl 1 _) 0 rfl 2 _)
 refine bodyPost_ret (a0k rfl _ _ _ _ _ _ rfl (HS4.out.blk 0 rfl)) rfl ?_
 rw [R.out]
 dsimp only
 rw [a5w]
 exact ⟨rfl, HS4.out.below⟩
theorem a9f (cut bar day : Int) (v : Value) (l : List Ent) (id : List UInt8) (w : World) (h : a5d w v l) :
  Calls Tryz.prog 25 #[.agg #[.int .i64 cut, .int .i64 bar, .int .i64 day, v], .string (bs id)] w fun e w' => e = .returned (.tuple #[.int .i64 (((a3k l id).getD 0 : Nat) : Int), .bool (a3k l id).isSome]) /\ Below w.heap.size w w' := by
 have H := zh h
 obtain ⟨A, c, rfl, hl, hc⟩ := h.slice
 have hno := @b9g l id
 have hat := fun k x => @c6r l id k x
 generalize a3k l id = fo at *
 have HNO := zh hno
 have HAT := zh hat
 clear h hno hat
 go_enter Tryz.func25, Tryz.ntmps25
 have HS := zh (St.start w)
 go_wp2
 go_loopw [6] (fun i wr => ∃ k : Nat, k <= l.length /\ i = .int .i64 k /\ Hid (∀ (j : Nat) t, j < k -> l[j]? = some t -> (t.p.id == id) = false) /\ Hid (St w [⟨w.heap.size, #[.int .i64 cut, .int .i64 bar, .int .i64 day, .slice A l.length c], 32⟩] wr)) (fun i _ => l.length - (intOf i).toNat)
 case atStart => exact ⟨0, Nat.zero_le _, rfl, fun j t hj => absurd hj (Nat.not_lt_zero _), (St.alloc (HS.out) #[.int .i64 cut, .int .i64 bar, .int .i64 day, .slice A l.length c] 32 (w.heap.size) (by simp))⟩
 case round =>
  obtain ⟨k, hk, rfl, HN, HS⟩ := hrel
  by_cases hlt : k < l.length
  ·obtain ⟨b, o, x, rfl, hbb, hq, hx⟩ := H.out.at_ hlt
   have HX := zh hx
   have HQ := zh hq
   have e0 : (0 : Int) <= ((k : Nat) : Int) := by omega
   have e1 : ((k : Nat) : Int) < (l.length : Int) := by omega
   have e2 : decide (((k : Nat) : Int) < (l.length : Int)) = true := decide_eq_true e1
   obtain ⟨q, hpq⟩ : ∃ q, q = (x.p.id == id) := ⟨_, rfl⟩
   have q2 : ((bs x.p.id).toList == (bs id).toList) = q := by rw [a1q, a1q]; exact hpq.symm
   have HPQ := zh hpq.symm
   clear hx hq hpq
   cases q
   ·have x1 := cC HS 0 3
    have x2 := HX.out _ HS.out.below 0 _ rfl
    rw [Nat.add_zero] at x2
    go_wp2
    have HS2 := zh HS.out
    go_roundw
    case rel => exact ⟨k + 1, by omega, by go_num, fun j u hj hu => (by
     rcases Nat.lt_or_ge j k with h1 | h1
     ·exact HN.out j u h1 hu
     obtain rfl : j = k := by omega
     have := HQ.out
     rw [hu] at this
     obtain rfl : u = x := Option.some.inj this
     exact HPQ.out), HS2.out.sub (by simp)⟩
    case measure => simp [intOf]; omega
   have x1 := cC HS 0 3
   have x2 := HX.out _ HS.out.below 0 _ rfl
   rw [Nat.add_zero] at x2
   go_wp2
   have HS2 := zh HS.out
   go_ret2
   rw [HAT.out k x HN.out HQ.out HPQ.out]
   exact ⟨rfl, HS2.out.below⟩
  obtain rfl : k = l.length := by omega
  have x1 := cC HS 0 3
  go_wp2
  have HS2 := zh HS.out
  go_ret2
  rw [HNO.out HN.out]
  exact ⟨rfl, HS2.out.below⟩
theorem b3q (r lo hi : Raw3) (w : World) (h1 : r.a.length <= 1000000 /\ r.b.length <= 1000000) (h2 : lo.a.length <= 1000000 /\ lo.b.length <= 1000000) (h3 : hi.a.length <= 1000000 /\ hi.b.length <= 1000000) :
  Calls Tryz.prog 40 #[raw r.n r.a r.b, raw lo.n lo.a lo.b, raw hi.n hi.a hi.b] w fun e w' => e = .returned (.bool (inB r.val lo.val hi.val)) /\ Below w.heap.size w w' := by
 have hA := fun W => b5t r.n r.a r.b lo.n lo.a lo.b W (by omega) (by omega) (by omega) (by omega)
 have hB := fun W => b5t r.n r.a r.b hi.n hi.a hi.b W (by omega) (by omega) (by omega) (by omega)
 change ∀ W, Calls Tryz.prog _ _ W (fun e w' => e = .returned (.int .i64 (sgn (r.val - lo.val).num)) /\ _) at hA
 change ∀ W, Calls Tryz.prog _ _ W (fun e w' => e = .returned (.int .i64 (sgn (r.val - hi.val).num)) /\ _) at hB
 have hd : inB r.val lo.val hi.val = (decide (0 <= sgn (r.val - lo.val).num) && decide (sgn (r.val - hi.val).num <= 0)) := rfl
 generalize inB r.val lo.val hi.val = ans at *
 generalize sgn (r.val - lo.val).num = s1 at *
 generalize sgn (r.val - hi.val).num = s2 at *
 unfold raw at *
 have HA := zh hA
 have HB := zh hB
 clear hA hB h1 h2 h3
 by_cases c1 : 0 <= s1
 have d1 : decide (0 <= s1) = true := decide_eq_true c1
 obtain ⟨q, hq⟩ : ∃ q, q = decide (s2 <= 0) := ⟨_, rfl⟩
 rw [d1, <- hq] at hd
 have R : Hid (ans = q) := hd
 have d2 := hq.symm
 clear hd hq c1
 rotate_left
 have d1 : decide (0 <= s1) = false := decide_eq_false c1
 rw [d1] at hd
 have R : Hid (ans = false) := hd
 clear hd c1
 rotate_left
 all_goals
   go_enter Tryz.func40, Tryz.ntmps40
   have HS := zh (St.start w)
   go_wp2_with fail
   have HS2 := aL (aL (aL HS #[.bool r.n, .string (bs r.a), .string (bs r.b)] 40 w.heap.size) #[.bool lo.n, .string (bs lo.a), .string (bs lo.b)] 40 (w.heap.size + 1)) #[.bool hi.n, .string (bs hi.a), .string (bs hi.b)] 40 (w.heap.size + 1 + 1)
   refine cL (HA.out _) HS2 fun w3 HS3 => ?_
   clear HS HS2
 ·obtain ⟨x1, x2, x3⟩ := HS3.out.k0 2 rfl rfl rfl rfl
  obtain ⟨x4, x5, x6⟩ := HS3.out.k0 0 rfl rfl rfl rfl
  go_wp2_with fail
  refine cL (HB.out _) HS3 fun w4 HS4 => ?_
  clear HS3 x1 x2 x3 x4 x5 x6
  go_wp2
  go_ret
  have HS5 := zh HS4.out
  rw [R.out]
  exact ⟨rfl, HS5.out.below⟩
 go_wp2
 go_ret
 have HS4 := zh HS3.out
 rw [R.out]
 exact ⟨rfl, HS4.out.below⟩
section
variable {P : Program}
theorem b5h (w : World) (t tx ty e : TypeId) (i : TypeInfo) (ht : P.underlying t = some (.slice e)) (hi : P.info? e = some i) (x : Value) (hs : Src P i.size tx x 0 [] w) :
  (Builtin.append_ #[t, tx] ty #[.slice none 0 0, x]).run P w = .ok (.slice none 0 0) w := by
 rcases hs.kind with ⟨e', hk⟩ | hk <;> simp [Builtin.append_, run_underlying ht, run_underlying hk, sizeOf, typeInfo, hi, hs.len, hs.cells]
theorem b5b (w : World) {ops : Array Oper} {rest : List Oper} {o : Oper} {a : Act} {Q : Exit -> Act -> World -> Prop} (hgd : o.guard = none) (s x : Operand) (t : TypeId)
  (ho : o.op = .call { callee := .builtin .append, args := #[s, x], argTypes := #[t, t] }) (e : TypeId) (i : TypeInfo) (ht : P.underlying t = some (.slice e)) (hi : P.info? e = some i)
  (hs : a.eval s = .slice none 0 0) (ad : Option Addr) (c : Nat) (hx : a.eval x = .slice ad 0 c)
  (h : wpList P ops Q rest (a.put o.dst (.slice none 0 0)) w) : wpList P ops Q (o :: rest) a w := by
 refine wpList_plain hgd fun K hK => ?_
 have hsr : Src P i.size t (.slice ad 0 c) 0 [] w := by
  cases ad with
  | none => exact Src.ofNil w ht c
  | some b => exact Src.ofSlice w ht b 0 c [] (by simp) (by simp) (by simp)
 have hr := b5h (P := P) w t t o.type e i ht hi (.slice ad 0 c) hsr
 unfold Oper.wp execOp
 simp only [ho, resolve, invoke, builtin, Sem.run_bind, Sem.run_pure, Result.andThen_ok, List.map_toArray, List.map_cons, List.map_nil, hs, hx, hr]
 exact hK _ _ h
end
theorem b8p {fn : Func} {p : Tmp} (h : fn.results = #[.cell p 32]) (tmps : Array Value) (w : World) (g : Nat) {a b c d : Value}
  (hp : tmps.getD p undef = .pointer (some ⟨g, 0, none⟩)) (hg : Blk w g #[a, b, c, d] 32) : (results fn tmps).run Tryz.prog w = .ok (.agg #[a, b, c, d]) w := by
 exact results_cell_row h tmps w g _ _ _ _ hp hg Tryz.underlying32 rfl c5u
theorem a8g (cut bar day : Int) (v : Value) (l : List Ent) (w : World) (h : a5d w v l) (hn : l.length <= 1000) (h0 : 0 < l.length) :
  Calls Tryz.prog 6 #[.agg #[.int .i64 cut, .int .i64 bar, .int .i64 day, v]] w fun e w' => ∃ g cap rs, e = .returned (.agg #[.int .i64 cut, .int .i64 bar, .int .i64 day, .slice (some ⟨g, 0, none⟩) l.length cap]) /\ w.heap.size <= g /\ Blk w' g (rowG Ent.enc l rs) 57 /\ l.length <= cap /\ cap <= maxLen /\ rs.length + l.length * 30 = cap * 30 /\ Below w.heap.size w w' := by
 obtain ⟨i0, hi0, hz0, hz1, hz2⟩ := info_parts a4g
 have HI := zh hi0
 have H := zh h
 have HNN := zh hn
 have H0 := zh h0
 obtain ⟨A, c, rfl, hl, hcc⟩ := h.slice
 clear h hi0 hn h0
 go_enter Tryz.func6, Tryz.ntmps6
 have HS := zh (St.start w)
 go_wp2_with (at_builtin; refine b2n _ rfl _ _ 30 rfl 57 i0 _ 30 352 Tryz.underlying30 HI.out hz0 hz1 hz2 a1g rfl none (by simp [Act.eval]) _ l (H.out.below (St.alloc ((St.alloc (HS.out) #[.int .i64 cut, .int .i64 bar, .int .i64 day, .slice A l.length c] 32 (w.heap.size) (by simp))) #[.int .i64 0, .int .i64 0, .int .i64 0, .slice none 0 0] 32 (w.heap.size + 1) (by simp)).below) (by simp [Act.eval]) H0.out (fun y _ => a9p y) (by have := HNN.out; unfold maxLen; omega) (by have := HNN.out; omega) ?_)
 intro cap rs w2 hc1 hc2 hc3 hB hb2
 have HS2 := zh (St.fill (g := w.heap.size + 1 + 1) ((St.alloc ((St.alloc (HS.out) #[.int .i64 cut, .int .i64 bar, .int .i64 day, .slice A l.length c] 32 (w.heap.size) (by simp))) #[.int .i64 0, .int .i64 0, .int .i64 0, .slice none 0 0] 32 (w.heap.size + 1) (by simp))) (by simpa using hb2) (by simp) hB)
 have HC1 := zh hc1
 have HC2 := zh hc2
 have HC3 := zh hc3
 clear HS hB hb2 hc1 hc2 hc3
 have HS2 : Hid (St w (⟨w.heap.size + 1 + 1, rowG Ent.enc l rs, 57⟩ :: [⟨w.heap.size + 1, #[.int .i64 0, .int .i64 0, .int .i64 0, .slice none 0 0], 32⟩, ⟨w.heap.size, #[.int .i64 cut, .int .i64 bar, .int .i64 day, .slice A l.length c], 32⟩]) w2) := HS2
 have x1 := cC HS2 2 3
 obtain ⟨x2, x3, x4⟩ := HS2.out.k0 2 rfl rfl rfl rfl
 obtain ⟨x5, x6, x7⟩ := HS2.out.k0 1 rfl rfl rfl rfl
 have x8 := cC HS2 1 3
 have x9 := cF HS2 2 3
 obtain ⟨x10, x11, x12⟩ := HS2.out.f0 1 rfl
 have x13 := cF HS2 1 3
 have x14 := cN HS2 2 0
 have x15 := cN HS2 0 2
 have x16 := cN HS2 2 1
 have x17 := cN HS2 1 2
 have x18 := cN HS2 1 0
 have x19 := cN HS2 0 1
 have x20 := cN HS2 1 2
 have x21 := cN HS2 2 1
 go_wp2
 have HP3 : Hid (St w [_, ⟨w.heap.size + 1, #[.int .i64 cut, .int .i64 bar, .int .i64 0, .slice none 0 0], 32⟩, ⟨w.heap.size, #[.int .i64 cut, .int .i64 bar, .int .i64 day, .slice (some ⟨w.heap.size + 1 + 1, 0, none⟩) l.length cap], 32⟩] _) := zh (St.set (St.set (St.set (HS2.out) 2 rfl 3 _) 1 rfl 0 _) 1 rfl 1 _)
 have HS2 : Hid (St w [_, ⟨w.heap.size + 1, #[.int .i64 cut, .int .i64 bar, .int .i64 day, .slice (some ⟨w.heap.size + 1 + 1, 0, none⟩) l.length cap], 32⟩, _] _) := zh (St.set (St.set (HP3.out) 1 rfl 2 _) 1 rfl 3 _)
 refine bodyPost_ret (b8p rfl _ _ _ rfl (HS2.out.blk 1 rfl)) rfl ?_
 exact ⟨w.heap.size + 1 + 1, cap, rs, rfl, by omega, HS2.out.blk 0 rfl, HC1.out, HC2.out, HC3.out, HS2.out.below⟩
theorem a9g (cut bar day : Int) (v : Value) (w : World) (h : a5d w v []) :
  Calls Tryz.prog 6 #[.agg #[.int .i64 cut, .int .i64 bar, .int .i64 day, v]] w fun e w' => e = .returned (.agg #[.int .i64 cut, .int .i64 bar, .int .i64 day, .slice none 0 0]) /\ Below w.heap.size w w' := by
 obtain ⟨i0, hi0, hz0, hz1, hz2⟩ := info_parts a4g
 have HI := zh hi0
 obtain ⟨A, c, rfl, hl, hcc⟩ := h.slice
 clear h hi0
 go_enter Tryz.func6, Tryz.ntmps6
 have HS := zh (St.start w)
 go_wp2_with (at_builtin; refine b5b _ rfl _ _ 30 rfl 57 i0 Tryz.underlying30 HI.out (by simp [Act.eval]) A c (by simp [Act.eval]) ?_)
 go_wp2
 have HS2 := aL (aL HS #[.int .i64 cut, .int .i64 bar, .int .i64 day, .slice none 0 0] 32 w.heap.size) #[.int .i64 cut, .int .i64 bar, .int .i64 day, .slice none 0 0] 32 (w.heap.size + 1)
 refine bodyPost_ret (b8p rfl _ _ _ rfl (HS2.out.blk 0 rfl)) rfl ?_
 exact ⟨rfl, HS2.out.below⟩
end Go.Proofs.YtoighiepglclkaaGreatDoor
