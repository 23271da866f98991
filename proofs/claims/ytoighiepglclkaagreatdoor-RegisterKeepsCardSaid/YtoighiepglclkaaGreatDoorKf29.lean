/-
Part 29 of the base.
-/
import Derived.Test.YtoighiepglclkaaGreatDoorKf28
set_option maxRecDepth 100000
set_option maxHeartbeats 3000000
namespace Go.Proofs.YtoighiepglclkaaGreatDoor
open Go.RowKit
theorem c5u : (Tryz.prog.info? 32).map (·.size) = some 4 := by kernel_rfl
theorem rgs_load {w : World} {g : Nat} {a b c d : Value} (h : Blk w g #[a, b, c, d] 32) : (loadVar 32 ⟨g, 0, none⟩).run Tryz.prog w = .ok (.agg #[a, b, c, d]) w :=
 run_loadVar_row w g _ _ _ _ _ h Tryz.underlying32 rfl c5u
theorem a0v {fn : Func} {p u : Tmp} (h : fn.results = #[.cell p 32, .tmp u]) (tmps : Array Value) (w : World) (g : Nat) {a b c d : Value}
  (hp : tmps.getD p undef = .pointer (some ⟨g, 0, none⟩)) (hg : Blk w g #[a, b, c, d] 32) : (results fn tmps).run Tryz.prog w = .ok (.tuple #[.agg #[a, b, c, d], tmps.getD u undef]) w := by
 rw [results_cell_tmp h, hp]
 simp only [asAddr, Sem.run_pure, Result.andThen, rgs_load hg]
theorem enc000r : negB (0 : Rat) = false /\ numB (0 : Rat) = [] /\ a0a (0 : Rat) = [] := by decide +kernel
theorem a5w : rat (0 : Rat) = raw false [] [] := by unfold rat raw; rw [enc000r.1, enc000r.2.1, enc000r.2.2]
theorem b3p (cut bar : Int) (w : World) :
  Calls Tryz.prog 14 #[.int .i64 cut, .int .i64 bar] w fun e w' => e = .returned (.tuple #[.agg #[.int .i64 (newR cut bar).1.cut, .int .i64 (newR cut bar).1.bar, .int .i64 (newR cut bar).1.day, .slice none 0 0], .int .i64 (newR cut bar).2]) /\ Below w.heap.size w w' := by
 have h1 := fun W => a5s cut W
 have h2 := fun W => a5s bar W
 have hd : newR cut bar = if dayB cut = false \/ dayB bar = false then (rgs0, 1) else (⟨cut, bar, 0, []⟩, 0) := rfl
 generalize newR cut bar = ans at *
 generalize dayB cut = xB at *
 generalize dayB bar = yB at *
 have H1 := zh h1
 have H2 := zh h2
 clear h1 h2
 cases xB
 have R := zh (hd.trans (if_pos (by simp)))
 clear hd
 rotate_left
 cases yB
 have R := zh (hd.trans (if_pos (by simp)))
 clear hd
 rotate_left
 have R := zh (hd.trans (if_neg (by simp)))
 clear hd
 rotate_left
 all_goals
   go_enter Tryz.func14, Tryz.ntmps14
   have HS := zh (St.start w)
   go_wp2_with fail
   refine (H1.out _).mono ?_
   rintro e w' ⟨rfl, rfl⟩
 ·go_wp2
  have HS2 := aL HS #[.int .i64 0, .int .i64 0, .int .i64 0, .slice none 0 0] 32 w.heap.size
  refine bodyPost_ret (a0v rfl _ _ _ rfl (HS2.out.blk 0 rfl)) rfl ?_
  rw [R.out]
  exact ⟨rfl, HS2.out.below⟩
 all_goals
   go_wp2_with fail
   refine (H2.out _).mono ?_
   rintro e w' ⟨rfl, rfl⟩
   go_wp2
 ·have HS2 := aL HS #[.int .i64 0, .int .i64 0, .int .i64 0, .slice none 0 0] 32 w.heap.size
  refine bodyPost_ret (a0v rfl _ _ _ rfl (HS2.out.blk 0 rfl)) rfl ?_
  rw [R.out]
  exact ⟨rfl, HS2.out.below⟩
 have HS2 := aL HS #[.int .i64 cut, .int .i64 bar, .int .i64 0, .slice none 0 0] 32 w.heap.size
 refine bodyPost_ret (a0v rfl _ _ _ rfl (HS2.out.blk 0 rfl)) rfl ?_
 rw [R.out]
 exact ⟨rfl, HS2.out.below⟩
theorem b0t {p : Prf} {cut : Int} {qs : List Quo} (h : (p.aa.length <= 100 /\ p.ab.length <= 100) /\ p.ra.length <= 100 /\ p.rb.length <= 100) (hq : ∀ q ∈ qs, q.num.length <= 100 /\ q.den.length <= 100) : Sized 10000 (a0u p cut qs).1 := by
 have ha : Sized 100 p.amount := a1f h.1.1 h.1.2 (by decide)
 have hr : Sized 100 p.rate := a1f h.2.1 h.2.2 (by decide)
 have hc := b1d (by decide) hq ha p.code eur cut
 unfold a0u
 split
 ·exact sized_zero.mono (by decide)
 rename_i h1
 split
 ·exact sized_zero.mono (by decide)
 rename_i h2
 split
 ·exact sized_zero.mono (by decide)
 split
 ·exact sized_zero.mono (by decide)
 split
 ·exact hc.mono (by decide)
 rename_i h5
 obtain ⟨_, _, z3, _, z5, z6⟩ := a6e (Classical.not_not.1 h1)
 have hck := a9s (s := p.step) z6 (show ¬ sgn p.rate.num < 0 by omega)
 have hs : Sized 8000 (a5z (a2m qs p.amount p.code eur cut).1 [p.step] p.rf cut 365).1 := by
  unfold a5z
  split
  ·exact sized_zero.mono (by decide)
  have hd : dayB cut = true := by cases hb : dayB cut <;> simp_all
  have d1 := a5n hd
  have d2 := a5n z6
  have := a7u (N := 100) (src := p.rf) (dst := cut) (base := 365) (a4h hck) (by simp) (fun s hs => by
   obtain rfl : s = p.step := by simpa using hs
   exact hr) (by omega) (by omega) (by decide) (by omega)
  exact (hc.mul this).mono (by decide)
 exact (hc.add hs).mono (by decide)
theorem b7f (p : Prf) (cut : Int) (v : Value) (qs : List Quo) (w : World) (hl : p.id.length <= 9223372036854775807 /\ p.code.length <= 9223372036854775807) (h : (p.aa.length <= 100 /\ p.ab.length <= 100) /\ p.ra.length <= 100 /\ p.rb.length <= 100) (hsec : -9223372036854775808 <= p.sec /\ p.sec <= 9223372036854775807) (hv : a3f w v qs) (hok : ∀ q ∈ qs, q.ok) (hq : ∀ q ∈ qs, q.num.length <= 100 /\ q.den.length <= 100) :
  Calls Tryz.prog 31 #[.agg (prfC p), .int .i64 cut, v] w fun e w' => e = .returned (.tuple #[rat (a0u p cut qs).1, .int .i64 (a0u p cut qs).2]) /\ Below w.heap.size w w' := by
 unfold prfC
 have hC := fun W => c4a p W ⟨hl.1, hl.2, ⟨by omega, by omega⟩, by omega, by omega⟩ hsec
 have hD := fun W => a5s cut W
 have hV := fun W (hb : Below w.heap.size w W) => b4r v qs p.an p.aa p.ab p.code eur cut W (hv.below hb) hok (fun q h => ⟨Nat.le_trans (hq q h).1 (by decide), Nat.le_trans (hq q h).2 (by decide)⟩) (by omega) (by omega)
 have hR := fun W => a4d p.rn p.ra p.rb W (by omega) (by omega)
 change ∀ W, Calls Tryz.prog _ _ W (fun e w' => e = .returned (.int .i64 (sgn p.rate.num)) /\ _) at hR
 change ∀ W, _ -> Calls Tryz.prog _ _ W (fun e w' => e = .returned (.tuple #[rat (a2m qs p.amount p.code eur cut).1, .int .i64 (a2m qs p.amount p.code eur cut).2]) /\ _) at hV
 have v1 := @c5h p cut qs
 have v2 := @va_cut p cut qs
 have v3 := @c8k p cut qs
 have v4 := @c8n p cut qs
 have v5 := @c8m p cut qs
 have v6 := @c8j p cut qs
 have hz := @a6e p
 have hcs := b1d (by decide) hq (show Sized 100 p.amount from a1f h.1.1 h.1.2 (by decide)) p.code eur cut
 have hcn : 0 <= p.amount -> 0 <= (a2m qs p.amount p.code eur cut).1 := b1e
 have hS := fun sl W (hs : a9x W sl [p.step]) => b6n (negB (a2m qs p.amount p.code eur cut).1) (numB (a2m qs p.amount p.code eur cut).1) (a0a (a2m qs p.amount p.code eur cut).1) sl [p.step] p.rf cut 365 W hs (fun s hs => by
  obtain rfl : s = p.step := by simpa using hs
  exact ⟨Nat.le_trans h.2.1 (by decide), Nat.le_trans h.2.2 (by decide)⟩) (Nat.le_trans hcs.num (by decide)) (Nat.le_trans hcs.denom (by decide))
 rw [a6y] at hS
 have hA := fun W (hs : Sized 8000 (a5z (a2m qs p.amount p.code eur cut).1 [p.step] p.rf cut 365).1) => a8h (a2m qs p.amount p.code eur cut).1 (a5z (a2m qs p.amount p.code eur cut).1 [p.step] p.rf cut 365).1 W (hcs.mono (by decide)) (hs.mono (by decide))
 have hsz := fun (h0 : 0 <= (a2m qs p.amount p.code eur cut).1) (z6 : dayB p.rf = true) (z5 : ¬ sgn p.rate.num < 0) (hd : dayB cut = true) (h5 : ¬ cut < p.rf) => c5p h0 z6 z5 hd h5
 have hs8 : dayB p.rf = true -> ¬ sgn p.rate.num < 0 -> dayB cut = true -> Sized 8000 (a5z (a2m qs p.amount p.code eur cut).1 [p.step] p.rf cut 365).1 := fun z6 z5 hd => by
  unfold a5z
  split
  ·exact sized_zero.mono (by decide)
  have d1 := a5n hd
  have d2 := a5n z6
  have := a7u (N := 100) (src := p.rf) (dst := cut) (base := 365) (a4h (a9s (s := p.step) z6 z5)) (by simp) (fun s hs => by
   obtain rfl : s = p.step := by simpa using hs
   exact a1f h.2.1 h.2.2 (by decide)) (by omega) (by omega) (by decide) (by omega)
  exact (hcs.mul this).mono (by decide)
 have ham : 0 <= sgn p.amount.num -> 0 <= p.amount := b2r
 generalize a1m p = n at *
 generalize a2m qs p.amount p.code eur cut = cv at *
 obtain ⟨cq, cn⟩ := cv
 dsimp only at *
 generalize a5z cq [p.step] p.rf cut 365 = sp at *
 obtain ⟨sq, sn⟩ := sp
 dsimp only at *
 generalize a0u p cut qs = ans at *
 generalize sgn p.rate.num = sr at *
 obtain ⟨dB, hdB⟩ : ∃ y, y = dayB cut := ⟨_, rfl⟩
 rw [<- hdB] at hD v2 v3 v4 v5 v6 hsz hs8
 unfold rat raw at hV hS hA
 unfold raw at hR
 have HCx := zh hC
 have HDx := zh hD
 have HVx := zh hV
 have HRx := zh hR
 have V1x := zh v1
 have V2x := zh v2
 have V3x := zh v3
 have V4x := zh v4
 have V5x := zh v5
 have V6x := zh v6
 have HZx := zh hz
 have HCSx := zh hcs
 have HCNx := zh hcn
 have HSx := zh hS
 have HAx := zh hA
 have HSZx := zh hsz
 have HS8x := zh hs8
 have HAMx := zh ham
 clear hC hD hV hR v1 v2 v3 v4 v5 v6 hz hcs hcn hS hA hsz hs8 ham hdB hl h hsec hv hok hq
 by_cases h0 : n = 0
 subst h0
 cases dB
 have R := zh (V2x.out rfl rfl)
 rotate_left
 by_cases h2 : cut < p.inc
 have d2 : decide (cut < p.inc) = true := decide_eq_true h2
 have R := zh (V3x.out rfl rfl h2)
 clear h2
 rotate_left
 have d2 : decide (cut < p.inc) = false := decide_eq_false h2
 by_cases h3 : cn = 0
 subst h3
 by_cases h4 : sr = 0
 have z1 : (sr == 0) = true := by rw [beq_iff_eq]; exact h4
 have R := zh (V5x.out rfl rfl h2 rfl (.inl h4))
 clear h2 h4
 rotate_left
 have z1 : (sr == 0) = false := by rw [beq_eq_false_iff_ne]; exact h4
 by_cases h5 : cut < p.rf
 have d5 : decide (cut < p.rf) = true := decide_eq_true h5
 have R := zh (V5x.out rfl rfl h2 rfl (.inr h5))
 clear h2 h4 h5
 rotate_left
 have d5 : decide (cut < p.rf) = false := decide_eq_false h5
 have R := zh (V6x.out rfl rfl h2 rfl (fun k => k.elim h4 h5))
 obtain ⟨_, _, z3, _, z5, z6⟩ := HZx.out rfl
 have S8 := zh (HS8x.out z6 (by omega) rfl)
 obtain rfl : sn = 0 := HSZx.out (HCNx.out (HAMx.out z3)) z6 (by omega) rfl h5
 clear h2 h4 h5 z3 z5 z6
 rotate_left
 have q1 : (cn == 0) = false := by rw [beq_eq_false_iff_ne]; exact h3
 have q2 : (cn != 0) = true := by rw [bne, q1]; rfl
 have R := zh (V4x.out rfl rfl h2 h3)
 clear h2 h3
 rotate_left
 have q1 : (n == 0) = false := by rw [beq_eq_false_iff_ne]; exact h0
 have q2 : (n != 0) = true := by rw [bne, q1]; rfl
 have R := zh (V1x.out h0)
 clear h0
 rotate_left
 all_goals
   go_enter Tryz.func31, Tryz.ntmps31
   have HS := zh (St.start w)
   go_wp2_with fail
   have HS2 := aL (aL HS (prfC p) 42 w.heap.size) #[.bool false, .string (bs []), .string (bs [])] 40 (w.heap.size + 1)
   refine cL (HCx.out _) HS2 fun w3 HS3 => ?_
   clear HS HS2
 ·go_wp2_with fail
  refine (HDx.out _).mono ?_
  rintro e w' ⟨rfl, rfl⟩
  obtain ⟨x1, x2, x3⟩ := HS3.out.k0 0 rfl rfl rfl rfl
  obtain ⟨x4, x5, x6⟩ := HS3.out.f0 0 rfl
  have x7 := cN HS3 0 1
  have x8 := cN HS3 1 0
  go_wp2
  have HS4 : Hid (St w [⟨w.heap.size + 1, #[.bool false, .string (bs []), .string (bs [])], 40⟩, _] _) := zh (St.set (St.set (St.set (HS3.out) 0 rfl 0 _) 0 rfl 1 _) 0 rfl 2 _)
  refine bodyPost_ret (a0k rfl _ _ _ _ _ _ rfl (HS4.out.blk 0 rfl)) rfl ?_
  rw [R.out]
  dsimp only
  rw [a5w]
  exact ⟨rfl, HS4.out.below⟩
 ·go_wp2_with fail
  refine (HDx.out _).mono ?_
  rintro e w' ⟨rfl, rfl⟩
  have x1 := cC HS3 1 7
  obtain ⟨x2, x3, x4⟩ := HS3.out.k0 0 rfl rfl rfl rfl
  obtain ⟨x5, x6, x7⟩ := HS3.out.f0 0 rfl
  have x8 := cN HS3 0 1
  have x9 := cN HS3 1 0
  go_wp2
  have HS4 : Hid (St w [⟨w.heap.size + 1, #[.bool false, .string (bs []), .string (bs [])], 40⟩, _] _) := zh (St.set (St.set (St.set (HS3.out) 0 rfl 0 _) 0 rfl 1 _) 0 rfl 2 _)
  refine bodyPost_ret (a0k rfl _ _ _ _ _ _ rfl (HS4.out.blk 0 rfl)) rfl ?_
  rw [R.out]
  dsimp only
  rw [a5w]
  exact ⟨rfl, HS4.out.below⟩
 ·go_wp2_with fail
  refine (HDx.out _).mono ?_
  rintro e w' ⟨rfl, rfl⟩
  have x1 := cC HS3 1 7
  obtain ⟨x2, x3, x4⟩ := HS3.out.k4 1 rfl rfl rfl rfl
  have x5 := cC HS3 1 3
  go_wp2_with fail
  refine cL (HVx.out _ HS3.out.below) HS3 fun w4 HS4 => ?_
  clear HS3 x1 x2 x3 x4 x5
  have x6 := cC HS4 1 9
  have x7 := cC HS4 1 10
  have x8 := cC HS4 1 11
  have x9 := HS4.out.lt 1 rfl
  have x10 : ¬ w.heap.size = w4.heap.size := by omega
  have x11 : ¬ w4.heap.size = w.heap.size := by omega
  go_wp2_with fail
  have HS5 := aL HS4 #[.bool (negB (cq)), .string (bs (numB (cq))), .string (bs (a0a (cq)))] 40 w4.heap.size
  refine cL (HRx.out _) HS5 fun w6 HS6 => ?_
  clear HS4 HS5 x6 x7 x8 x9 x10 x11
  obtain ⟨x12, x13, x14⟩ := HS6.out.k0 0 rfl rfl rfl rfl
  obtain ⟨x15, x16, x17⟩ := HS6.out.k0 1 rfl rfl rfl rfl
  obtain ⟨x18, x19, x20⟩ := HS6.out.f0 1 rfl
  have x21 := cN HS6 1 0
  have x22 := cN HS6 0 1
  have x23 := cN HS6 1 2
  have x24 := cN HS6 2 1
  go_wp2
  have HS7 : Hid (St w [_, ⟨w.heap.size + 1, #[.bool (negB (cq)), .string (bs (numB (cq))), .string (bs (a0a (cq)))], 40⟩, _] _) := zh (St.set (St.set (St.set (HS6.out) 1 rfl 0 _) 1 rfl 1 _) 1 rfl 2 _)
  refine bodyPost_ret (a0k rfl _ _ _ _ _ _ rfl (HS7.out.blk 1 rfl)) rfl ?_
  rw [R.out]
  exact ⟨rfl, HS7.out.below⟩
 ·go_wp2_with fail
  refine (HDx.out _).mono ?_
  rintro e w' ⟨rfl, rfl⟩
  have x1 := cC HS3 1 7
  obtain ⟨x2, x3, x4⟩ := HS3.out.k4 1 rfl rfl rfl rfl
  have x5 := cC HS3 1 3
  go_wp2_with fail
  refine cL (HVx.out _ HS3.out.below) HS3 fun w4 HS4 => ?_
  clear HS3 x1 x2 x3 x4 x5
  have x6 := cC HS4 1 9
  have x7 := cC HS4 1 10
  have x8 := cC HS4 1 11
  have x9 := HS4.out.lt 1 rfl
  have x10 : ¬ w.heap.size = w4.heap.size := by omega
  have x11 : ¬ w4.heap.size = w.heap.size := by omega
  go_wp2_with fail
  have HS5 := aL HS4 #[.bool (negB (cq)), .string (bs (numB (cq))), .string (bs (a0a (cq)))] 40 w4.heap.size
  refine cL (HRx.out _) HS5 fun w6 HS6 => ?_
  clear HS4 HS5 x6 x7 x8 x9 x10 x11
  have x12 := cC HS6 2 12
  obtain ⟨x13, x14, x15⟩ := HS6.out.k0 0 rfl rfl rfl rfl
  obtain ⟨x16, x17, x18⟩ := HS6.out.k0 1 rfl rfl rfl rfl
  obtain ⟨x19, x20, x21⟩ := HS6.out.f0 1 rfl
  have x22 := cN HS6 1 0
  have x23 := cN HS6 0 1
  have x24 := cN HS6 1 2
  have x25 := cN HS6 2 1
  go_wp2
  have HS7 : Hid (St w [_, ⟨w.heap.size + 1, #[.bool (negB (cq)), .string (bs (numB (cq))), .string (bs (a0a (cq)))], 40⟩, _] _) := zh (St.set (St.set (St.set (HS6.out) 1 rfl 0 _) 1 rfl 1 _) 1 rfl 2 _)
  refine bodyPost_ret (a0k rfl _ _ _ _ _ _ rfl (HS7.out.blk 1 rfl)) rfl ?_
  rw [R.out]
  exact ⟨rfl, HS7.out.below⟩
 ·go_wp2_with fail
  refine (HDx.out _).mono ?_
  rintro e w' ⟨rfl, rfl⟩
  have x1 := cC HS3 1 7
  obtain ⟨x2, x3, x4⟩ := HS3.out.k4 1 rfl rfl rfl rfl
  have x5 := cC HS3 1 3
  go_wp2_with fail
  refine cL (HVx.out _ HS3.out.below) HS3 fun w4 HS4 => ?_
  clear HS3 x1 x2 x3 x4 x5
  have x6 := cC HS4 1 9
  have x7 := cC HS4 1 10
  have x8 := cC HS4 1 11
  have x9 := HS4.out.lt 1 rfl
  have x10 : ¬ w.heap.size = w4.heap.size := by omega
  have x11 : ¬ w4.heap.size = w.heap.size := by omega
  go_wp2_with fail
  have HS5 := aL HS4 #[.bool (negB (cq)), .string (bs (numB (cq))), .string (bs (a0a (cq)))] 40 w4.heap.size
  refine cL (HRx.out _) HS5 fun w6 HS6 => ?_
  clear HS4 HS5 x6 x7 x8 x9 x10 x11
  have x12 := cC HS6 2 12
  have x13 := cC HS6 2 9
  have x14 := cC HS6 2 10
  have x15 := cC HS6 2 11
  obtain ⟨x16, x17, x18⟩ := HS6.out.k0 0 rfl rfl rfl rfl
  have x19 := HS6.out.lt 2 rfl
  have x20 : ¬ w.heap.size = w6.heap.size := by omega
  have x21 : ¬ w6.heap.size = w.heap.size := by omega
  have x22 := HS6.out.lt 0 rfl
  have x23 : ¬ w4.heap.size = w6.heap.size := by omega
  have x24 : ¬ w6.heap.size = w4.heap.size := by omega
  go_wp2_with fail
  have HS7 := aL HS6 #[.int .i64 p.rf, .bool p.rn, .string (bs p.ra), .string (bs p.rb)] 99 w6.heap.size
  refine cL (HSx.out _ _ (Slc.of_blk c8t (HS7.out.blk 0 rfl) rfl rfl (by simp) (by decide))) HS7 fun w8 HS8 => ?_
  clear HS6 HS7 x12 x13 x14 x15 x16 x17 x18 x19 x20 x21 x22 x23 x24
  obtain ⟨x25, x26, x27⟩ := HS8.out.k0 1 rfl rfl rfl rfl
  have x28 := HS8.out.lt 1 rfl
  have x29 : ¬ w4.heap.size = w8.heap.size := by omega
  have x30 : ¬ w8.heap.size = w4.heap.size := by omega
  go_wp2_with fail
  have HS9 := aL HS8 #[.bool (negB (sq)), .string (bs (numB (sq))), .string (bs (a0a (sq)))] 40 w8.heap.size
  refine cL (HAx.out _ S8.out) HS9 fun w10 HS10 => ?_
  clear HS8 HS9 x25 x26 x27 x28 x29 x30
  obtain ⟨x31, x32, x33⟩ := HS10.out.k0 3 rfl rfl rfl rfl
  obtain ⟨x34, x35, x36⟩ := HS10.out.f0 3 rfl
  have x37 := cN HS10 3 0
  have x38 := cN HS10 0 3
  have x39 := cN HS10 3 1
  have x40 := cN HS10 1 3
  have x41 := cN HS10 3 2
  have x42 := cN HS10 2 3
  have x43 := cN HS10 3 4
  have x44 := cN HS10 4 3
  go_wp2
  have HS11 : Hid (St w [_, _, _, ⟨w.heap.size + 1, #[.bool (negB (cq + sq)), .string (bs (numB (cq + sq))), .string (bs (a0a (cq + sq)))], 40⟩, _] _) := zh (St.set (St.set (St.set (HS10.out) 3 rfl 0 _) 3 rfl 1 _) 3 rfl 2 _)
  refine bodyPost_ret (a0k rfl _ _ _ _ _ _ rfl (HS11.out.blk 3 rfl)) rfl ?_
  rw [R.out]
  exact ⟨rfl, HS11.out.below⟩
 ·go_wp2_with fail
  refine (HDx.out _).mono ?_
  rintro e w' ⟨rfl, rfl⟩
  have x1 := cC HS3 1 7
  obtain ⟨x2, x3, x4⟩ := HS3.out.k4 1 rfl rfl rfl rfl
  have x5 := cC HS3 1 3
  go_wp2_with fail
  refine cL (HVx.out _ HS3.out.below) HS3 fun w4 HS4 => ?_
  clear HS3 x1 x2 x3 x4 x5
  obtain ⟨x6, x7, x8⟩ := HS4.out.k0 0 rfl rfl rfl rfl
  obtain ⟨x9, x10, x11⟩ := HS4.out.f0 0 rfl
  have x12 := cN HS4 0 1
  have x13 := cN HS4 1 0
  have x14 := HS4.out.lt 0 rfl
  have x15 : ¬ w.heap.size + 1 = w4.heap.size := by omega
  have x16 : ¬ w4.heap.size = w.heap.size + 1 := by omega
  go_wp2
  have HS5 : Hid (St w [_, ⟨w.heap.size + 1, #[.bool false, .string (bs []), .string (bs [])], 40⟩, _] _) := zh (St.alloc (St.set (St.set (St.set (HS4.out) 0 rfl 0 _) 0 rfl 1 _) 0 rfl 2 _) #[.bool (negB (cq)), .string (bs (numB (cq))), .string (bs (a0a (cq)))] 40 (w4.heap.size) (by simp))
  refine bodyPost_ret (a0k rfl _ _ _ _ _ _ rfl (HS5.out.blk 1 rfl)) rfl ?_
  rw [R.out]
  dsimp only
  rw [a5w]
  exact ⟨rfl, HS5.out.below⟩
 obtain ⟨x1, x2, x3⟩ := HS3.out.k0 0 rfl rfl rfl rfl
 obtain ⟨x4, x5, x6⟩ := HS3.out.f0 0 rfl
 have x7 := cN HS3 0 1
 have x8 := cN HS3 1 0
 go_wp2
 have HS4 : Hid (St w [⟨w.heap.size + 1, #[.bool false, .string (bs []), .string (bs [])], 40⟩, _] _) := zh (St.set (St.set (St.set (HS3.out) 0 rfl 0 _) 0 rfl 1 _) 0 rfl 2 _)
 refine bodyPost_ret (a0k rfl _ _ _ _ _ _ rfl (HS4.out.blk 0 rfl)) rfl ?_
 rw [R.out]
 dsimp only
 rw [a5w]
 exact ⟨rfl, HS4.out.below⟩
end Go.Proofs.YtoighiepglclkaaGreatDoor
