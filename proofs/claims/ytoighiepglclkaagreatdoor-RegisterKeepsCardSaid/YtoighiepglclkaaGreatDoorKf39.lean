/-
Part 39 of the base.
-/
import Derived.Test.YtoighiepglclkaaGreatDoorKf29
set_option maxRecDepth 100000
set_option maxHeartbeats 2000000
namespace Go.Proofs.YtoighiepglclkaaGreatDoor
open Go.RowKit
theorem c3s (b : Nat) (w : World) : Calls Tryz.prog 124 #[.int .u8 (b : Nat)] w fun e w' => e = .returned (.bool (c4h b)) /\ w = w' := by
 have c1 := fun W => b5v b W
 have c2 := fun W => c7k b W
 obtain ⟨x, hx⟩ : ∃ x, x = letN b := ⟨_, rfl⟩
 obtain ⟨y, hy⟩ : ∃ y, y = digN b := ⟨_, rfl⟩
 obtain ⟨z, hz⟩ : ∃ z, z = decide (b = 45) := ⟨_, rfl⟩
 obtain ⟨u, hu⟩ : ∃ u, u = decide (b = 95) := ⟨_, rfl⟩
 unfold c4h
 rw [<- hx, <- hy, <- hz, <- hu]
 rw [<- hx] at c1
 rw [<- hy] at c2
 have z1 : ((b : Int) == 45) = z := by rw [hz, Bool.eq_iff_iff]; simp; omega
 have u1 : ((b : Int) == 95) = u := by rw [hu, Bool.eq_iff_iff]; simp; omega
 have C1 := zh c1
 have C2 := zh c2
 clear c1 c2 hx hy hz hu
 cases x
 cases y
 cases z
 cases u
 rotate_left
 rotate_left
 rotate_left
 rotate_left
 rotate_left
 all_goals
   go_enter Tryz.func124, Tryz.ntmps124
   go_wp2_with fail
   refine (C1.out _).mono ?_
   rintro e w' ⟨rfl, rfl⟩
 ·go_wp2_with fail
  refine (C2.out _).mono ?_
  rintro e w' ⟨rfl, rfl⟩
  go_wp2
  go_ret
  exact ⟨rfl, rfl⟩
 ·go_wp2_with fail
  refine (C2.out _).mono ?_
  rintro e w' ⟨rfl, rfl⟩
  go_wp2
  go_ret
  exact ⟨rfl, rfl⟩
 ·go_wp2_with fail
  refine (C2.out _).mono ?_
  rintro e w' ⟨rfl, rfl⟩
  go_wp2
  go_ret
  exact ⟨rfl, rfl⟩
 ·go_wp2_with fail
  refine (C2.out _).mono ?_
  rintro e w' ⟨rfl, rfl⟩
  go_wp2
  go_ret
  exact ⟨rfl, rfl⟩
 go_wp2
 go_ret
 exact ⟨rfl, rfl⟩
theorem c3t (l : List UInt8) (w : World) (_ : l.length <= 9223372036854775807) :
  Calls Tryz.prog 81 #[.string (bs l)] w fun e w' => e = .returned (.bool (a6v l)) /\ w = w' := by
 have hsz : (bs l).size = l.length := a2b l
 by_cases h0 : l = []
 have f0 := a2r h0
 have f1 : decide (((bs l).size : Int) < 1) = true := decide_eq_true (by rw [hsz, h0]; decide)
 have f2 : decide ((bs l).size < 1) = true := decide_eq_true (by rw [hsz, h0]; decide)
 have R := zh (c6g (show l.length = 0 by rw [h0]; rfl))
 clear h0 hsz
 rotate_left
 have f0 := a0z h0
 have hpos : 0 < l.length := List.length_pos_iff.2 h0
 have f1 : decide (((bs l).size : Int) < 1) = false := decide_eq_false (by rw [hsz]; omega)
 have f2 : decide ((bs l).size < 1) = false := decide_eq_false (by rw [hsz]; omega)
 by_cases h1 : 32 < l.length
 have d1 : decide ((32 : Int) < ((bs l).size : Int)) = true := decide_eq_true (by rw [hsz]; omega)
 have d2 : decide (32 < (bs l).size) = true := decide_eq_true (by rw [hsz]; omega)
 have R := zh (c9x h1)
 clear h0 hsz h1 hpos
 rotate_left
 have d1 : decide ((32 : Int) < ((bs l).size : Int)) = false := decide_eq_false (by rw [hsz]; omega)
 have d2 : decide (32 < (bs l).size) = false := decide_eq_false (by rw [hsz]; omega)
 obtain ⟨b0, hb0, hi0⟩ := a3v 9 Tryz.underlying9 (bs l) 0 0 rfl (by rw [hsz]; exact hpos)
 have hL0 : b1b (l.getD 0 0) = letN b0 := by rw [d0j, hb0, a2n]
 have c0 := fun W => b5v b0 W
 obtain ⟨x, hx⟩ : ∃ x, x = letN b0 := ⟨_, rfl⟩
 rw [<- hx] at c0 hL0
 have C0 := zh c0
 have HSZ := zh hsz
 clear h0 c0 hx hb0 hsz
 cases x
 have R := zh (c9y hL0)
 clear hL0
 rotate_left
 have HL0 := zh hL0
 have H1 := zh h1
 have HP := zh hpos
 clear hL0 h1 hpos
 rotate_left
 all_goals
   go_enter Tryz.func81, Tryz.ntmps81
 ·go_wp2
  go_ret
  rw [R.out]
  exact ⟨rfl, rfl⟩
 ·go_wp2
  go_ret
  rw [R.out]
  exact ⟨rfl, rfl⟩
 all_goals
   go_wp2_with fail
   refine (C0.out _).mono ?_
   rintro e w' ⟨rfl, rfl⟩
   go_wp2
 ·go_ret
  rw [R.out]
  exact ⟨rfl, rfl⟩
 go_loop [3] (fun i => ∃ k : Nat, k <= l.length /\ i = .int .i64 k /\ Hid ((l.take k).all a3q = true)) (fun i => l.length - (intOf i).toNat)
 case atStart => exact ⟨0, Nat.zero_le _, rfl, rfl⟩
 case round =>
  clear f0 f1 f2 d1 d2 hi0 C0
  obtain ⟨k, hk, rfl, ha⟩ := hrel
  by_cases hlt : k < l.length
  ·have e1 : decide (((k : Nat) : Int) < ((bs l).size : Int)) = true := decide_eq_true (by rw [HSZ.out]; omega)
   have e2 : decide (k < (bs l).size) = true := decide_eq_true (by rw [HSZ.out]; omega)
   obtain ⟨b, hbs, hidx⟩ := a3v 9 Tryz.underlying9 (bs l) (k : Int) k rfl (by rw [HSZ.out]; exact hlt)
   have hN : a3q (l.getD k 0) = c4h b := by rw [c6h, hbs, a2n]
   have c1 := fun W => c3s b W
   have hst := c9w hlt
   have hfl := c6f hlt
   obtain ⟨x, hx⟩ : ∃ x, x = c4h b := ⟨_, rfl⟩
   rw [<- hx] at hN c1
   have C1 := zh c1
   have HN := zh hN
   have HST := zh hst
   have HFL := zh hfl
   clear c1 hN hst hfl hx hbs
   cases x
   ·go_wp2_with fail
    refine (C1.out _).mono ?_
    rintro e w' ⟨rfl, rfl⟩
    go_wp2
    go_ret
    rw [HFL.out HN.out]
    exact ⟨rfl, rfl⟩
   go_wp2_with fail
   refine (C1.out _).mono ?_
   rintro e w' ⟨rfl, rfl⟩
   go_wp2
   go_round
   case rel => exact ⟨k + 1, by omega, by go_num, by show _ = _; rw [HST.out, HN.out, ha.out]; rfl⟩
   case measure => simp [intOf]; omega
  obtain rfl : k = l.length := by omega
  have e1 : decide (((l.length : Nat) : Int) < ((bs l).size : Int)) = false := decide_eq_false (by rw [HSZ.out]; omega)
  have e2 : decide (l.length < (bs l).size) = false := decide_eq_false (by rw [HSZ.out]; omega)
  have R := zh (c9v (by have := HP.out; omega) (by have := H1.out; omega) HL0.out ha.out)
  go_wp2
  go_ret
  rw [R.out]
  exact ⟨rfl, rfl⟩
theorem c3p (s : ByteArray) (w : World) (hs : s.size <= 9223372036854775807) :
  Calls Tryz.prog 82 #[.string s] w fun e w' => e = .returned (.bool (a1u s.data.toList)) /\ w = w' := by
 go_enter Tryz.func82, Tryz.ntmps82
 go_wp2
 go_loop [3] (fun i => ∃ k : Nat, k <= s.size /\ i = .int .i64 k /\ Hid ((s.data.toList.take k).all letB = true)) (fun i => s.size - (intOf i).toNat)
 case atStart => exact ⟨0, Nat.zero_le _, rfl, rfl⟩
 case round =>
  obtain ⟨k, hk, rfl, ha⟩ := hrel
  by_cases hlt : k < s.size
  ·obtain ⟨b, hbs, hidx⟩ := a3v 9 Tryz.underlying9 s (k : Int) k rfl hlt
   have hlt' : k < s.data.toList.length := by rw [a1a]; exact hlt
   have hst := b2f hlt'
   obtain ⟨x, hx⟩ : ∃ x, x = decide (65 <= b) := ⟨_, rfl⟩
   obtain ⟨y, hy⟩ : ∃ y, y = decide (b <= 90) := ⟨_, rfl⟩
   have hl : letB (s.data.toList.getD k 0) = (x && y) := by unfold letB; rw [<- hbs, hx, hy]
   have e1 : decide ((b : Int) < 65) = !x := by rw [hx, <- decide_not]; exact decide_eq_decide.2 (by omega)
   have e2 : decide ((90 : Int) < (b : Int)) = !y := by rw [hy, <- decide_not]; exact decide_eq_decide.2 (by omega)
   have HL := zh hl
   have HST := zh hst
   have HLT := zh hlt'
   clear hl hst hbs hx hy hlt'
   cases x <;> cases y <;> simp only [Bool.not_true, Bool.not_false] at e1 e2
   all_goals go_wp2
   case roundEnd =>
    go_round
    case rel => exact ⟨k + 1, by omega, by go_num, by show _ = _; rw [HST.out, HL.out, ha.out]; rfl⟩
    case measure => simp [intOf]; omega
   all_goals
    go_ret
    rw [b0k HLT.out HL.out]
    exact ⟨rfl, rfl⟩
  have hk' : k = s.size := by omega
  subst hk'
  obtain ⟨x, hx⟩ : ∃ x, x = ((s.size : Int) == 3) := ⟨_, rfl⟩
  have e : a1u s.data.toList = x := by
   unfold a1u
   have := ha.out
   rw [List.take_of_length_le (by rw [a1a]; exact Nat.le_refl _)] at this
   rw [this, Bool.true_and, hx, a1a]
   rw [Bool.eq_iff_iff]; simp; omega
  have E := zh e
  have hx' := hx.symm
  clear hx e
  cases x
  all_goals
   go_wp2
   go_ret
   rw [E.out]
   exact ⟨rfl, rfl⟩
theorem b5x (p : Prf) (w : World) (hl : p.id.length <= 9223372036854775807 /\ p.code.length <= 9223372036854775807 /\ (p.aa.length <= 1000000 /\ p.ab.length <= 1000000) /\ p.ra.length <= 1000000 /\ p.rb.length <= 1000000) :
  Calls Tryz.prog 53 #[.agg (prfC p)] w fun e w' => e = .returned (.int .i64 (a1m p)) /\ Below w.heap.size w w' := by
 unfold prfC
 obtain ⟨l1, l2, ⟨l3, l4⟩, l5, l6⟩ := hl
 have hN := fun W => c3t p.id W l1
 have hC := fun W => c3p (bs p.code) W (by rw [a2b]; exact l2)
 rw [a2n] at hC
 have hA := fun W => b0a p.an p.aa p.ab W (by omega) (by omega)
 have hR := fun W => b0a p.rn p.ra p.rb W (by omega) (by omega)
 change ∀ W, Calls Tryz.prog _ _ W (fun e w' => e = .returned (.int .i64 (sgn p.amount.num)) /\ _) at hA
 change ∀ W, Calls Tryz.prog _ _ W (fun e w' => e = .returned (.int .i64 (sgn p.rate.num)) /\ _) at hR
 have hD := fun W => a3p p.inc W
 have hF := fun W => a3p p.rf W
 have hnm := @c9p p
 have hrg := @c6b p
 have hcd := @c9r p
 have hng := @pe_neg p
 have hdy := @pe_day p
 have hrt := @c9n p
 have hls := @c9q p
 obtain ⟨nB, hnB⟩ : ∃ y, y = a6v p.id := ⟨_, rfl⟩
 obtain ⟨cB, hcB⟩ : ∃ y, y = a1u p.code := ⟨_, rfl⟩
 obtain ⟨dB, hdB⟩ : ∃ y, y = dayB p.inc := ⟨_, rfl⟩
 obtain ⟨fB, hfB⟩ : ∃ y, y = dayB p.rf := ⟨_, rfl⟩
 rw [<- hnB] at hN hnm hrg hcd hng hdy hrt hls
 rw [<- hcB] at hC hcd hng hdy hrt hls
 rw [<- hdB] at hD hdy hrt hls
 rw [<- hfB] at hF hls
 generalize a1m p = ans at *
 generalize sgn p.amount.num = sa at *
 generalize sgn p.rate.num = sr at *
 unfold raw at hA hR
 clear hnB hcB hdB hfB l1 l2 l3 l4 l5 l6
 have HNx := zh hN
 have HCx := zh hC
 have HAx := zh hA
 have HRx := zh hR
 have HDx := zh hD
 have HFx := zh hF
 have HNMx := zh hnm
 have HRGx := zh hrg
 have HCDx := zh hcd
 have HNGx := zh hng
 have HDYx := zh hdy
 have HRTx := zh hrt
 have HLSx := zh hls
 clear hN hC hA hR hD hF hnm hrg hcd hng hdy hrt hls
 cases nB
 have R := zh (show ans = 11 from HNMx.out rfl)
 rotate_left
 by_cases e1 : p.est < 0
 have de1 : decide (p.est < 0) = true := decide_eq_true e1
 have R := zh (show ans = 1 from HRGx.out rfl (by omega))
 clear e1
 rotate_left
 have de1 : decide (p.est < 0) = false := decide_eq_false e1
 by_cases e2 : 8 <= p.est
 have de2 : decide (8 <= p.est) = true := decide_eq_true e2
 have R := zh (show ans = 1 from HRGx.out rfl (by omega))
 clear e1 e2
 rotate_left
 have de2 : decide (8 <= p.est) = false := decide_eq_false e2
 by_cases e3 : p.cre < 0
 have de3 : decide (p.cre < 0) = true := decide_eq_true e3
 have R := zh (show ans = 1 from HRGx.out rfl (by omega))
 clear e1 e2 e3
 rotate_left
 have de3 : decide (p.cre < 0) = false := decide_eq_false e3
 by_cases e4 : 32 <= p.cre
 have de4 : decide (32 <= p.cre) = true := decide_eq_true e4
 have R := zh (show ans = 1 from HRGx.out rfl (by omega))
 clear e1 e2 e3 e4
 rotate_left
 have de4 : decide (32 <= p.cre) = false := decide_eq_false e4
 cases cB
 have R := zh (show ans = 8 from HCDx.out rfl (by omega) rfl)
 clear e1 e2 e3 e4
 rotate_left
 by_cases ha : sa < 0
 have dha : decide (sa < 0) = true := decide_eq_true ha
 have R := zh (show ans = 7 from HNGx.out rfl (by omega) rfl ha)
 clear e1 e2 e3 e4 ha
 rotate_left
 have dha : decide (sa < 0) = false := decide_eq_false ha
 cases dB
 have R := zh (show ans = 1 from HDYx.out rfl (by omega) rfl ha (fun k => absurd k.1 (by decide)))
 clear e1 e2 e3 e4 ha
 rotate_left
 by_cases k1 : p.rank < 0
 have dk1 : decide (p.rank < 0) = true := decide_eq_true k1
 have R := zh (show ans = 1 from HDYx.out rfl (by omega) rfl ha (fun k => by omega))
 clear e1 e2 e3 e4 ha k1
 rotate_left
 have dk1 : decide (p.rank < 0) = false := decide_eq_false k1
 by_cases k2 : 7 < p.rank
 have dk2 : decide (7 < p.rank) = true := decide_eq_true k2
 have R := zh (show ans = 1 from HDYx.out rfl (by omega) rfl ha (fun k => by omega))
 clear e1 e2 e3 e4 ha k1 k2
 rotate_left
 have dk2 : decide (7 < p.rank) = false := decide_eq_false k2
 by_cases hr : sr < 0
 have dhr : decide (sr < 0) = true := decide_eq_true hr
 have R := zh (show ans = 7 from HRTx.out rfl (by omega) rfl ha ⟨rfl, by omega⟩ hr)
 clear e1 e2 e3 e4 ha k1 k2 hr
 rotate_left
 have dhr : decide (sr < 0) = false := decide_eq_false hr
 cases fB
 have R := zh (show ans = 1 from (HLSx.out rfl (by omega) rfl ha ⟨rfl, by omega⟩ hr).trans (if_pos (.inl rfl)))
 clear e1 e2 e3 e4 ha k1 k2 hr
 rotate_left
 by_cases hz : sr = 0
 have dhz : (sr == 0) = true := by rw [beq_iff_eq]; exact hz
 by_cases hv : p.rf ≠ 0
 have dhv : (p.rf != 0) = true := by rw [bne_iff_ne]; exact hv
 have R := zh (show ans = 1 from (HLSx.out rfl (by omega) rfl ha ⟨rfl, by omega⟩ hr).trans (if_pos (.inr (.inl ⟨hz, hv⟩))))
 clear e1 e2 e3 e4 ha k1 k2 hr hz hv
 rotate_left
 have dhv : (p.rf != 0) = false := by rw [bne_eq_false_iff_eq]; exact Classical.not_not.1 hv
 by_cases s1 : p.sec < -1
 have ds1 : decide (p.sec < -1) = true := decide_eq_true s1
 have R := zh (show ans = 1 from (HLSx.out rfl (by omega) rfl ha ⟨rfl, by omega⟩ hr).trans (if_pos (.inr (.inr (by omega)))))
 clear e1 e2 e3 e4 ha k1 k2 hr hz hv s1
 rotate_left
 have ds1 : decide (p.sec < -1) = false := decide_eq_false s1
 by_cases s2 : 8 <= p.sec
 have ds2 : decide (8 <= p.sec) = true := decide_eq_true s2
 have R := zh (show ans = 1 from (HLSx.out rfl (by omega) rfl ha ⟨rfl, by omega⟩ hr).trans (if_pos (.inr (.inr (by omega)))))
 clear e1 e2 e3 e4 ha k1 k2 hr hz hv s1 s2
 rotate_left
 have ds2 : decide (8 <= p.sec) = false := decide_eq_false s2
 have R := zh (show ans = 0 from (HLSx.out rfl (by omega) rfl ha ⟨rfl, by omega⟩ hr).trans (if_neg (fun k => k.elim (fun q => absurd q (by decide)) (fun k => k.elim (fun q => q.2 (by omega)) (fun q => q (by omega))))))
 clear e1 e2 e3 e4 ha k1 k2 hr hz hv s1 s2
 rotate_left
 have dhz : (sr == 0) = false := by rw [beq_eq_false_iff_ne]; exact hz
 by_cases s1 : p.sec < -1
 have ds1 : decide (p.sec < -1) = true := decide_eq_true s1
 have R := zh (show ans = 1 from (HLSx.out rfl (by omega) rfl ha ⟨rfl, by omega⟩ hr).trans (if_pos (.inr (.inr (by omega)))))
 clear e1 e2 e3 e4 ha k1 k2 hr hz s1
 rotate_left
 have ds1 : decide (p.sec < -1) = false := decide_eq_false s1
 by_cases s2 : 8 <= p.sec
 have ds2 : decide (8 <= p.sec) = true := decide_eq_true s2
 have R := zh (show ans = 1 from (HLSx.out rfl (by omega) rfl ha ⟨rfl, by omega⟩ hr).trans (if_pos (.inr (.inr (by omega)))))
 clear e1 e2 e3 e4 ha k1 k2 hr hz s1 s2
 rotate_left
 have ds2 : decide (8 <= p.sec) = false := decide_eq_false s2
 have R := zh (show ans = 0 from (HLSx.out rfl (by omega) rfl ha ⟨rfl, by omega⟩ hr).trans (if_neg (fun k => k.elim (fun q => absurd q (by decide)) (fun k => k.elim (fun q => hz q.1) (fun q => q (by omega))))))
 clear e1 e2 e3 e4 ha k1 k2 hr hz s1 s2
 rotate_left
 all_goals
   go_enter Tryz.func53, Tryz.ntmps53
   have HS := zh (St.start w)
   go_wp2_with fail
   refine (HNx.out _).mono ?_
   rintro e w' ⟨rfl, rfl⟩
 ·go_wp2
  go_ret
  have HS2 := aL HS (prfC p) 42 w.heap.size
  rw [R.out]
  exact ⟨rfl, HS2.out.below⟩
 ·go_wp2
  go_ret
  have HS2 := aL HS (prfC p) 42 w.heap.size
  rw [R.out]
  exact ⟨rfl, HS2.out.below⟩
 ·go_wp2
  go_ret
  have HS2 := aL HS (prfC p) 42 w.heap.size
  rw [R.out]
  exact ⟨rfl, HS2.out.below⟩
 ·go_wp2
  go_ret
  have HS2 := aL HS (prfC p) 42 w.heap.size
  rw [R.out]
  exact ⟨rfl, HS2.out.below⟩
 ·go_wp2
  go_ret
  have HS2 := aL HS (prfC p) 42 w.heap.size
  rw [R.out]
  exact ⟨rfl, HS2.out.below⟩
 all_goals
   go_wp2_with fail
   refine (HCx.out _).mono ?_
   rintro e w' ⟨rfl, rfl⟩
 ·go_wp2
  go_ret
  have HS2 := aL HS (prfC p) 42 w.heap.size
  rw [R.out]
  exact ⟨rfl, HS2.out.below⟩
 all_goals
   go_wp2_with fail
   have HS2 := aL HS (prfC p) 42 w.heap.size
   refine cL (HAx.out _) HS2 fun w3 HS3 => ?_
   clear HS HS2
 ·go_wp2
  go_ret
  have HS4 := zh HS3.out
  rw [R.out]
  exact ⟨rfl, HS4.out.below⟩
 all_goals
   have x1 := cC HS3 0 7
   go_wp2_with fail
   refine (HDx.out _).mono ?_
   rintro e w' ⟨rfl, rfl⟩
   clear x1
 ·go_wp2
  go_ret
  have HS4 := zh HS3.out
  rw [R.out]
  exact ⟨rfl, HS4.out.below⟩
 all_goals
   have x2 := cC HS3 0 8
 ·go_wp2
  go_ret
  have HS4 := zh HS3.out
  rw [R.out]
  exact ⟨rfl, HS4.out.below⟩
 ·go_wp2
  go_ret
  have HS4 := zh HS3.out
  rw [R.out]
  exact ⟨rfl, HS4.out.below⟩
 all_goals
   have x3 := cC HS3 0 9
   have x4 := cC HS3 0 10
   have x5 := cC HS3 0 11
   go_wp2_with fail
   refine cL (HRx.out _) HS3 fun w4 HS4 => ?_
   clear HS3 x2 x3 x4 x5
 ·go_wp2
  go_ret
  have HS5 := zh HS4.out
  rw [R.out]
  exact ⟨rfl, HS5.out.below⟩
 all_goals
   have x6 := cC HS4 0 12
   go_wp2_with fail
   refine (HFx.out _).mono ?_
   rintro e w' ⟨rfl, rfl⟩
   clear x6
 ·go_wp2
  go_ret
  have HS5 := zh HS4.out
  rw [R.out]
  exact ⟨rfl, HS5.out.below⟩
 all_goals
   have x7 := cC HS4 0 9
   have x8 := cC HS4 0 10
   have x9 := cC HS4 0 11
   go_wp2_with fail
   refine cL (HRx.out _) HS4 fun w5 HS5 => ?_
   clear HS4 x7 x8 x9
 ·have x10 := cC HS5 0 12
  go_wp2
  go_ret
  have HS6 := zh HS5.out
  rw [R.out]
  exact ⟨rfl, HS6.out.below⟩
 ·have x10 := cC HS5 0 12
  have x11 := cC HS5 0 13
  go_wp2
  go_ret
  have HS6 := zh HS5.out
  rw [R.out]
  exact ⟨rfl, HS6.out.below⟩
 ·have x10 := cC HS5 0 12
  have x11 := cC HS5 0 13
  go_wp2
  go_ret
  have HS6 := zh HS5.out
  rw [R.out]
  exact ⟨rfl, HS6.out.below⟩
 ·have x10 := cC HS5 0 12
  have x11 := cC HS5 0 13
  go_wp2
  go_ret
  have HS6 := zh HS5.out
  rw [R.out]
  exact ⟨rfl, HS6.out.below⟩
 all_goals
   have x10 := cC HS5 0 13
   go_wp2
   go_ret
   have HS6 := zh HS5.out
   rw [R.out]
 ·exact ⟨rfl, HS6.out.below⟩
 ·exact ⟨rfl, HS6.out.below⟩
 exact ⟨rfl, HS6.out.below⟩
end Go.Proofs.YtoighiepglclkaaGreatDoor
