/-
Part 36 of the base.
-/
import Derived.Test.YtoighiepglclkaaGreatDoorKf35
set_option maxRecDepth 100000
set_option maxHeartbeats 4000000
namespace Go.Proofs.YtoighiepglclkaaGreatDoor
open Go.RowKit
theorem wp_ren {P : Program} {c : Code} {Q : Exit -> Act -> World -> Prop} {a : Act} {w : World} {p : World -> Prop} (h : p w) (k : ∀ w', p w' -> c.wp P Q a w') : c.wp P Q a w := k w h
def pAw (q : Rat) : Prf := ⟨[97], 0, 0, usdL, negB q, numB q, a0a q, 40, 0, false, [], [], 0, -1⟩
def evA (q : Rat) : Evt := ⟨1, 45, [], zero3, 0, pAw q⟩
def evB (q : Rat) : Evt := ⟨3, 46, [97], enc3 q, 0, prf0⟩
def ev3 (q : Rat) : Evt := ⟨4, 47, [97], enc3 q, 0, prf0⟩
def eA (q q9 : Rat) : Ent := newE (pAw q) 45 60 q9
def eB (q q9 q3 : Rat) : Ent := { eA q q9 with st := 3, fl := enc3 q3, ad := enc3 q3, chg := 46 }
def eC (q q9 q3 q5 : Rat) : Ent := { eB q q9 q3 with st := 4, ad := enc3 q5, chg := 47 }
theorem aw1 : a0q ⟨40, 60, 0, []⟩ (evA 100) [usdQ] = (⟨40, 60, 45, [eA 100 90]⟩, 0) := by decide +kernel
theorem aw2 : a0q ⟨40, 60, 45, [eA 100 90]⟩ (evB 30) [] = (⟨40, 60, 46, [eB 100 90 30]⟩, 0) := by decide +kernel
theorem aw3 : a0q ⟨40, 60, 46, [eB 100 90 30]⟩ (ev3 50) [] = (⟨40, 60, 47, [eC 100 90 30 50]⟩, 0) := by decide +kernel
theorem b4y (q : Rat) (h : Sized 8 q) : (enc3 q).le 1000000 := ⟨Nat.le_trans h.num (by decide), Nat.le_trans h.denom (by decide)⟩
theorem usdQ_low : ∀ q ∈ [usdQ], q.num.length <= 100 /\ q.den.length <= 100 := by decide +kernel
theorem usdQ_ok : ∀ q ∈ [usdQ], q.ok := by
 intro q hq
 obtain rfl : q = usdQ := by simpa using hq
 unfold Quo.ok
 refine ⟨?_, ?_, ?_, ?_, ?_⟩ <;> decide +kernel
theorem c4p (w : World) : Calls Tryz.prog 10 #[] w fun e w' => e = .returned (.bool true) /\ Below w.heap.size w w' := by
 have hI := fun n W (h : -9223372036854775808 <= n /\ n <= 9223372036854775807) => a4z n W h.1 h.2
 have i1 := fun W => hI 100 W (by decide)
 have i3 := fun W => hI 30 W (by decide)
 have i5 := fun W => hI 50 W (by decide)
 have i9 := fun W => hI 90 W (by decide)
 change ∀ W, Calls Tryz.prog _ _ W (fun e w' => e = .returned (rat 100) /\ _) at i1
 change ∀ W, Calls Tryz.prog _ _ W (fun e w' => e = .returned (rat 30) /\ _) at i3
 change ∀ W, Calls Tryz.prog _ _ W (fun e w' => e = .returned (rat 50) /\ _) at i5
 change ∀ W, Calls Tryz.prog _ _ W (fun e w' => e = .returned (rat 90) /\ _) at i9
 have z1 : Sized 8 (100 : Rat) := a3h (n := 100) (by decide)
 have z3 : Sized 8 (30 : Rat) := a3h (n := 30) (by decide)
 have z5 : Sized 8 (50 : Rat) := a3h (n := 50) (by decide)
 have z9 : Sized 8 (90 : Rat) := a3h (n := 90) (by decide)
 have r1 := aw1
 have r2 := aw2
 have r3 := aw3
 obtain ⟨q1, hq1⟩ : ∃ y, y = (100 : Rat) := ⟨_, rfl⟩
 obtain ⟨q3, hq3⟩ : ∃ y, y = (30 : Rat) := ⟨_, rfl⟩
 obtain ⟨q5, hq5⟩ : ∃ y, y = (50 : Rat) := ⟨_, rfl⟩
 obtain ⟨q9, hq9⟩ : ∃ y, y = (90 : Rat) := ⟨_, rfl⟩
 rw [<- hq1] at i1 z1 r1 r2 r3
 rw [<- hq3] at i3 z3 r2 r3
 rw [<- hq5] at i5 z5 r3
 rw [<- hq9] at i9 z9 r1 r2 r3
 have k3 := fun W => c0v z3 (by decide) W
 have k5 := fun W => c0v z5 (by decide) W
 have k9 := fun W => c0v z9 (by decide) W
 have m1 := b4y q1 z1
 have m3 := b4y q3 z3
 have m5 := b4y q5 z5
 have m9 := b4y q9 z9
 have r0 : ([] : List UInt8).length <= 100 := by decide
 have cA : ([97] : List UInt8).length <= 9223372036854775807 /\ usdL.length <= 9223372036854775807 := by decide
 have cB : ([] : List UInt8).length <= 9223372036854775807 /\ ([] : List UInt8).length <= 9223372036854775807 := by decide
 have sA : -9223372036854775808 <= (-1 : Int) /\ (-1 : Int) <= 9223372036854775807 := by decide
 have sB : -9223372036854775808 <= (0 : Int) /\ (0 : Int) <= 9223372036854775807 := by decide
 have zz : zero3.a.length <= 1000000 /\ zero3.b.length <= 1000000 := by decide
 have hN := fun W => b3p 40 60 W
 rw [show newR 40 60 = (⟨40, 60, 0, []⟩, 0) by decide +kernel] at hN
 have hA := fun qv W (hq : a3f W qv [usdQ]) => a5t 40 60 0 (.slice none 0 0) qv [] (evA q1) [usdQ] W (Slc.nil_ _ _ _ _ _ (by decide)) (by decide) (by simp) zz hq usdQ_ok usdQ_low cA ⟨⟨Nat.le_trans z1.num (by decide), Nat.le_trans z1.denom (by decide)⟩, r0, r0⟩ sA
 have hB := fun v W (hE : a5d W v [eA q1 q9]) => a5t 40 60 45 v (.slice none 0 0) [eA q1 q9] (evB q3) [] W hE (by simp) (by
  intro x hx
  obtain rfl : x = eA q1 q9 := by simpa using hx
  exact ⟨zz, zz, m9⟩) m3 (Slc.nil_ _ _ _ _ _ (by decide)) (by simp) (by simp) cB ⟨⟨r0, r0⟩, r0, r0⟩ sB
 have hC := fun v W (hE : a5d W v [eB q1 q9 q3]) => a5t 40 60 46 v (.slice none 0 0) [eB q1 q9 q3] (ev3 q5) [] W hE (by simp) (by
  intro x hx
  obtain rfl : x = eB q1 q9 q3 := by simpa using hx
  exact ⟨m3, m3, m9⟩) m5 (Slc.nil_ _ _ _ _ _ (by decide)) (by simp) (by simp) cB ⟨⟨r0, r0⟩, r0, r0⟩ sB
 rw [r1] at hA
 rw [r2] at hB
 rw [r3] at hC
 dsimp only [evA, pAw, zero3, usdL] at hA
 dsimp only [evB, enc3, prf0] at hB
 dsimp only [ev3, enc3, prf0] at hC
 dsimp only at hN
 have hcells : (eC q1 q9 q3 q5).enc = [.string (bs [97]), .int .i64 0, .int .i64 0, .string (bs [85, 83, 68]), .bool (negB (q1)), .string (bs (numB (q1))), .string (bs (a0a (q1))), .int .i64 40, .int .i64 0, .bool false, .string (bs []), .string (bs []), .int .i64 0, .int .i64 (-1), .int .i64 4, .bool false, .bool (negB (q9)), .string (bs (numB (q9))), .string (bs (a0a (q9))), .bool (negB (q3)), .string (bs (numB (q3))), .string (bs (a0a (q3))), .bool (negB (q5)), .string (bs (numB (q5))), .string (bs (a0a (q5))), .bool (negB (q9)), .string (bs (numB (q9))), .string (bs (a0a (q9))), .int .i64 40, .int .i64 47] := rfl
 generalize eA q1 q9 = xA at *
 generalize eB q1 q9 q3 = xB at *
 generalize eC q1 q9 q3 q5 = xC at *
 unfold rat raw at k3 k5 k9 i1 i3 i5 i9
 have I1x := zh i1
 have I3x := zh i3
 have I5x := zh i5
 have I9x := zh i9
 have HNx := zh hN
 have HAx := zh hA
 have HBx := zh hB
 have HCx := zh hC
 have HCELLSx := zh hcells
 clear hI hq1 hq3 hq5 hq9 z1 z3 z5 z9 r1 r2 r3 m1 m3 m5 m9 zz r0 cA cB sA sB i1 i3 i5 i9 hN hA hB hC hcells
 go_enter Tryz.func10, Tryz.ntmps10
 have HS := zh (St.start w)
 go_wp2_with fail
 refine cL (I1x.out _) HS fun w2 HS2 => ?_
 clear HS
 go_wp2_with fail
 have HS3 := aL HS2 #[.string (bs [97]), .int .i64 0, .int .i64 0, .string (bs [85, 83, 68]), .bool (negB (q1)), .string (bs (numB (q1))), .string (bs (a0a (q1))), .int .i64 40, .int .i64 0, .bool false, .string (bs []), .string (bs []), .int .i64 0, .int .i64 (-1)] 42 w2.heap.size
 refine cL (HNx.out _) HS3 fun w4 HS4 => ?_
 clear HS2 HS3
 go_wp2
 refine a3u (aL HS4 #[.int .i64 40, .int .i64 60, .int .i64 0, .slice none 0 0] 32 w4.heap.size).out ?_
 intro wg5 hb
 have HS5 := zh hb
 clear hb HS4
 refine a8b 9 8 [5, 7] [eQ (.agg #[.int .i64 40, .int .i64 60, .int .i64 0, .slice none 0 0]), eQ (.agg #[.string (bs [97]), .int .i64 0, .int .i64 0, .string (bs [85, 83, 68]), .bool (negB (q1)), .string (bs (numB (q1))), .string (bs (a0a (q1))), .int .i64 40, .int .i64 0, .bool false, .string (bs []), .string (bs []), .int .i64 0, .int .i64 (-1)]), eQ (.agg #[.int .i64 1, .int .i64 45, .string (bs []), .bool false, .string (bs []), .string (bs []), .int .i64 0, .string (bs [97]), .int .i64 0, .int .i64 0, .string (bs [85, 83, 68]), .bool (negB (q1)), .string (bs (numB (q1))), .string (bs (a0a (q1))), .int .i64 40, .int .i64 0, .bool false, .string (bs []), .string (bs []), .int .i64 0, .int .i64 (-1)]), fun ww vv => a3f ww vv [usdQ], fun ww vv => ∃ A c, vv = Value.tuple #[.agg #[.int .i64 40, .int .i64 60, .int .i64 45, .slice A 1 c], .int .i64 0] /\ Grows ww w.heap.size 57 30 (.slice A 1 c) 1 (flat Ent.enc [xA]), fun ww vv => ∃ A c, vv = Value.tuple #[.agg #[.int .i64 40, .int .i64 60, .int .i64 45, .slice A 1 c], .int .i64 0] /\ Grows ww w.heap.size 57 30 (.slice A 1 c) 1 (flat Ent.enc [xA]), fun ww vv => ∃ A c, vv = Value.agg #[.int .i64 40, .int .i64 60, .int .i64 45, .slice A 1 c] /\ Grows ww w.heap.size 57 30 (.slice A 1 c) 1 (flat Ent.enc [xA]), fun ww vv => vv = .int .i64 0, fun ww vv => True] (fun wv => Hid (St w [⟨w4.heap.size, #[.int .i64 40, .int .i64 60, .int .i64 0, .slice none 0 0], 32⟩, ⟨w2.heap.size, #[.string (bs [97]), .int .i64 0, .int .i64 0, .string (bs [85, 83, 68]), .bool (negB (q1)), .string (bs (numB (q1))), .string (bs (a0a (q1))), .int .i64 40, .int .i64 0, .bool false, .string (bs []), .string (bs []), .int .i64 0, .int .i64 (-1)], 42⟩] wv)) (fun wv => ∃ A c, Hid (St w [⟨w4.heap.size, #[.int .i64 40, .int .i64 60, .int .i64 45, .slice A 1 c], 32⟩, ⟨w2.heap.size, #[.string (bs [97]), .int .i64 0, .int .i64 0, .string (bs [85, 83, 68]), .bool (negB (q1)), .string (bs (numB (q1))), .string (bs (a0a (q1))), .int .i64 40, .int .i64 0, .bool false, .string (bs []), .string (bs []), .int .i64 0, .int .i64 (-1)], 42⟩] wv) /\ Hid (Grows wv w.heap.size 57 30 (.slice A 1 c) 1 (flat Ent.enc [xA]))) rfl (by kernel_rfl) (by kernel_rfl) (by kernel_rfl) (by decide) (by decide) (a5k ?_) (fun _ _ h hb => zh (h.out.call hb)) (fun _ _ ⟨A, c, h, hg⟩ hb => ⟨A, c, zh (h.out.call hb), zh (Grows.below hg.out hb)⟩) (zh HS5.out.drew) ?_ ?_
 ·intro φ hφ
  rcases List.mem_cons.1 hφ with rfl | hφ
  ·exact fun _ _ _ h _ => h
  rcases List.mem_cons.1 hφ with rfl | hφ
  ·exact fun _ _ _ h _ => h
  rcases List.mem_cons.1 hφ with rfl | hφ
  ·exact fun _ _ _ h _ => h
  rcases List.mem_cons.1 hφ with rfl | hφ
  ·exact fun _ _ _ h hb => h.below hb
  rcases List.mem_cons.1 hφ with rfl | hφ
  ·exact fun _ _ _ ⟨A, c, h, hg⟩ hb => ⟨A, c, h, Grows.below hg hb⟩
  rcases List.mem_cons.1 hφ with rfl | hφ
  ·exact fun _ _ _ ⟨A, c, h, hg⟩ hb => ⟨A, c, h, Grows.below hg hb⟩
  rcases List.mem_cons.1 hφ with rfl | hφ
  ·exact fun _ _ _ ⟨A, c, h, hg⟩ hb => ⟨A, c, h, Grows.below hg hb⟩
  rcases List.mem_cons.1 hφ with rfl | hφ
  ·exact fun _ _ _ h _ => h
  rcases List.mem_cons.1 hφ with rfl | hφ
  ·exact fun _ _ _ h _ => h
  cases hφ
 ·refine ⟨?_, ?_, ?_, ?_, ?_, ?_, ?_, ?_, ?_, trivial⟩
  ·intro xx af wv h0 hev hev0 hd
   have e2 : af.tmps[2]?.getD undef = .pointer (some ⟨w4.heap.size, 0, none⟩) := hev0 2 rfl
   rw [if_neg (by decide)]
   have hs1 := h0 (by kernel_rfl)
   clear hev hev0 hd h0
   obtain ⟨y0, y1, y2⟩ := hs1.out.k0 0 rfl rfl rfl rfl
   have y3 := cC hs1 0 3
   go_wp2
   exact sQ rfl
  ·intro xx af wv h0 hev hev0 hd
   have e1 : af.tmps[1]?.getD undef = .pointer (some ⟨w2.heap.size, 0, none⟩) := hev0 1 rfl
   rw [if_neg (by decide)]
   have hs1 := h0 (by kernel_rfl)
   clear hev hev0 hd h0
   obtain ⟨y0, y1, y2, y3, y4, y5, y6, y7, y8, y9, y10⟩ := hs1.out.kA 1 rfl rfl rfl rfl rfl rfl rfl rfl rfl rfl rfl rfl
   have y11 := cC hs1 1 11
   have y12 := cC hs1 1 12
   have y13 := cC hs1 1 13
   go_wp2
   exact sQ rfl
  ·intro xx af wv h0 hev hev0 hd
   have e16 := hev 1 _ 16 rfl rfl
   have d1 : xx 1 = .agg #[.string (bs [97]), .int .i64 0, .int .i64 0, .string (bs [85, 83, 68]), .bool (negB (q1)), .string (bs (numB (q1))), .string (bs (a0a (q1))), .int .i64 40, .int .i64 0, .bool false, .string (bs []), .string (bs []), .int .i64 0, .int .i64 (-1)] := hd ⟨1, .data⟩ (by simp) rfl (by decide) (.inr (.inl (by kernel_rfl)))
   rw [d1] at e16
   clear d1
   rw [if_neg (by decide)]
   clear hev hev0 hd h0
   go_wp2
   exact sQ rfl
  ·intro xx af wv h0 hev hev0 hd
   rw [if_neg (by decide)]
   have hs1 := h0 (by kernel_rfl)
   clear hev hev0 hd h0
   go_wp2_with fail
   refine (d0m _).mono ?_
   rintro e w8 ⟨v8, rfl, hl8, hb8⟩
   go_wp2
   exact StepQ.mk _ hb8 hl8
  ·intro xx af wv h0 hev hev0 hd
   have e15 := hev 0 _ 15 rfl rfl
   have d0 : xx 0 = .agg #[.int .i64 40, .int .i64 60, .int .i64 0, .slice none 0 0] := hd ⟨0, .data⟩ (by simp) rfl (by decide) (.inr (.inl (by kernel_rfl)))
   rw [d0] at e15
   clear d0
   have e17 := hev 2 _ 17 rfl rfl
   have d2 : xx 2 = .agg #[.int .i64 1, .int .i64 45, .string (bs []), .bool false, .string (bs []), .string (bs []), .int .i64 0, .string (bs [97]), .int .i64 0, .int .i64 0, .string (bs [85, 83, 68]), .bool (negB (q1)), .string (bs (numB (q1))), .string (bs (a0a (q1))), .int .i64 40, .int .i64 0, .bool false, .string (bs []), .string (bs []), .int .i64 0, .int .i64 (-1)] := hd ⟨2, .data⟩ (by simp) rfl (by decide) (.inr (.inl (by kernel_rfl)))
   rw [d2] at e17
   clear d2
   have e18 := hev 3 _ 18 rfl rfl
   have d3 : a3f wv (xx 3) [usdQ] := hd ⟨3, .data⟩ (by simp) rfl (by decide) (.inr (.inl (by kernel_rfl)))
   rw [if_neg (by decide)]
   have hs1 := h0 (by kernel_rfl)
   clear hev hev0 hd h0
   go_wp2_with fail
   refine (HAx.out _ _ d3).mono ?_
   rintro e w8 ⟨v8, rfl, hG8, hb8⟩
   obtain ⟨A8, c8, hv8, _, _⟩ := (Slc.of_own a1g hG8 rfl).slice
   subst hv8
   have hl8 : ∃ A c, (Value.tuple #[.agg #[.int .i64 40, .int .i64 60, .int .i64 45, .slice A8 1 c8], .int .i64 0]) = Value.tuple #[.agg #[.int .i64 40, .int .i64 60, .int .i64 45, .slice A 1 c], .int .i64 0] /\ Grows w8 w.heap.size 57 30 (.slice A 1 c) 1 (flat Ent.enc [xA]) := ⟨A8, c8, rfl, Grows.base hG8 hs1.out.below.size⟩
   go_wp2
   exact StepQ.mk _ hb8 hl8
  ·intro xx af wv h0 hev hev0 hd
   have e19 := hev 4 _ 19 rfl rfl
   have d4 : ∃ A c, (xx 4) = Value.tuple #[.agg #[.int .i64 40, .int .i64 60, .int .i64 45, .slice A 1 c], .int .i64 0] /\ Grows wv w.heap.size 57 30 (.slice A 1 c) 1 (flat Ent.enc [xA]) := hd ⟨4, .data⟩ (by simp) rfl (by decide) (.inr (.inl (by kernel_rfl)))
   rw [if_neg (by decide)]
   have hs1 := h0 (by kernel_rfl)
   clear hev hev0 hd h0
   obtain ⟨A8, c8, hx8, hG8⟩ := d4
   rw [hx8] at e19
   go_wp2
   exact StepQ.mk _ (Below.refl _ _) ⟨A8, c8, rfl, hG8⟩
  ·intro xx af wv h0 hev hev0 hd
   have e14 := hev 5 _ 14 rfl rfl
   have d5 : ∃ A c, (xx 5) = Value.tuple #[.agg #[.int .i64 40, .int .i64 60, .int .i64 45, .slice A 1 c], .int .i64 0] /\ Grows wv w.heap.size 57 30 (.slice A 1 c) 1 (flat Ent.enc [xA]) := hd ⟨5, .data⟩ (by simp) rfl (by decide) (.inr (.inl (by kernel_rfl)))
   rw [if_neg (by decide)]
   have hs1 := h0 (by kernel_rfl)
   clear hev hev0 hd h0
   obtain ⟨A8, c8, hx8, hG8⟩ := d5
   rw [hx8] at e14
   go_wp2
   exact StepQ.mk _ (Below.refl _ _) ⟨A8, c8, rfl, hG8⟩
  ·intro xx af wv h0 hev hev0 hd
   have e14 := hev 5 _ 14 rfl rfl
   have d5 : ∃ A c, (xx 5) = Value.tuple #[.agg #[.int .i64 40, .int .i64 60, .int .i64 45, .slice A 1 c], .int .i64 0] /\ Grows wv w.heap.size 57 30 (.slice A 1 c) 1 (flat Ent.enc [xA]) := hd ⟨5, .data⟩ (by simp) rfl (by decide) (.inr (.inr (by decide)))
   rw [if_neg (by decide)]
   clear hev hev0 hd h0
   obtain ⟨A8, c8, hx8, hG8⟩ := d5
   rw [hx8] at e14
   go_wp2
   exact sQ rfl
  intro xx af wv h0 hev hev0 hd
  have e2 : af.tmps[2]?.getD undef = .pointer (some ⟨w4.heap.size, 0, none⟩) := hev0 2 rfl
  have e20 := hev 6 _ 20 rfl rfl
  have d6 : ∃ A c, (xx 6) = Value.agg #[.int .i64 40, .int .i64 60, .int .i64 45, .slice A 1 c] /\ Grows wv w.heap.size 57 30 (.slice A 1 c) 1 (flat Ent.enc [xA]) := hd ⟨6, .data⟩ (by simp) rfl (by decide) (.inl rfl)
  clear hev hev0 hd h0
  rw [if_pos rfl]
  intro hI0
  have hs1 := hI0
  obtain ⟨A8, c8, hx8, hG8⟩ := d6
  rw [hx8] at e20
  have f0 := cF hs1 0 0
  have f1 := cF hs1 0 1
  have f2 := cF hs1 0 2
  have f3 := cF hs1 0 3
  obtain ⟨y0, y1, y2⟩ := hs1.out.k0 0 rfl rfl rfl rfl
  have y3 := cC hs1 0 3
  have s0 := St.set (hs1.out) 0 rfl 0 (.int .i64 40)
  have s1 := St.set (s0) 0 rfl 1 (.int .i64 60)
  have s2 := St.set (s1) 0 rfl 2 (.int .i64 45)
  have s3 := St.set (s2) 0 rfl 3 (.slice A8 1 c8)
  have gw0 := Grows.setCell (j := 0) hG8 ((hs1.out).blk 0 rfl) (.int .i64 40)
  have gw1 := Grows.setCell (j := 1) gw0 ((s0).blk 0 rfl) (.int .i64 60)
  have gw2 := Grows.setCell (j := 2) gw1 ((s1).blk 0 rfl) (.int .i64 45)
  have gw3 := Grows.setCell (j := 3) gw2 ((s2).blk 0 rfl) (.slice A8 1 c8)
  go_wp2
  refine StepM.mk ⟨A8, c8, zh s3, zh gw3⟩ (fun j hj u hu => ?_)
  rcases List.mem_cons.1 hj with rfl | hj
  ·obtain ⟨A9, c9, hu9, hG9⟩ := hu
   have gx0 := Grows.setCell (j := 0) hG9 ((hs1.out).blk 0 rfl) (.int .i64 40)
   have gx1 := Grows.setCell (j := 1) gx0 ((s0).blk 0 rfl) (.int .i64 60)
   have gx2 := Grows.setCell (j := 2) gx1 ((s1).blk 0 rfl) (.int .i64 45)
   have gx3 := Grows.setCell (j := 3) gx2 ((s2).blk 0 rfl) (.slice A8 1 c8)
   exact ⟨A9, c9, hu9, gx3⟩
  rcases List.mem_cons.1 hj with rfl | hj
  ·exact hu
  cases hj
 intro xx w6 hI hv
 obtain ⟨A91, c91, hS9, hG9⟩ := hI
 have HS6 : Hid (St w [⟨w4.heap.size, #[.int .i64 40, .int .i64 60, .int .i64 45, .slice A91 1 c91], 32⟩, _] w6) := hS9
 have G_91 := hG9
 clear hS9 hG9 HS5
 simp only [List.take, List.drop, a0r, Act.put]
 simp only [show xx 7 = _ from hv 7 (by decide)]
 clear hv
 go_wp2
 refine a8b 8 7 [4, 6] [eQ (.agg #[.int .i64 40, .int .i64 60, .int .i64 45, .slice A91 1 c91]), eQ (.agg #[.bool (negB (q3)), .string (bs (numB (q3))), .string (bs (a0a (q3)))]), eQ (.agg #[.int .i64 3, .int .i64 46, .string (bs [97]), .bool (negB (q3)), .string (bs (numB (q3))), .string (bs (a0a (q3))), .int .i64 0, .string (bs []), .int .i64 0, .int .i64 0, .string (bs []), .bool false, .string (bs []), .string (bs []), .int .i64 0, .int .i64 0, .bool false, .string (bs []), .string (bs []), .int .i64 0, .int .i64 0]), fun ww vv => ∃ A c, vv = Value.tuple #[.agg #[.int .i64 40, .int .i64 60, .int .i64 46, .slice A 1 c], .int .i64 0] /\ Grows ww w.heap.size 57 30 (.slice A 1 c) 1 (flat Ent.enc [xB]), fun ww vv => ∃ A c, vv = Value.tuple #[.agg #[.int .i64 40, .int .i64 60, .int .i64 46, .slice A 1 c], .int .i64 0] /\ Grows ww w.heap.size 57 30 (.slice A 1 c) 1 (flat Ent.enc [xB]), fun ww vv => ∃ A c, vv = Value.agg #[.int .i64 40, .int .i64 60, .int .i64 46, .slice A 1 c] /\ Grows ww w.heap.size 57 30 (.slice A 1 c) 1 (flat Ent.enc [xB]), fun ww vv => vv = .int .i64 0, fun ww vv => True] (fun wv => Hid (St w [⟨w4.heap.size, #[.int .i64 40, .int .i64 60, .int .i64 45, .slice A91 1 c91], 32⟩, ⟨w2.heap.size, #[.string (bs [97]), .int .i64 0, .int .i64 0, .string (bs [85, 83, 68]), .bool (negB (q1)), .string (bs (numB (q1))), .string (bs (a0a (q1))), .int .i64 40, .int .i64 0, .bool false, .string (bs []), .string (bs []), .int .i64 0, .int .i64 (-1)], 42⟩] wv) /\ Hid (Grows wv w.heap.size 57 30 (.slice A91 1 c91) 1 (flat Ent.enc [xA]))) (fun wv => ∃ A c, Hid (St w [⟨w4.heap.size, #[.int .i64 40, .int .i64 60, .int .i64 46, .slice A 1 c], 32⟩, ⟨w2.heap.size, #[.string (bs [97]), .int .i64 0, .int .i64 0, .string (bs [85, 83, 68]), .bool (negB (q1)), .string (bs (numB (q1))), .string (bs (a0a (q1))), .int .i64 40, .int .i64 0, .bool false, .string (bs []), .string (bs []), .int .i64 0, .int .i64 (-1)], 42⟩] wv) /\ Hid (Grows wv w.heap.size 57 30 (.slice A 1 c) 1 (flat Ent.enc [xB]))) rfl (by kernel_rfl) (by kernel_rfl) (by kernel_rfl) (by decide) (by decide) (a5k ?_) (fun _ _ h hb => ⟨zh (h.1.out.call hb), zh (Grows.below h.2.out hb)⟩) (fun _ _ ⟨A, c, h, hg⟩ hb => ⟨A, c, zh (h.out.call hb), zh (Grows.below hg.out hb)⟩) ⟨zh HS6.out.drew, zh (Grows.below G_91.out (Below.refl _ _).drew)⟩ ?_ ?_
 ·intro φ hφ
  rcases List.mem_cons.1 hφ with rfl | hφ
  ·exact fun _ _ _ h _ => h
  rcases List.mem_cons.1 hφ with rfl | hφ
  ·exact fun _ _ _ h _ => h
  rcases List.mem_cons.1 hφ with rfl | hφ
  ·exact fun _ _ _ h _ => h
  rcases List.mem_cons.1 hφ with rfl | hφ
  ·exact fun _ _ _ ⟨A, c, h, hg⟩ hb => ⟨A, c, h, Grows.below hg hb⟩
  rcases List.mem_cons.1 hφ with rfl | hφ
  ·exact fun _ _ _ ⟨A, c, h, hg⟩ hb => ⟨A, c, h, Grows.below hg hb⟩
  rcases List.mem_cons.1 hφ with rfl | hφ
  ·exact fun _ _ _ ⟨A, c, h, hg⟩ hb => ⟨A, c, h, Grows.below hg hb⟩
  rcases List.mem_cons.1 hφ with rfl | hφ
  ·exact fun _ _ _ h _ => h
  rcases List.mem_cons.1 hφ with rfl | hφ
  ·exact fun _ _ _ h _ => h
  cases hφ
 ·refine ⟨?_, ?_, ?_, ?_, ?_, ?_, ?_, ?_, trivial⟩
  ·intro xx af wv h0 hev hev0 hd
   have e2 : af.tmps[2]?.getD undef = .pointer (some ⟨w4.heap.size, 0, none⟩) := hev0 2 rfl
   rw [if_neg (by decide)]
   obtain ⟨hs1, hg1⟩ := h0 (by kernel_rfl)
   clear hev hev0 hd h0
   obtain ⟨y0, y1, y2⟩ := hs1.out.k0 0 rfl rfl rfl rfl
   have y3 := cC hs1 0 3
   go_wp2
   exact sQ rfl
  ·intro xx af wv h0 hev hev0 hd
   rw [if_neg (by decide)]
   obtain ⟨hs1, hg1⟩ := h0 (by kernel_rfl)
   clear hev hev0 hd h0
   go_wp2_with fail
   refine (I3x.out _).mono ?_
   rintro e w8 ⟨rfl, hb8⟩
   go_wp2
   exact StepQ.mk _ hb8 rfl
  ·intro xx af wv h0 hev hev0 hd
   have e24 := hev 1 _ 24 rfl rfl
   have d1 : xx 1 = .agg #[.bool (negB (q3)), .string (bs (numB (q3))), .string (bs (a0a (q3)))] := hd ⟨1, .data⟩ (by simp) rfl (by decide) (.inr (.inl (by kernel_rfl)))
   rw [d1] at e24
   clear d1
   rw [if_neg (by decide)]
   clear hev hev0 hd h0
   go_wp2
   exact sQ rfl
  ·intro xx af wv h0 hev hev0 hd
   have e23 := hev 0 _ 23 rfl rfl
   have d0 : xx 0 = .agg #[.int .i64 40, .int .i64 60, .int .i64 45, .slice A91 1 c91] := hd ⟨0, .data⟩ (by simp) rfl (by decide) (.inr (.inl (by kernel_rfl)))
   rw [d0] at e23
   clear d0
   have e25 := hev 2 _ 25 rfl rfl
   have d2 : xx 2 = .agg #[.int .i64 3, .int .i64 46, .string (bs [97]), .bool (negB (q3)), .string (bs (numB (q3))), .string (bs (a0a (q3))), .int .i64 0, .string (bs []), .int .i64 0, .int .i64 0, .string (bs []), .bool false, .string (bs []), .string (bs []), .int .i64 0, .int .i64 0, .bool false, .string (bs []), .string (bs []), .int .i64 0, .int .i64 0] := hd ⟨2, .data⟩ (by simp) rfl (by decide) (.inr (.inl (by kernel_rfl)))
   rw [d2] at e25
   clear d2
   rw [if_neg (by decide)]
   obtain ⟨hs1, hg1⟩ := h0 (by kernel_rfl)
   clear hev hev0 hd h0
   go_wp2_with fail
   refine (HBx.out _ _ (Slc.of_own a1g hg1.out rfl)).mono ?_
   rintro e w8 ⟨v8, rfl, hG8, hb8⟩
   obtain ⟨A8, c8, hv8, _, _⟩ := (Slc.of_own a1g hG8 rfl).slice
   subst hv8
   have hl8 : ∃ A c, (Value.tuple #[.agg #[.int .i64 40, .int .i64 60, .int .i64 46, .slice A8 1 c8], .int .i64 0]) = Value.tuple #[.agg #[.int .i64 40, .int .i64 60, .int .i64 46, .slice A 1 c], .int .i64 0] /\ Grows w8 w.heap.size 57 30 (.slice A 1 c) 1 (flat Ent.enc [xB]) := ⟨A8, c8, rfl, Grows.base hG8 hs1.out.below.size⟩
   go_wp2
   exact StepQ.mk _ hb8 hl8
  ·intro xx af wv h0 hev hev0 hd
   have e26 := hev 3 _ 26 rfl rfl
   have d3 : ∃ A c, (xx 3) = Value.tuple #[.agg #[.int .i64 40, .int .i64 60, .int .i64 46, .slice A 1 c], .int .i64 0] /\ Grows wv w.heap.size 57 30 (.slice A 1 c) 1 (flat Ent.enc [xB]) := hd ⟨3, .data⟩ (by simp) rfl (by decide) (.inr (.inl (by kernel_rfl)))
   rw [if_neg (by decide)]
   obtain ⟨hs1, hg1⟩ := h0 (by kernel_rfl)
   clear hev hev0 hd h0
   obtain ⟨A8, c8, hx8, hG8⟩ := d3
   rw [hx8] at e26
   go_wp2
   exact StepQ.mk _ (Below.refl _ _) ⟨A8, c8, rfl, hG8⟩
  ·intro xx af wv h0 hev hev0 hd
   have e22 := hev 4 _ 22 rfl rfl
   have d4 : ∃ A c, (xx 4) = Value.tuple #[.agg #[.int .i64 40, .int .i64 60, .int .i64 46, .slice A 1 c], .int .i64 0] /\ Grows wv w.heap.size 57 30 (.slice A 1 c) 1 (flat Ent.enc [xB]) := hd ⟨4, .data⟩ (by simp) rfl (by decide) (.inr (.inl (by kernel_rfl)))
   rw [if_neg (by decide)]
   obtain ⟨hs1, hg1⟩ := h0 (by kernel_rfl)
   clear hev hev0 hd h0
   obtain ⟨A8, c8, hx8, hG8⟩ := d4
   rw [hx8] at e22
   go_wp2
   exact StepQ.mk _ (Below.refl _ _) ⟨A8, c8, rfl, hG8⟩
  ·intro xx af wv h0 hev hev0 hd
   have e22 := hev 4 _ 22 rfl rfl
   have d4 : ∃ A c, (xx 4) = Value.tuple #[.agg #[.int .i64 40, .int .i64 60, .int .i64 46, .slice A 1 c], .int .i64 0] /\ Grows wv w.heap.size 57 30 (.slice A 1 c) 1 (flat Ent.enc [xB]) := hd ⟨4, .data⟩ (by simp) rfl (by decide) (.inr (.inr (by decide)))
   rw [if_neg (by decide)]
   clear hev hev0 hd h0
   obtain ⟨A8, c8, hx8, hG8⟩ := d4
   rw [hx8] at e22
   go_wp2
   exact sQ rfl
  intro xx af wv h0 hev hev0 hd
  have e2 : af.tmps[2]?.getD undef = .pointer (some ⟨w4.heap.size, 0, none⟩) := hev0 2 rfl
  have e27 := hev 5 _ 27 rfl rfl
  have d5 : ∃ A c, (xx 5) = Value.agg #[.int .i64 40, .int .i64 60, .int .i64 46, .slice A 1 c] /\ Grows wv w.heap.size 57 30 (.slice A 1 c) 1 (flat Ent.enc [xB]) := hd ⟨5, .data⟩ (by simp) rfl (by decide) (.inl rfl)
  clear hev hev0 hd h0
  rw [if_pos rfl]
  intro hI0
  obtain ⟨hs1, hg1⟩ := hI0
  obtain ⟨A8, c8, hx8, hG8⟩ := d5
  rw [hx8] at e27
  have f0 := cF hs1 0 0
  have f1 := cF hs1 0 1
  have f2 := cF hs1 0 2
  have f3 := cF hs1 0 3
  obtain ⟨y0, y1, y2⟩ := hs1.out.k0 0 rfl rfl rfl rfl
  have y3 := cC hs1 0 3
  have s0 := St.set (hs1.out) 0 rfl 0 (.int .i64 40)
  have s1 := St.set (s0) 0 rfl 1 (.int .i64 60)
  have s2 := St.set (s1) 0 rfl 2 (.int .i64 46)
  have s3 := St.set (s2) 0 rfl 3 (.slice A8 1 c8)
  have gw0 := Grows.setCell (j := 0) hG8 ((hs1.out).blk 0 rfl) (.int .i64 40)
  have gw1 := Grows.setCell (j := 1) gw0 ((s0).blk 0 rfl) (.int .i64 60)
  have gw2 := Grows.setCell (j := 2) gw1 ((s1).blk 0 rfl) (.int .i64 46)
  have gw3 := Grows.setCell (j := 3) gw2 ((s2).blk 0 rfl) (.slice A8 1 c8)
  go_wp2
  refine StepM.mk ⟨A8, c8, zh s3, zh gw3⟩ (fun j hj u hu => ?_)
  rcases List.mem_cons.1 hj with rfl | hj
  ·obtain ⟨A9, c9, hu9, hG9⟩ := hu
   have gx0 := Grows.setCell (j := 0) hG9 ((hs1.out).blk 0 rfl) (.int .i64 40)
   have gx1 := Grows.setCell (j := 1) gx0 ((s0).blk 0 rfl) (.int .i64 60)
   have gx2 := Grows.setCell (j := 2) gx1 ((s1).blk 0 rfl) (.int .i64 46)
   have gx3 := Grows.setCell (j := 3) gx2 ((s2).blk 0 rfl) (.slice A8 1 c8)
   exact ⟨A9, c9, hu9, gx3⟩
  rcases List.mem_cons.1 hj with rfl | hj
  ·exact hu
  cases hj
 intro xx w7 hI hv
 obtain ⟨A92, c92, hS9, hG9⟩ := hI
 have HS7 : Hid (St w [⟨w4.heap.size, #[.int .i64 40, .int .i64 60, .int .i64 46, .slice A92 1 c92], 32⟩, _] w7) := hS9
 have G_92 := hG9
 clear hS9 hG9 HS6 G_91
 simp only [List.take, List.drop, a0r, Act.put]
 simp only [show xx 6 = _ from hv 6 (by decide)]
 clear hv
 go_wp2
 refine a8b 8 7 [4, 6] [eQ (.agg #[.int .i64 40, .int .i64 60, .int .i64 46, .slice A92 1 c92]), eQ (.agg #[.bool (negB (q5)), .string (bs (numB (q5))), .string (bs (a0a (q5)))]), eQ (.agg #[.int .i64 4, .int .i64 47, .string (bs [97]), .bool (negB (q5)), .string (bs (numB (q5))), .string (bs (a0a (q5))), .int .i64 0, .string (bs []), .int .i64 0, .int .i64 0, .string (bs []), .bool false, .string (bs []), .string (bs []), .int .i64 0, .int .i64 0, .bool false, .string (bs []), .string (bs []), .int .i64 0, .int .i64 0]), fun ww vv => ∃ A c, vv = Value.tuple #[.agg #[.int .i64 40, .int .i64 60, .int .i64 47, .slice A 1 c], .int .i64 0] /\ Grows ww w.heap.size 57 30 (.slice A 1 c) 1 (flat Ent.enc [xC]), fun ww vv => ∃ A c, vv = Value.tuple #[.agg #[.int .i64 40, .int .i64 60, .int .i64 47, .slice A 1 c], .int .i64 0] /\ Grows ww w.heap.size 57 30 (.slice A 1 c) 1 (flat Ent.enc [xC]), fun ww vv => ∃ A c, vv = Value.agg #[.int .i64 40, .int .i64 60, .int .i64 47, .slice A 1 c] /\ Grows ww w.heap.size 57 30 (.slice A 1 c) 1 (flat Ent.enc [xC]), fun ww vv => vv = .int .i64 0, fun ww vv => True] (fun wv => Hid (St w [⟨w4.heap.size, #[.int .i64 40, .int .i64 60, .int .i64 46, .slice A92 1 c92], 32⟩, ⟨w2.heap.size, #[.string (bs [97]), .int .i64 0, .int .i64 0, .string (bs [85, 83, 68]), .bool (negB (q1)), .string (bs (numB (q1))), .string (bs (a0a (q1))), .int .i64 40, .int .i64 0, .bool false, .string (bs []), .string (bs []), .int .i64 0, .int .i64 (-1)], 42⟩] wv) /\ Hid (Grows wv w.heap.size 57 30 (.slice A92 1 c92) 1 (flat Ent.enc [xB]))) (fun wv => ∃ A c, Hid (St w [⟨w4.heap.size, #[.int .i64 40, .int .i64 60, .int .i64 47, .slice A 1 c], 32⟩, ⟨w2.heap.size, #[.string (bs [97]), .int .i64 0, .int .i64 0, .string (bs [85, 83, 68]), .bool (negB (q1)), .string (bs (numB (q1))), .string (bs (a0a (q1))), .int .i64 40, .int .i64 0, .bool false, .string (bs []), .string (bs []), .int .i64 0, .int .i64 (-1)], 42⟩] wv) /\ Hid (Grows wv w.heap.size 57 30 (.slice A 1 c) 1 (flat Ent.enc [xC]))) rfl (by kernel_rfl) (by kernel_rfl) (by kernel_rfl) (by decide) (by decide) (a5k ?_) (fun _ _ h hb => ⟨zh (h.1.out.call hb), zh (Grows.below h.2.out hb)⟩) (fun _ _ ⟨A, c, h, hg⟩ hb => ⟨A, c, zh (h.out.call hb), zh (Grows.below hg.out hb)⟩) ⟨zh HS7.out.drew, zh (Grows.below G_92.out (Below.refl _ _).drew)⟩ ?_ ?_
 ·intro φ hφ
  rcases List.mem_cons.1 hφ with rfl | hφ
  ·exact fun _ _ _ h _ => h
  rcases List.mem_cons.1 hφ with rfl | hφ
  ·exact fun _ _ _ h _ => h
  rcases List.mem_cons.1 hφ with rfl | hφ
  ·exact fun _ _ _ h _ => h
  rcases List.mem_cons.1 hφ with rfl | hφ
  ·exact fun _ _ _ ⟨A, c, h, hg⟩ hb => ⟨A, c, h, Grows.below hg hb⟩
  rcases List.mem_cons.1 hφ with rfl | hφ
  ·exact fun _ _ _ ⟨A, c, h, hg⟩ hb => ⟨A, c, h, Grows.below hg hb⟩
  rcases List.mem_cons.1 hφ with rfl | hφ
  ·exact fun _ _ _ ⟨A, c, h, hg⟩ hb => ⟨A, c, h, Grows.below hg hb⟩
  rcases List.mem_cons.1 hφ with rfl | hφ
  ·exact fun _ _ _ h _ => h
  rcases List.mem_cons.1 hφ with rfl | hφ
  ·exact fun _ _ _ h _ => h
  cases hφ
 ·refine ⟨?_, ?_, ?_, ?_, ?_, ?_, ?_, ?_, trivial⟩
  ·intro xx af wv h0 hev hev0 hd
   have e2 : af.tmps[2]?.getD undef = .pointer (some ⟨w4.heap.size, 0, none⟩) := hev0 2 rfl
   rw [if_neg (by decide)]
   obtain ⟨hs1, hg1⟩ := h0 (by kernel_rfl)
   clear hev hev0 hd h0
   obtain ⟨y0, y1, y2⟩ := hs1.out.k0 0 rfl rfl rfl rfl
   have y3 := cC hs1 0 3
   go_wp2
   exact sQ rfl
  ·intro xx af wv h0 hev hev0 hd
   rw [if_neg (by decide)]
   obtain ⟨hs1, hg1⟩ := h0 (by kernel_rfl)
   clear hev hev0 hd h0
   go_wp2_with fail
   refine (I5x.out _).mono ?_
   rintro e w8 ⟨rfl, hb8⟩
   go_wp2
   exact StepQ.mk _ hb8 rfl
  ·intro xx af wv h0 hev hev0 hd
   have e31 := hev 1 _ 31 rfl rfl
   have d1 : xx 1 = .agg #[.bool (negB (q5)), .string (bs (numB (q5))), .string (bs (a0a (q5)))] := hd ⟨1, .data⟩ (by simp) rfl (by decide) (.inr (.inl (by kernel_rfl)))
   rw [d1] at e31
   clear d1
   rw [if_neg (by decide)]
   clear hev hev0 hd h0
   go_wp2
   exact sQ rfl
  ·intro xx af wv h0 hev hev0 hd
   have e30 := hev 0 _ 30 rfl rfl
   have d0 : xx 0 = .agg #[.int .i64 40, .int .i64 60, .int .i64 46, .slice A92 1 c92] := hd ⟨0, .data⟩ (by simp) rfl (by decide) (.inr (.inl (by kernel_rfl)))
   rw [d0] at e30
   clear d0
   have e32 := hev 2 _ 32 rfl rfl
   have d2 : xx 2 = .agg #[.int .i64 4, .int .i64 47, .string (bs [97]), .bool (negB (q5)), .string (bs (numB (q5))), .string (bs (a0a (q5))), .int .i64 0, .string (bs []), .int .i64 0, .int .i64 0, .string (bs []), .bool false, .string (bs []), .string (bs []), .int .i64 0, .int .i64 0, .bool false, .string (bs []), .string (bs []), .int .i64 0, .int .i64 0] := hd ⟨2, .data⟩ (by simp) rfl (by decide) (.inr (.inl (by kernel_rfl)))
   rw [d2] at e32
   clear d2
   rw [if_neg (by decide)]
   obtain ⟨hs1, hg1⟩ := h0 (by kernel_rfl)
   clear hev hev0 hd h0
   go_wp2_with fail
   refine (HCx.out _ _ (Slc.of_own a1g hg1.out rfl)).mono ?_
   rintro e w8 ⟨v8, rfl, hG8, hb8⟩
   obtain ⟨A8, c8, hv8, _, _⟩ := (Slc.of_own a1g hG8 rfl).slice
   subst hv8
   have hl8 : ∃ A c, (Value.tuple #[.agg #[.int .i64 40, .int .i64 60, .int .i64 47, .slice A8 1 c8], .int .i64 0]) = Value.tuple #[.agg #[.int .i64 40, .int .i64 60, .int .i64 47, .slice A 1 c], .int .i64 0] /\ Grows w8 w.heap.size 57 30 (.slice A 1 c) 1 (flat Ent.enc [xC]) := ⟨A8, c8, rfl, Grows.base hG8 hs1.out.below.size⟩
   go_wp2
   exact StepQ.mk _ hb8 hl8
  ·intro xx af wv h0 hev hev0 hd
   have e33 := hev 3 _ 33 rfl rfl
   have d3 : ∃ A c, (xx 3) = Value.tuple #[.agg #[.int .i64 40, .int .i64 60, .int .i64 47, .slice A 1 c], .int .i64 0] /\ Grows wv w.heap.size 57 30 (.slice A 1 c) 1 (flat Ent.enc [xC]) := hd ⟨3, .data⟩ (by simp) rfl (by decide) (.inr (.inl (by kernel_rfl)))
   rw [if_neg (by decide)]
   obtain ⟨hs1, hg1⟩ := h0 (by kernel_rfl)
   clear hev hev0 hd h0
   obtain ⟨A8, c8, hx8, hG8⟩ := d3
   rw [hx8] at e33
   go_wp2
   exact StepQ.mk _ (Below.refl _ _) ⟨A8, c8, rfl, hG8⟩
  ·intro xx af wv h0 hev hev0 hd
   have e29 := hev 4 _ 29 rfl rfl
   have d4 : ∃ A c, (xx 4) = Value.tuple #[.agg #[.int .i64 40, .int .i64 60, .int .i64 47, .slice A 1 c], .int .i64 0] /\ Grows wv w.heap.size 57 30 (.slice A 1 c) 1 (flat Ent.enc [xC]) := hd ⟨4, .data⟩ (by simp) rfl (by decide) (.inr (.inl (by kernel_rfl)))
   rw [if_neg (by decide)]
   obtain ⟨hs1, hg1⟩ := h0 (by kernel_rfl)
   clear hev hev0 hd h0
   obtain ⟨A8, c8, hx8, hG8⟩ := d4
   rw [hx8] at e29
   go_wp2
   exact StepQ.mk _ (Below.refl _ _) ⟨A8, c8, rfl, hG8⟩
  ·intro xx af wv h0 hev hev0 hd
   have e29 := hev 4 _ 29 rfl rfl
   have d4 : ∃ A c, (xx 4) = Value.tuple #[.agg #[.int .i64 40, .int .i64 60, .int .i64 47, .slice A 1 c], .int .i64 0] /\ Grows wv w.heap.size 57 30 (.slice A 1 c) 1 (flat Ent.enc [xC]) := hd ⟨4, .data⟩ (by simp) rfl (by decide) (.inr (.inr (by decide)))
   rw [if_neg (by decide)]
   clear hev hev0 hd h0
   obtain ⟨A8, c8, hx8, hG8⟩ := d4
   rw [hx8] at e29
   go_wp2
   exact sQ rfl
  intro xx af wv h0 hev hev0 hd
  have e2 : af.tmps[2]?.getD undef = .pointer (some ⟨w4.heap.size, 0, none⟩) := hev0 2 rfl
  have e34 := hev 5 _ 34 rfl rfl
  have d5 : ∃ A c, (xx 5) = Value.agg #[.int .i64 40, .int .i64 60, .int .i64 47, .slice A 1 c] /\ Grows wv w.heap.size 57 30 (.slice A 1 c) 1 (flat Ent.enc [xC]) := hd ⟨5, .data⟩ (by simp) rfl (by decide) (.inl rfl)
  clear hev hev0 hd h0
  rw [if_pos rfl]
  intro hI0
  obtain ⟨hs1, hg1⟩ := hI0
  obtain ⟨A8, c8, hx8, hG8⟩ := d5
  rw [hx8] at e34
  have f0 := cF hs1 0 0
  have f1 := cF hs1 0 1
  have f2 := cF hs1 0 2
  have f3 := cF hs1 0 3
  obtain ⟨y0, y1, y2⟩ := hs1.out.k0 0 rfl rfl rfl rfl
  have y3 := cC hs1 0 3
  have s0 := St.set (hs1.out) 0 rfl 0 (.int .i64 40)
  have s1 := St.set (s0) 0 rfl 1 (.int .i64 60)
  have s2 := St.set (s1) 0 rfl 2 (.int .i64 47)
  have s3 := St.set (s2) 0 rfl 3 (.slice A8 1 c8)
  have gw0 := Grows.setCell (j := 0) hG8 ((hs1.out).blk 0 rfl) (.int .i64 40)
  have gw1 := Grows.setCell (j := 1) gw0 ((s0).blk 0 rfl) (.int .i64 60)
  have gw2 := Grows.setCell (j := 2) gw1 ((s1).blk 0 rfl) (.int .i64 47)
  have gw3 := Grows.setCell (j := 3) gw2 ((s2).blk 0 rfl) (.slice A8 1 c8)
  go_wp2
  refine StepM.mk ⟨A8, c8, zh s3, zh gw3⟩ (fun j hj u hu => ?_)
  rcases List.mem_cons.1 hj with rfl | hj
  ·obtain ⟨A9, c9, hu9, hG9⟩ := hu
   have gx0 := Grows.setCell (j := 0) hG9 ((hs1.out).blk 0 rfl) (.int .i64 40)
   have gx1 := Grows.setCell (j := 1) gx0 ((s0).blk 0 rfl) (.int .i64 60)
   have gx2 := Grows.setCell (j := 2) gx1 ((s1).blk 0 rfl) (.int .i64 47)
   have gx3 := Grows.setCell (j := 3) gx2 ((s2).blk 0 rfl) (.slice A8 1 c8)
   exact ⟨A9, c9, hu9, gx3⟩
  rcases List.mem_cons.1 hj with rfl | hj
  ·exact hu
  cases hj
 intro xx w8 hI hv
 obtain ⟨A93, c93, hS9, hG9⟩ := hI
 have HS8 : Hid (St w [⟨w4.heap.size, #[.int .i64 40, .int .i64 60, .int .i64 47, .slice A93 1 c93], 32⟩, _] w8) := hS9
 have G_93 := hG9
 clear hS9 hG9 HS7 G_92
 simp only [List.take, List.drop, a0r, Act.put]
 simp only [show xx 6 = _ from hv 6 (by decide)]
 clear hv
 have x1 := cC HS8 0 3
 go_upto_if 55 with fail
 clear x1
 refine wp_ren (p := fun W => St w [⟨w4.heap.size, #[.int .i64 40, .int .i64 60, .int .i64 47, .slice A93 1 c93], 32⟩, ⟨w2.heap.size, #[.string (bs [97]), .int .i64 0, .int .i64 0, .string (bs [85, 83, 68]), .bool (negB (q1)), .string (bs (numB (q1))), .string (bs (a0a (q1))), .int .i64 40, .int .i64 0, .bool false, .string (bs []), .string (bs []), .int .i64 0, .int .i64 (-1)], 42⟩] W /\ Grows W w.heap.size 57 30 (.slice A93 1 c93) 1 (flat Ent.enc [xC])) ⟨HS8.out, G_93.out⟩ ?_
 rintro w99 ⟨hS9, hG9⟩
 have HB9 := zh hS9.below
 have hb2 := hS9.blk 0 rfl
 have H2 := zh (fun w' (hb : Below w99.heap.size w99 w') i u (hu : ([.int .i64 40, .int .i64 60, .int .i64 47, .slice A93 1 c93] : List Value)[i]? = some u) => (hb2.below hb hb2.lt).cell i u (by rw [<- Array.getElem?_toList]; exact hu))
 have L2 := zh hb2.lt
 obtain ⟨bX, oX, y, hA, hbX, hq, hx⟩ := Slc.at_ (Slc.of_own a1g hG9 rfl) (j := 0) (by simp)
 subst hA
 obtain rfl : xC = y := Option.some.inj hq
 rw [HCELLSx.out] at hx
 simp only [Nat.zero_mul, Nat.add_zero] at hx
 have HX := zh hx
 have HLX := zh hbX
 have l2 := hb2.lt
 clear hS9 hG9 hb2 hx hq HS8 G_93
 have HT := zh (St.start w99)
 have x2 : w4.heap.size < w99.heap.size := Nat.lt_of_lt_of_le l2 HT.out.below.size
 have x3 : ¬ w4.heap.size = w99.heap.size := by omega
 have x4 := H2.out _ HT.out.below 3 _ rfl
 go_wp2_with (first | (refine wpList_load_mid rfl _ _ rfl (bX) (oX) rfl [.string (bs [97]), .int .i64 0, .int .i64 0, .string (bs [85, 83, 68]), .bool (negB (q1)), .string (bs (numB (q1))), .string (bs (a0a (q1))), .int .i64 40, .int .i64 0, .bool false, .string (bs []), .string (bs []), .int .i64 0, .int .i64 (-1), .int .i64 4, .bool false, .bool (negB (q9)), .string (bs (numB (q9))), .string (bs (a0a (q9))), .bool (negB (q3)), .string (bs (numB (q3))), .string (bs (a0a (q3))), .bool (negB (q5)), .string (bs (numB (q5))), .string (bs (a0a (q5))), .bool (negB (q9)), .string (bs (numB (q9))), .string (bs (a0a (q9))), .int .i64 40, .int .i64 47] _ (fun j v hv => HX.out _ (HT.out).below j v hv) Tryz.underlying57 rfl a0n ?_) | (refine a0e rfl _ _ _ rfl (St.alloc (HT.out) entO 57 (w99.heap.size) (by simp)) 0 rfl [.string (bs [97]), .int .i64 0, .int .i64 0, .string (bs [85, 83, 68]), .bool (negB (q1)), .string (bs (numB (q1))), .string (bs (a0a (q1))), .int .i64 40, .int .i64 0, .bool false, .string (bs []), .string (bs []), .int .i64 0, .int .i64 (-1), .int .i64 4, .bool false, .bool (negB (q9)), .string (bs (numB (q9))), .string (bs (a0a (q9))), .bool (negB (q3)), .string (bs (numB (q3))), .string (bs (a0a (q3))), .bool (negB (q5)), .string (bs (numB (q5))), .string (bs (a0a (q5))), .bool (negB (q9)), .string (bs (numB (q9))), .string (bs (a0a (q9))), .int .i64 40, .int .i64 47] rfl rfl rfl a0n rfl ?_))
 intro w9 hS9
 have HT9 : Hid (St w99 [⟨w99.heap.size, #[.string (bs [97]), .int .i64 0, .int .i64 0, .string (bs [85, 83, 68]), .bool (negB (q1)), .string (bs (numB (q1))), .string (bs (a0a (q1))), .int .i64 40, .int .i64 0, .bool false, .string (bs []), .string (bs []), .int .i64 0, .int .i64 (-1), .int .i64 4, .bool false, .bool (negB (q9)), .string (bs (numB (q9))), .string (bs (a0a (q9))), .bool (negB (q3)), .string (bs (numB (q3))), .string (bs (a0a (q3))), .bool (negB (q5)), .string (bs (numB (q5))), .string (bs (a0a (q5))), .bool (negB (q9)), .string (bs (numB (q9))), .string (bs (a0a (q9))), .int .i64 40, .int .i64 47], 57⟩] w9) := zh hS9
 clear hS9 HT x2 x3 x4
 go_wp2
 refine a1z 21 [.pointer (some ⟨w99.heap.size, 19, none⟩), .agg #[.bool (negB (q3)), .string (bs (numB (q3))), .string (bs (a0a (q3)))], .agg #[.bool (negB (q3)), .string (bs (numB (q3))), .string (bs (a0a (q3)))], .bool true, .bool true, .pointer (some ⟨w99.heap.size, 22, none⟩), .agg #[.bool (negB (q5)), .string (bs (numB (q5))), .string (bs (a0a (q5)))], .agg #[.bool (negB (q5)), .string (bs (numB (q5))), .string (bs (a0a (q5)))], .bool true, .bool true, .bool true, .pointer (some ⟨w99.heap.size, 25, none⟩), .agg #[.bool (negB (q9)), .string (bs (numB (q9))), .string (bs (a0a (q9)))], .agg #[.bool (negB (q9)), .string (bs (numB (q9))), .string (bs (a0a (q9)))], .bool true, .bool true, .bool true, .pointer (some ⟨w99.heap.size, 14, none⟩), .int .i64 4, .bool true, .bool true] rfl (by kernel_rfl) (by kernel_rfl) (by kernel_rfl) ?_ ?_
 refine ⟨?_, ?_, ?_, ?_, ?_, ?_, ?_, ?_, ?_, ?_, ?_, ?_, ?_, ?_, ?_, ?_, ?_, ?_, ?_, ?_, ?_, trivial⟩ <;> (intro xx af wv hbx hev hev0 hd; have H := SH.mk hev hev0 hd; clear hev hev0 hd)
 ·have e7 := H.i 7; clear H; go_wp2; exact sQ rfl
 ·have e60 := H.r 0 60; clear H; have hs1 := zh (HT9.out.call hbx); have y0 := cC hs1 0 19; have y1 := cC hs1 0 20; have y2 := cC hs1 0 21; go_wp2; exact sQ rfl
 ·clear H
  go_wp2_with fail
  refine (I3x.out _).mono ?_
  rintro e w8 ⟨rfl, hb8⟩; go_wp2; exact StepQ.mk _ hb8 rfl
 ·have e61 := H.r 1 61; have e62 := H.r 2 62; clear H; go_wp2; exact sQ rfl
 ·have e63 := H.r 3 63; clear H; go_wp2; exact sQ rfl
 ·have e64 := H.g 4 64; have e7 := H.i 7; have q64 := a0b e64; clear H; go_wp2; exact sQ rfl
 ·have e64 := H.g 4 64; have e65 := H.r 5 65; have q64 := a0b e64; clear H; have hs1 := zh (HT9.out.call hbx); have y0 := cC hs1 0 22; have y1 := cC hs1 0 23; have y2 := cC hs1 0 24; go_wp2; exact sQ rfl
 ·have e64 := (H.ev 4 _ 64 rfl rfl).trans (H.hd ⟨4, .chain⟩ (by simp) rfl); have q64 := a0b e64; clear H
  go_wp2_with fail
  refine (I5x.out _).mono ?_
  rintro e w8 ⟨rfl, hb8⟩; go_wp2; exact StepQ.mk _ hb8 rfl
 ·have e64 := H.g 4 64; have e66 := H.r 6 66; have e67 := H.r 7 67; have q64 := a0b e64; clear H; go_wp2; exact sQ rfl
 ·have e64 := H.r 4 64; have e68 := H.r 8 68; clear H; go_wp2; exact sQ rfl
 ·have e69 := H.r 9 69; clear H; go_wp2; exact sQ rfl
 ·have e70 := H.g 10 70; have e7 := H.i 7; have q70 := a0b e70; clear H; go_wp2; exact sQ rfl
 ·have e70 := H.g 10 70; have e71 := H.r 11 71; have q70 := a0b e70; clear H; have hs1 := zh (HT9.out.call hbx); have y0 := cC hs1 0 25; have y1 := cC hs1 0 26; have y2 := cC hs1 0 27; go_wp2; exact sQ rfl
 ·have e70 := (H.ev 10 _ 70 rfl rfl).trans (H.hd ⟨10, .chain⟩ (by simp) rfl); have q70 := a0b e70; clear H
  go_wp2_with fail
  refine (I9x.out _).mono ?_
  rintro e w8 ⟨rfl, hb8⟩; go_wp2; exact StepQ.mk _ hb8 rfl
 ·have e70 := H.g 10 70; have e72 := H.r 12 72; have e73 := H.r 13 73; have q70 := a0b e70; clear H; go_wp2; exact sQ rfl
 ·have e70 := H.r 10 70; have e74 := H.r 14 74; clear H; go_wp2; exact sQ rfl
 ·have e75 := H.r 15 75; clear H; go_wp2; exact sQ rfl
 ·have e76 := H.g 16 76; have e7 := H.i 7; have q76 := a0b e76; clear H; go_wp2; exact sQ rfl
 ·have e76 := H.g 16 76; have e77 := H.r 17 77; have q76 := a0b e76; clear H; have hs1 := zh (HT9.out.call hbx); have y0 := cC hs1 0 14; go_wp2; exact sQ rfl
 ·have e76 := H.g 16 76; have e78 := H.r 18 78; have q76 := a0b e76; clear H; go_wp2; exact sQ rfl
 ·have e76 := H.r 16 76; have e79 := H.r 19 79; clear H; go_wp2; exact sQ rfl
 intro xx w10 hb9 hv
 simp only [List.take, List.drop, a0r, Act.put]
 simp only [vQ hv 0, vQ hv 1, vQ hv 2, vQ hv 3, vQ hv 4, vQ hv 5, vQ hv 6, vQ hv 7, vQ hv 8, vQ hv 9, vQ hv 10, vQ hv 11, vQ hv 12, vQ hv 13, vQ hv 14, vQ hv 15, vQ hv 16, vQ hv 17, vQ hv 18, vQ hv 19, vQ hv 20]
 clear hv
 have HT10 := zh (HT9.out.call hb9)
 clear hb9 HT9
 go_wp2
 go_ret
 have HT11 := zh HT10.out
 exact ⟨rfl, Ext.trans HB9.out HT11.out.below⟩
end Go.Proofs.YtoighiepglclkaaGreatDoor
