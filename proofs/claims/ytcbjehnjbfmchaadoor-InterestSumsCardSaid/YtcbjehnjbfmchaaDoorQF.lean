/-
InterestSums: the law walked (printed by gen_law6e.py).
-/
import Derived.Test.YtcbjehnjbfmchaaDoorQC
namespace Go.Proofs.YtcbjehnjbfmchaaDoor
open Go.ChangeShapes Go.WideShapes Go.ChangeAt Go.ChangeMaps Go.RowKit
theorem rate_call {l : List Stp} (hck : checkS l = 0) (hok : ∀ s ∈ l, s.num.length ≤ 1000 ∧ s.den.length ≤ 1000) {d : Int} (h1 : 0 ≤ d) (h2 : d ≤ 1048576) (v : Value) (W : World) (h : StepsL W v l) :
    Calls Tryd.prog 41 #[v, .int .i64 d] W fun e w' => e = .returned (.tuple #[rat (rateS l d), .int .i64 0]) ∧ Below W.heap.size W w' := by
  have := interest_Rate v l d W h (fun s hs => by have := hok s hs; omega)
  rw [rateR_ok hck (by unfold dayB; rw [decide_eq_true h1, decide_eq_true h2]; rfl)] at this
  exact this

set_option maxRecDepth 100000 in
set_option maxHeartbeats 1000000 in
theorem law_InterestSums (x : Int) (v : Value) (ts : List Duo) (a m : Int) (w : World) (hx : 0 ≤ x ∧ x ≤ 65535) (h : Duos w v ts) (hok : ∀ t ∈ ts, t.ok) (ha : 0 ≤ a ∧ a ≤ 255) (hm : 0 ≤ m ∧ m ≤ 255) :
    Calls Tryd.prog 15 #[.int .u16 x, v, .int .u8 a, .int .u8 m] w fun e w' => e = .returned (.bool true) ∧ Below w.heap.size w w' := by
  have HQ := Lib.hid (law0_Steps v ts w h hok)
  have HAW := Lib.hid (fun W => law6_awake W)
  obtain ⟨hri, hlen, hck, hsm, hrn⟩ := stepsOf_all ts
  have hok1 : ∀ s ∈ stepsOf ts, s.num.length ≤ 1000 ∧ s.den.length ≤ 1000 := fun s hs => by have := hsm s hs; omega
  generalize stepsOf ts = l at *
  obtain ⟨hx0, hx1⟩ := hx
  obtain ⟨x, rfl⟩ := Int.eq_ofNat_of_zero_le hx0
  have A1 := fun W => law0_Amount x W (by omega)
  have p0 := amountR_nonneg x
  have pz := amountR_sized (x := x) (by omega)
  generalize amountR x = p at *
  obtain ⟨a0, a1⟩ := ha
  obtain ⟨m0, m1⟩ := hm
  have tm : Int.tmod m 60 = m % 60 := Int.tmod_eq_emod_of_nonneg (by omega)
  have um : IntKind.i64.wrap (m % 60) = m % 60 := IntWalk.i64_in _ (by omega)
  generalize hq6 : m % 60 = q at *
  have q0 : 0 ≤ q ∧ q ≤ 59 := by omega
  obtain ⟨q0, q1⟩ := q0
  obtain ⟨N, rfl⟩ := Int.eq_ofNat_of_zero_le q0
  have wb : IntKind.i64.wrap (a + (N : Int)) = a + N := IntWalk.i64_in _ (by omega)
  have I0 := fun W => rational_Int 0 W (by decide) (by decide)
  have I1 := fun W => rational_Int 360 W (by decide) (by decide)
  have RC := fun d h1 h2 v W h => rate_call (l := l) hck hok1 (d := d) h1 h2 v W h
  have DZ := fun n (hn : n ≤ 549755813888) => days_sized (l := l) (src := a) hri (by omega) hrn (by omega) (n := n) hn
  have RZ := fun d => rateS_sized (l := l) (N := 8) (by decide) hrn d
  have S1 := fun v W h => simp_call (q := p) hck hok1 (pz.mono (by decide)) p0 (src := a) (dst := a + N) (base := 360) a0 (by omega) (by omega) (.inl rfl) v W h
  have zs := pz.mul (simp_sized (l := l) (base := 360) (src := a) (dst := a + N) hri (by omega) hrn a0 (by omega) (by decide) (by omega))
  have hov := simp_over (p := p) (l := l) (src := a) (dst := a + N) (base := 360)
  rw [show (a + (N : Int) - a).toNat = N by omega] at hov
  have zd := DZ N (by omega)
  have MU := fun W => rational_MulR p (daySum l a N) W (pz.mono (by decide)) (zd.mono (by decide))
  have DV := fun W => rational_DivideR (p * daySum l a N) ((360 : Int) : Rat) W ((pz.mul zd).mono (by decide)) ((sized_int8 (by decide)).mono (by decide)) (by decide)
  rw [hov] at DV
  have q2 := eql_same zs (by decide)
  have HRC := Lib.hid RC
  have HDZ := Lib.hid DZ
  have HRZ := Lib.hid RZ
  clear RC DZ RZ hov zs zd pz p0 hri hlen hck hsm hrn hok1 h hok hx0 hx1 hq6
  generalize p * simpS l a (a + N) 360 = f1 at *
  generalize p * daySum l a N = f2 at *
  obtain ⟨i0, hi0⟩ : ∃ z, z = ((0 : Int) : Rat) := ⟨_, rfl⟩
  rw [← hi0] at I0
  have HI0 := Lib.hid hi0
  clear hi0
  generalize ((360 : Int) : Rat) = i1 at *
  have HDS : Hid (∃ z, z = daySum l a N) := ⟨_, rfl⟩
  unfold rat raw at *
  generalize negB p = np at *
  generalize numB p = bp at *
  generalize denomB p = dp at *
  generalize negB f1 = nu at *
  generalize numB f1 = bu at *
  generalize denomB f1 = du at *
  generalize negB f2 = nv at *
  generalize numB f2 = bv at *
  generalize denomB f2 = dv at *
  generalize negB i1 = nj at *
  generalize numB i1 = bj at *
  generalize denomB i1 = dj at *
  have XA1 := Lib.hid A1
  have XI0 := Lib.hid I0
  have XI1 := Lib.hid I1
  have XS1 := Lib.hid S1
  have XMU := Lib.hid MU
  have XDV := Lib.hid DV
  have Xq2 := Lib.hid q2
  clear A1 I0 I1 S1 MU DV q2
  go_enter Tryd.func15, Tryd.ntmps15
  have HS := Lib.hid (St.start w)
  go_wp2_with fail
  refine (HQ.out).mono ?_
  rintro e w2 ⟨v2, rfl, hl2, hb2⟩
  have HS2 := Lib.hid (HS.out.call hb2)
  have Q_2 := Lib.hid hl2
  clear hl2
  clear hb2 HS
  have HB0 := Lib.hid HS2.out.below
  clear HS2
  have HT2 := Lib.hid (St.start w2)
  have HZQ := Q_2.out
  have HZQ := Lib.hid HZQ
  clear Q_2
  go_wp2_with fail
  refine (XA1.out _).mono ?_
  rintro e w3 ⟨rfl, hb3⟩
  have HT3 := Lib.hid (HT2.out.call hb3)
  clear hb3 HT2
  go_wp2_with fail
  have HT4 : Hid (St w2 [⟨w3.heap.size, #[.bool np, .string (bs bp), .string (bs dp)], 30⟩] _) := Lib.hid (St.alloc (HT3.out) #[.bool np, .string (bs bp), .string (bs dp)] 30 _ (by simp))
  refine (XI0.out _).mono ?_
  rintro e w5 ⟨rfl, hb5⟩
  have HT5 := Lib.hid (HT4.out.call hb5)
  clear hb5 HT3 HT4
  go_wp2
  have HT6 : Hid (St w2 [⟨w5.heap.size, #[.bool (negB (i0)), .string (bs (numB (i0))), .string (bs (denomB (i0)))], 30⟩, ⟨w3.heap.size, #[.bool np, .string (bs bp), .string (bs dp)], 30⟩] _) := Lib.hid (St.alloc (HT5.out) #[.bool (negB (i0)), .string (bs (numB (i0))), .string (bs (denomB (i0)))] 30 _ (by simp))
  go_loopw [12] (fun i wr => ∃ k : Nat, k ≤ N ∧ i = .int .i64 (a + (k : Nat)) ∧ Hid (St w2 [⟨w5.heap.size, #[.bool (negB (daySum l a k)), .string (bs (numB (daySum l a k))), .string (bs (denomB (daySum l a k)))], 30⟩, ⟨w3.heap.size, #[.bool np, .string (bs bp), .string (bs dp)], 30⟩] wr)) (fun i _ => (a + N - intOf i).toNat)
  case atStart => exact ⟨0, Nat.zero_le _, by simp, by show St _ _ _; rw [show daySum l a 0 = i0 from HI0.out.symm]; exact HT6.out⟩
  case round =>
    obtain ⟨k, hk, rfl, HS⟩ := hrel
    by_cases hlt : k < N
    · have hl2 : decide (a + (k : Int) < a + (N : Int)) = true := decide_eq_true (by omega)
      have hl3 : decide ((k : Int) < (N : Int)) = true := decide_eq_true (by omega)
      have hl4 : decide (k < N) = true := decide_eq_true hlt
      have wk : IntKind.i64.wrap (a + (k : Int) + 1) = a + k + 1 := IntWalk.i64_in _ (by omega)
      have hR := fun v W h => HRC.out (a + (k : Int)) (by omega) (by omega) v W h
      have hA := fun W => rational_AddR (daySum l a k) (rateS l (a + (k : Int))) W ((HDZ.out k (by omega)).mono (by decide)) ((HRZ.out _).mono (by decide))
      rw [show daySum l a k + rateS l (a + (k : Int)) = daySum l a (k + 1) from rfl] at hA
      obtain ⟨zz, hzz⟩ : ∃ z, z = daySum l a (k + 1) := ⟨_, rfl⟩
      rw [← hzz] at hA
      have HZZ := Lib.hid hzz
      clear hzz
      generalize rateS l (a + (k : Int)) = rr at *
      generalize daySum l a k = y at *
      unfold rat raw at hA
      have HRC2 := Lib.hid hR
      have HAD := Lib.hid hA
      clear hR hA
      go_wp2_with fail
      refine (HRC2.out _ _ (HZQ.out.below HS.out.below)).mono ?_
      rintro e w7 ⟨rfl, hb7⟩
      have HS7 := Lib.hid (HS.out.call hb7)
      clear hb7 HS
      have x1 := HS7.out.cell 0 rfl 0 rfl
      have x2 := HS7.out.cell 0 rfl 1 rfl
      have x3 := HS7.out.cell 0 rfl 2 rfl
      have x4 := HS7.out.lt 0 rfl
      have x5 : ¬ w5.heap.size = w7.heap.size := by omega
      have x6 : ¬ w7.heap.size = w5.heap.size := by omega
      go_wp2_with fail
      have HS8 : Hid (St w2 [⟨w7.heap.size, #[.bool (negB (rr)), .string (bs (numB (rr))), .string (bs (denomB (rr)))], 30⟩, ⟨w5.heap.size, #[.bool (negB (y)), .string (bs (numB (y))), .string (bs (denomB (y)))], 30⟩, ⟨w3.heap.size, #[.bool np, .string (bs bp), .string (bs dp)], 30⟩] _) := Lib.hid (St.alloc (HS7.out) #[.bool (negB (rr)), .string (bs (numB (rr))), .string (bs (denomB (rr)))] 30 _ (by simp))
      refine (HAD.out _).mono ?_
      rintro e w9 ⟨rfl, hb9⟩
      have HS9 := Lib.hid (HS8.out.call hb9)
      clear hb9 HS7 HS8
      clear x1 x2 x3 x4 x5 x6
      have x7 := HS9.out.cell 1 rfl 0 rfl
      have x8 := HS9.out.cell 1 rfl 1 rfl
      have x9 := HS9.out.cell 1 rfl 2 rfl
      have x10 := HS9.out.frozen 1 rfl 0
      have x11 := HS9.out.frozen 1 rfl 1
      have x12 := HS9.out.frozen 1 rfl 2
      have x13 := HS9.out.ne 1 0 rfl rfl (by decide)
      have x14 := HS9.out.ne 0 1 rfl rfl (by decide)
      have x15 := HS9.out.ne 1 2 rfl rfl (by decide)
      have x16 := HS9.out.ne 2 1 rfl rfl (by decide)
      go_wp2
      have HS10 : Hid (St w2 [⟨w7.heap.size, #[.bool (negB (rr)), .string (bs (numB (rr))), .string (bs (denomB (rr)))], 30⟩, ⟨w5.heap.size, #[.bool (negB (zz)), .string (bs (numB (zz))), .string (bs (denomB (zz)))], 30⟩, ⟨w3.heap.size, #[.bool np, .string (bs bp), .string (bs dp)], 30⟩] _) := Lib.hid (St.set ((St.set ((St.set (HS9.out) 1 rfl 0 _)) 1 rfl 1 _)) 1 rfl 2 _)
      go_roundw
      case rel => exact ⟨k + 1, by omega, by rw [Int.natCast_add, ← Int.add_assoc]; rfl, by show St _ _ _; rw [← HZZ.out]; exact HS10.out.sub (List.sublist_cons_self _ _)⟩
      case measure => simp [intOf]; omega
    · obtain rfl : k = N := by omega
      generalize daySum l a k = y at *
      have q2 := Xq2.out
      clear Xq2
      have x1 := HS.out.cell 1 rfl 0 rfl
      have x2 := HS.out.cell 1 rfl 1 rfl
      have x3 := HS.out.cell 1 rfl 2 rfl
      have x4 := HS.out.cell 0 rfl 0 rfl
      have x5 := HS.out.cell 0 rfl 1 rfl
      have x6 := HS.out.cell 0 rfl 2 rfl
      go_wp2_with fail
      refine (XMU.out _).mono ?_
      rintro e w7 ⟨rfl, hb7⟩
      have HS7 := Lib.hid (HS.out.call hb7)
      clear hb7 HS
      clear x1 x2 x3 x4 x5 x6
      go_wp2_with fail
      refine (XI1.out _).mono ?_
      rintro e w8 ⟨rfl, hb8⟩
      have HS8 := Lib.hid (HS7.out.call hb8)
      clear hb8 HS7
      go_wp2_with fail
      refine (XDV.out _).mono ?_
      rintro e w9 ⟨rfl, hb9⟩
      have HS9 := Lib.hid (HS8.out.call hb9)
      clear hb9 HS8
      have x7 := HS9.out.cell 1 rfl 0 rfl
      have x8 := HS9.out.cell 1 rfl 1 rfl
      have x9 := HS9.out.cell 1 rfl 2 rfl
      have x10 := HS9.out.lt 1 rfl
      have x11 : ¬ w3.heap.size = w9.heap.size := by omega
      have x12 : ¬ w9.heap.size = w3.heap.size := by omega
      go_wp2_with fail
      have HS10 : Hid (St w2 [⟨w9.heap.size, #[.bool nu, .string (bs bu), .string (bs du)], 30⟩, ⟨w5.heap.size, #[.bool (negB (y)), .string (bs (numB (y))), .string (bs (denomB (y)))], 30⟩, ⟨w3.heap.size, #[.bool np, .string (bs bp), .string (bs dp)], 30⟩] _) := Lib.hid (St.alloc (HS9.out) #[.bool nu, .string (bs bu), .string (bs du)] 30 _ (by simp))
      refine (XS1.out _ _ (HZQ.out.below HS10.out.below)).mono ?_
      rintro e w11 ⟨rfl, hb11⟩
      have HS11 := Lib.hid (HS10.out.call hb11)
      clear hb11 HS9 HS10
      clear x7 x8 x9 x10 x11 x12
      go_wp2_with fail
      have HS12 : Hid (St w2 [⟨w11.heap.size, #[.bool nu, .string (bs bu), .string (bs du)], 30⟩, ⟨w9.heap.size, #[.bool nu, .string (bs bu), .string (bs du)], 30⟩, ⟨w5.heap.size, #[.bool (negB (y)), .string (bs (numB (y))), .string (bs (denomB (y)))], 30⟩, ⟨w3.heap.size, #[.bool np, .string (bs bp), .string (bs dp)], 30⟩] _) := Lib.hid (St.alloc (HS11.out) #[.bool nu, .string (bs bu), .string (bs du)] 30 _ (by simp))
      refine (HAW.out _).mono ?_
      rintro e w13 ⟨rfl, hb13⟩
      have HS13 := Lib.hid (HS12.out.call hb13)
      clear hb13 HS11 HS12
      have x13 := HS13.out.cell 0 rfl 0 rfl
      have x14 := HS13.out.cell 0 rfl 1 rfl
      have x15 := HS13.out.cell 0 rfl 2 rfl
      have x16 := HS13.out.cell 1 rfl 0 rfl
      have x17 := HS13.out.cell 1 rfl 1 rfl
      have x18 := HS13.out.cell 1 rfl 2 rfl
      go_wp2
      go_ret
      have HS14 : Hid (St w2 [⟨w11.heap.size, #[.bool nu, .string (bs bu), .string (bs du)], 30⟩, ⟨w9.heap.size, #[.bool nu, .string (bs bu), .string (bs du)], 30⟩, ⟨w5.heap.size, #[.bool (negB (y)), .string (bs (numB (y))), .string (bs (denomB (y)))], 30⟩, ⟨w3.heap.size, #[.bool np, .string (bs bp), .string (bs dp)], 30⟩] _) := Lib.hid HS13.out
      exact ⟨rfl, HB0.out.trans (HS14.out.below.mono HB0.out.size)⟩
end Go.Proofs.YtcbjehnjbfmchaaDoor
