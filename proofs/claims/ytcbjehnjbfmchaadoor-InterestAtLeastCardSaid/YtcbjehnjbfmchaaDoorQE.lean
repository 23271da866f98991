/-
InterestAtLeast: the law walked (printed by gen_law6e.py).
-/
import Derived.Test.YtcbjehnjbfmchaaDoorQC
namespace Go.Proofs.YtcbjehnjbfmchaaDoor
open Go.ChangeShapes Go.WideShapes Go.ChangeAt Go.ChangeMaps Go.RowKit

set_option maxRecDepth 100000 in
set_option maxHeartbeats 1000000 in
theorem law_InterestAtLeast (x : Int) (v : Value) (ts : List Duo) (a m r : Int) (w : World) (hx : 0 ≤ x ∧ x ≤ 65535) (h : Duos w v ts) (hok : ∀ t ∈ ts, t.ok) (ha : 0 ≤ a ∧ a ≤ 255) (hm : 0 ≤ m ∧ m ≤ 255) (hr : 0 ≤ r ∧ r ≤ 255) :
    Calls Tryd.prog 16 #[.int .u16 x, v, .int .u8 a, .int .u8 m, .int .u8 r] w fun e w' => e = .returned (.bool true) ∧ Below w.heap.size w w' := by
  have HQ := Lib.hid (law0_Steps v ts w h hok)
  have HAW := Lib.hid (fun W => law6_awake W)
  obtain ⟨hri, hlen, hck, hsm, hrn⟩ := stepsOf_all ts
  have hok1 : ∀ s ∈ stepsOf ts, s.num.length ≤ 1000 ∧ s.den.length ≤ 1000 := fun s hs => by have := hsm s hs; omega
  generalize stepsOf ts = l at *
  obtain ⟨hx0, hx1⟩ := hx
  obtain ⟨x, rfl⟩ := Int.eq_ofNat_of_zero_le hx0
  have A1 := fun W => law0_Amount x W (by omega)
  have p0 := amountR_nonneg x
  have pz := amountR_sized (x := x) (by omega)
  generalize amountR x = p at *
  obtain ⟨a0, a1⟩ := ha
  obtain ⟨m0, m1⟩ := hm
  obtain ⟨r0, r1⟩ := hr
  have tm : Int.tmod m 80 = m % 80 := Int.tmod_eq_emod_of_nonneg (by omega)
  have um : IntKind.i64.wrap (m % 80) = m % 80 := IntWalk.i64_in _ (by omega)
  have tr : Int.tmod r 90 = r % 90 := Int.tmod_eq_emod_of_nonneg (by omega)
  have ur : IntKind.i64.wrap (r % 90) = r % 90 := IntWalk.i64_in _ (by omega)
  generalize hq6 : m % 80 = q at *
  generalize hn20 : r % 90 = n0 at *
  obtain ⟨n, hn⟩ : ∃ n, n = 2 + n0 := ⟨_, rfl⟩
  have n1 : 2 ≤ n ∧ n ≤ 100 := by omega
  obtain ⟨n1, n2⟩ := n1
  have nb : 0 ≤ n0 ∧ n0 ≤ 89 := by omega
  obtain ⟨nb0, nb1⟩ := nb
  have wn : IntKind.i64.wrap n = n := IntWalk.i64_in _ (by omega)
  have en : 2 + n0 = n := hn.symm
  have q0 : 0 ≤ q ∧ q ≤ 79 := by omega
  obtain ⟨q0, q1⟩ := q0
  obtain ⟨b, hb⟩ : ∃ z, z = a + q := ⟨_, rfl⟩
  have b1 : a ≤ b ∧ b ≤ 400 := by omega
  obtain ⟨b1, b2⟩ := b1
  have wb : IntKind.i64.wrap b = b := IntWalk.i64_in _ (by omega)
  have eb : a + q = b := hb.symm
  have S1 := fun v W h => simp_call (q := p) hck hok1 (pz.mono (by decide)) p0 (src := a) (dst := b) (base := 360) a0 b1 (by omega) (.inl rfl) v W h
  have C1 := fun v W h => comp_call (q := p) hck hok1 (pz.mono (by decide)) p0 (src := a) (dst := b) (base := 360) (n := n) a0 b1 (by omega) (.inl rfl) (by omega) (by omega) (by omega) v W h
  have zs := pz.mul (simp_sized (l := l) (base := 360) (src := a) (dst := b) hri (by omega) hrn a0 (by omega) (by decide) (by omega))
  have zc : Sized 90000 (compS l 360 n a b p) := by
    obtain ⟨k, hk64, hk1, hk2⟩ : ∃ k : Nat, k ≤ 64 ∧ b ≤ a + k * n ∧ (k = 0 ∨ a + ((k : Int) - 1) * n < b) := comp_count (by omega) b1 (by omega)
    rw [comp_end (by omega) hk1 hk2]
    exact (comp_sized (l := l) (base := 360) (every := n) (src := a) (dst := b) (p := p) hri (by omega) hrn pz a0 (by omega) (by omega) (by decide) (by omega) k).mono (by omega)
  have zc2 : Sized 90009 (compS l 360 n a b p - p) := by rw [Rat.sub_eq_add_neg]; exact (zc.add pz.neg).mono (by decide)
  have hmore := comp_more (l := l) hri (base := 360) (n := n) (a := a) (b := b) (p := p) p0 (by decide) (by omega) b1
  have hge : 0 ≤ sgn ((compS l 360 n a b p - p) - p * simpS l a b 360).num := by
    have h1 : 0 ≤ (compS l 360 n a b p - p) - p * simpS l a b 360 := by grind
    have h2 := Rat.num_nonneg.2 h1
    rcases sgn_cases ((compS l 360 n a b p - p) - p * simpS l a b 360).num with ⟨h, e⟩ | ⟨h, e⟩ | ⟨h, e⟩ <;> rw [e] <;> omega
  have heq : ¬ n < q → sgn ((compS l 360 n a b p - p) - p * simpS l a b 360).num = 0 := by
    intro hh
    rw [comp_one (by omega) (by omega) b1, show p + p * simpS l a b 360 - p - p * simpS l a b 360 = 0 by grind]; rfl
  have CM := fun W => rational_Compare (negB (compS l 360 n a b p - p)) (numB (compS l 360 n a b p - p)) (denomB (compS l 360 n a b p - p)) (negB (p * simpS l a b 360)) (numB (p * simpS l a b 360)) (denomB (p * simpS l a b 360)) W (Nat.le_trans zc2.num (by decide)) (Nat.le_trans zc2.denom (by decide)) (Nat.le_trans zs.num (by decide)) (Nat.le_trans zs.denom (by decide))
  rw [show decR (negB (compS l 360 n a b p - p)) (numB (compS l 360 n a b p - p)) (denomB (compS l 360 n a b p - p)) = compS l 360 n a b p - p from dec_enc _, show decR (negB (p * simpS l a b 360)) (numB (p * simpS l a b 360)) (denomB (p * simpS l a b 360)) = p * simpS l a b 360 from dec_enc _] at CM
  clear zs zc zc2 hmore p0 pz hri hlen hck hsm hrn hok1 h hok hx0 hx1 hn hn20 hq6 hb
  generalize sgn ((compS l 360 n a b p - p) - p * simpS l a b 360).num = sg at *
  generalize compS l 360 n a b p - p = f1 at *
  generalize p * simpS l a b 360 = f2 at *
  have hsg : decide (0 ≤ sg) = true := decide_eq_true hge
  unfold rat raw at *
  generalize negB p = np at *
  generalize numB p = bp at *
  generalize denomB p = dp at *
  generalize negB f1 = nu at *
  generalize numB f1 = bu at *
  generalize denomB f1 = du at *
  generalize negB f2 = nv at *
  generalize numB f2 = bv at *
  generalize denomB f2 = dv at *
  have XA1 := Lib.hid A1
  have XC1 := Lib.hid C1
  have XS1 := Lib.hid S1
  have XCM := Lib.hid CM
  clear A1 C1 S1 CM
  by_cases hlong : n < q
  · have hl2 : decide (n < q) = true := decide_eq_true hlong
    clear heq hlong hge
    go_enter Tryd.func16, Tryd.ntmps16
    have HS := Lib.hid (St.start w)
    go_wp2_with fail
    refine (HQ.out).mono ?_
    rintro e w2 ⟨v2, rfl, hl2, hb2⟩
    have HS2 := Lib.hid (HS.out.call hb2)
    have Q_2 := Lib.hid hl2
    clear hl2
    clear hb2 HS
    go_wp2_with fail
    refine (XA1.out _).mono ?_
    rintro e w3 ⟨rfl, hb3⟩
    have HS3 := Lib.hid (HS2.out.call hb3)
    have Q_3 := Lib.hid (Q_2.out.below hb3)
    clear Q_2
    clear hb3 HS2
    go_wp2_with fail
    have HS4 : Hid (St w [⟨w3.heap.size, #[.bool np, .string (bs bp), .string (bs dp)], 30⟩] _) := Lib.hid (St.alloc (HS3.out) #[.bool np, .string (bs bp), .string (bs dp)] 30 _ (by simp))
    refine (XS1.out _ _ (Q_3.out.below (Ext.alloc (Below.refl w3.heap.size w3) (Obj.cells #[.bool np, .string (bs bp), .string (bs dp)] 30)))).mono ?_
    rintro e w5 ⟨rfl, hb5⟩
    have HS5 := Lib.hid (HS4.out.call hb5)
    have Q_5 := Lib.hid (Q_3.out.below (Ext.trans (Ext.alloc (Below.refl w3.heap.size w3) (Obj.cells #[.bool np, .string (bs bp), .string (bs dp)] 30)) hb5))
    clear Q_3
    clear hb5 HS3 HS4
    have x1 := HS5.out.cell 0 rfl 0 rfl
    have x2 := HS5.out.cell 0 rfl 1 rfl
    have x3 := HS5.out.cell 0 rfl 2 rfl
    have x4 := HS5.out.lt 0 rfl
    have x5 : ¬ w3.heap.size = w5.heap.size := by omega
    have x6 : ¬ w5.heap.size = w3.heap.size := by omega
    go_wp2_with fail
    have HS6 : Hid (St w [⟨w5.heap.size, #[.bool nv, .string (bs bv), .string (bs dv)], 30⟩, ⟨w3.heap.size, #[.bool np, .string (bs bp), .string (bs dp)], 30⟩] _) := Lib.hid (St.alloc (HS5.out) #[.bool nv, .string (bs bv), .string (bs dv)] 30 _ (by simp))
    refine (XC1.out _ _ (Q_5.out.below (Ext.alloc (Below.refl w5.heap.size w5) (Obj.cells #[.bool nv, .string (bs bv), .string (bs dv)] 30)))).mono ?_
    rintro e w7 ⟨rfl, hb7⟩
    have HS7 := Lib.hid (HS6.out.call hb7)
    have Q_7 := Lib.hid (Q_5.out.below (Ext.trans (Ext.alloc (Below.refl w5.heap.size w5) (Obj.cells #[.bool nv, .string (bs bv), .string (bs dv)] 30)) hb7))
    clear Q_5
    clear hb7 HS5 HS6
    clear x1 x2 x3 x4 x5 x6
    have x7 := HS7.out.cell 0 rfl 0 rfl
    have x8 := HS7.out.cell 0 rfl 1 rfl
    have x9 := HS7.out.cell 0 rfl 2 rfl
    have x10 := HS7.out.lt 0 rfl
    have x11 : ¬ w5.heap.size = w7.heap.size := by omega
    have x12 : ¬ w7.heap.size = w5.heap.size := by omega
    go_wp2_with fail
    have HS8 : Hid (St w [⟨w7.heap.size, #[.bool nu, .string (bs bu), .string (bs du)], 30⟩, ⟨w5.heap.size, #[.bool nv, .string (bs bv), .string (bs dv)], 30⟩, ⟨w3.heap.size, #[.bool np, .string (bs bp), .string (bs dp)], 30⟩] _) := Lib.hid (St.alloc (HS7.out) #[.bool nu, .string (bs bu), .string (bs du)] 30 _ (by simp))
    refine (XCM.out _).mono ?_
    rintro e w9 ⟨rfl, hb9⟩
    have HS9 := Lib.hid (HS8.out.call hb9)
    have Q_9 := Lib.hid (Q_7.out.below (Ext.trans (Ext.alloc (Below.refl w7.heap.size w7) (Obj.cells #[.bool nu, .string (bs bu), .string (bs du)] 30)) hb9))
    clear Q_7
    clear hb9 HS7 HS8
    clear x7 x8 x9 x10 x11 x12
    go_wp2_with fail
    refine (HAW.out _).mono ?_
    rintro e w10 ⟨rfl, hb10⟩
    have HS10 := Lib.hid (HS9.out.call hb10)
    have Q_10 := Lib.hid (Q_9.out.below hb10)
    clear Q_9
    clear hb10 HS9
    go_wp2
    go_ret
    have HS11 : Hid (St w [⟨w7.heap.size, #[.bool nu, .string (bs bu), .string (bs du)], 30⟩, ⟨w5.heap.size, #[.bool nv, .string (bs bv), .string (bs dv)], 30⟩, ⟨w3.heap.size, #[.bool np, .string (bs bp), .string (bs dp)], 30⟩] _) := Lib.hid HS10.out
    exact ⟨rfl, HS11.out.below⟩
  · have hl2 : decide (n < q) = false := decide_eq_false hlong
    obtain rfl : sg = 0 := heq hlong
    clear heq hlong hge
    go_enter Tryd.func16, Tryd.ntmps16
    have HS := Lib.hid (St.start w)
    go_wp2_with fail
    refine (HQ.out).mono ?_
    rintro e w2 ⟨v2, rfl, hl2, hb2⟩
    have HS2 := Lib.hid (HS.out.call hb2)
    have Q_2 := Lib.hid hl2
    clear hl2
    clear hb2 HS
    go_wp2_with fail
    refine (XA1.out _).mono ?_
    rintro e w3 ⟨rfl, hb3⟩
    have HS3 := Lib.hid (HS2.out.call hb3)
    have Q_3 := Lib.hid (Q_2.out.below hb3)
    clear Q_2
    clear hb3 HS2
    go_wp2_with fail
    have HS4 : Hid (St w [⟨w3.heap.size, #[.bool np, .string (bs bp), .string (bs dp)], 30⟩] _) := Lib.hid (St.alloc (HS3.out) #[.bool np, .string (bs bp), .string (bs dp)] 30 _ (by simp))
    refine (XS1.out _ _ (Q_3.out.below (Ext.alloc (Below.refl w3.heap.size w3) (Obj.cells #[.bool np, .string (bs bp), .string (bs dp)] 30)))).mono ?_
    rintro e w5 ⟨rfl, hb5⟩
    have HS5 := Lib.hid (HS4.out.call hb5)
    have Q_5 := Lib.hid (Q_3.out.below (Ext.trans (Ext.alloc (Below.refl w3.heap.size w3) (Obj.cells #[.bool np, .string (bs bp), .string (bs dp)] 30)) hb5))
    clear Q_3
    clear hb5 HS3 HS4
    have x1 := HS5.out.cell 0 rfl 0 rfl
    have x2 := HS5.out.cell 0 rfl 1 rfl
    have x3 := HS5.out.cell 0 rfl 2 rfl
    have x4 := HS5.out.lt 0 rfl
    have x5 : ¬ w3.heap.size = w5.heap.size := by omega
    have x6 : ¬ w5.heap.size = w3.heap.size := by omega
    go_wp2_with fail
    have HS6 : Hid (St w [⟨w5.heap.size, #[.bool nv, .string (bs bv), .string (bs dv)], 30⟩, ⟨w3.heap.size, #[.bool np, .string (bs bp), .string (bs dp)], 30⟩] _) := Lib.hid (St.alloc (HS5.out) #[.bool nv, .string (bs bv), .string (bs dv)] 30 _ (by simp))
    refine (XC1.out _ _ (Q_5.out.below (Ext.alloc (Below.refl w5.heap.size w5) (Obj.cells #[.bool nv, .string (bs bv), .string (bs dv)] 30)))).mono ?_
    rintro e w7 ⟨rfl, hb7⟩
    have HS7 := Lib.hid (HS6.out.call hb7)
    have Q_7 := Lib.hid (Q_5.out.below (Ext.trans (Ext.alloc (Below.refl w5.heap.size w5) (Obj.cells #[.bool nv, .string (bs bv), .string (bs dv)] 30)) hb7))
    clear Q_5
    clear hb7 HS5 HS6
    clear x1 x2 x3 x4 x5 x6
    have x7 := HS7.out.cell 0 rfl 0 rfl
    have x8 := HS7.out.cell 0 rfl 1 rfl
    have x9 := HS7.out.cell 0 rfl 2 rfl
    have x10 := HS7.out.lt 0 rfl
    have x11 : ¬ w5.heap.size = w7.heap.size := by omega
    have x12 : ¬ w7.heap.size = w5.heap.size := by omega
    go_wp2_with fail
    have HS8 : Hid (St w [⟨w7.heap.size, #[.bool nu, .string (bs bu), .string (bs du)], 30⟩, ⟨w5.heap.size, #[.bool nv, .string (bs bv), .string (bs dv)], 30⟩, ⟨w3.heap.size, #[.bool np, .string (bs bp), .string (bs dp)], 30⟩] _) := Lib.hid (St.alloc (HS7.out) #[.bool nu, .string (bs bu), .string (bs du)] 30 _ (by simp))
    refine (XCM.out _).mono ?_
    rintro e w9 ⟨rfl, hb9⟩
    have HS9 := Lib.hid (HS8.out.call hb9)
    have Q_9 := Lib.hid (Q_7.out.below (Ext.trans (Ext.alloc (Below.refl w7.heap.size w7) (Obj.cells #[.bool nu, .string (bs bu), .string (bs du)] 30)) hb9))
    clear Q_7
    clear hb9 HS7 HS8
    clear x7 x8 x9 x10 x11 x12
    go_wp2_with fail
    refine (HAW.out _).mono ?_
    rintro e w10 ⟨rfl, hb10⟩
    have HS10 := Lib.hid (HS9.out.call hb10)
    have Q_10 := Lib.hid (Q_9.out.below hb10)
    clear Q_9
    clear hb10 HS9
    go_wp2
    go_ret
    have HS11 : Hid (St w [⟨w7.heap.size, #[.bool nu, .string (bs bu), .string (bs du)], 30⟩, ⟨w5.heap.size, #[.bool nv, .string (bs bv), .string (bs dv)], 30⟩, ⟨w3.heap.size, #[.bool np, .string (bs bp), .string (bs dp)], 30⟩] _) := Lib.hid HS10.out
    exact ⟨rfl, HS11.out.below⟩
end Go.Proofs.YtcbjehnjbfmchaaDoor
