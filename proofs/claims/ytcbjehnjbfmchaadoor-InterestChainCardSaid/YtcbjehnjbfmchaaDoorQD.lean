/-
InterestChain: the law walked (printed by gen_law6e.py).
-/
import Derived.Test.YtcbjehnjbfmchaaDoorQC
namespace Go.Proofs.YtcbjehnjbfmchaaDoor
open Go.ChangeShapes Go.WideShapes Go.ChangeAt Go.ChangeMaps Go.RowKit

set_option maxRecDepth 100000 in
set_option maxHeartbeats 1000000 in
theorem law_InterestChain (x : Int) (v : Value) (ts : List Duo) (a m r s : Int) (w : World) (hx : 0 ≤ x ∧ x ≤ 65535) (h : Duos w v ts) (hok : ∀ t ∈ ts, t.ok) (ha : 0 ≤ a ∧ a ≤ 255) (hm : 0 ≤ m ∧ m ≤ 255) (hr : 0 ≤ r ∧ r ≤ 255) (hs : 0 ≤ s ∧ s ≤ 255) :
    Calls Tryd.prog 13 #[.int .u16 x, v, .int .u8 a, .int .u8 m, .int .u8 r, .int .u8 s] w fun e w' => e = .returned (.bool true) ∧ Below w.heap.size w w' := by
  have HQ := Lib.hid (law0_Steps v ts w h hok)
  have HAW := Lib.hid (fun W => law6_awake W)
  obtain ⟨hri, hlen, hck, hsm, hrn⟩ := stepsOf_all ts
  have hok1 : ∀ s ∈ stepsOf ts, s.num.length ≤ 1000 ∧ s.den.length ≤ 1000 := fun s hs => by have := hsm s hs; omega
  generalize stepsOf ts = l at *
  obtain ⟨hx0, hx1⟩ := hx
  obtain ⟨x, rfl⟩ := Int.eq_ofNat_of_zero_le hx0
  have A1 := fun W => law0_Amount x W (by omega)
  have p0 := amountR_nonneg x
  have pz := amountR_sized (x := x) (by omega)
  generalize amountR x = p at *
  obtain ⟨a0, a1⟩ := ha
  obtain ⟨m0, m1⟩ := hm
  obtain ⟨r0, r1⟩ := hr
  obtain ⟨s0, s1⟩ := hs
  have tr : Int.tmod r 20 = r % 20 := Int.tmod_eq_emod_of_nonneg (by omega)
  have ur : IntKind.i64.wrap (r % 20) = r % 20 := IntWalk.i64_in _ (by omega)
  have tm : Int.tmod m 6 = m % 6 := Int.tmod_eq_emod_of_nonneg (by omega)
  have um : IntKind.i64.wrap (m % 6) = m % 6 := IntWalk.i64_in _ (by omega)
  have ts : Int.tmod s 40 = s % 40 := Int.tmod_eq_emod_of_nonneg (by omega)
  have us : IntKind.i64.wrap (s % 40) = s % 40 := IntWalk.i64_in _ (by omega)
  generalize hq6 : m % 6 = q at *
  generalize hn20 : r % 20 = n0 at *
  generalize hs40 : s % 40 = s2 at *
  obtain ⟨q, rfl⟩ := Int.eq_ofNat_of_zero_le (show 0 ≤ q by omega)
  obtain ⟨n, hn⟩ : ∃ n, n = 1 + n0 := ⟨_, rfl⟩
  have n1 : 1 ≤ n ∧ n ≤ 20 := by omega
  obtain ⟨n1, n2⟩ := n1
  have nb : 0 ≤ n0 ∧ n0 ≤ 19 := by omega
  obtain ⟨nb0, nb1⟩ := nb
  have sb : 0 ≤ s2 ∧ s2 ≤ 39 := by omega
  obtain ⟨sb0, sb1⟩ := sb
  have wn : IntKind.i64.wrap n = n := IntWalk.i64_in _ (by omega)
  have en : 1 + n0 = n := hn.symm
  have g1 : n * (q : Int) ≤ n * 5 := Int.mul_le_mul_of_nonneg_left (by omega) (by omega)
  have g2 : 0 ≤ n * (q : Int) := Int.mul_nonneg (by omega) (by omega)
  obtain ⟨nq, hnq⟩ : ∃ z, z = n * (q : Int) := ⟨_, rfl⟩
  rw [← hnq] at g1 g2
  have wq : IntKind.i64.wrap nq = nq := IntWalk.i64_in _ (by omega)
  have eq' : n * (q : Int) = nq := hnq.symm
  obtain ⟨b, hb⟩ : ∃ z, z = a + nq := ⟨_, rfl⟩
  obtain ⟨c, hc⟩ : ∃ z, z = b + s2 := ⟨_, rfl⟩
  have b1 : a ≤ b ∧ b ≤ 400 := by omega
  have c1 : b ≤ c ∧ c ≤ 500 := by omega
  obtain ⟨b1, b2⟩ := b1
  obtain ⟨c1, c2⟩ := c1
  have wb : IntKind.i64.wrap b = b := IntWalk.i64_in _ (by omega)
  have eb : a + nq = b := hb.symm
  have wc : IntKind.i64.wrap c = c := IntWalk.i64_in _ (by omega)
  have ec : b + s2 = c := hc.symm
  have C1 := fun v W h => comp_call (q := p) hck hok1 (pz.mono (by decide)) p0 (src := a) (dst := b) (base := 365) (n := n) a0 b1 (by omega) (.inr rfl) n1 (by omega) (by omega) v W h
  have C3 := fun v W h => comp_call (q := p) hck hok1 (pz.mono (by decide)) p0 (src := a) (dst := c) (base := 365) (n := n) a0 (by omega) (by omega) (.inr rfl) n1 (by omega) (by omega) v W h
  have hz := fun (i j : Int) (q : Rat) (M : Nat) (hq : Sized M q) (h1 : 0 ≤ i) (h2 : j ≤ 1000) (h3 : 0 ≤ j) k => comp_sized (l := l) (base := 365) (every := n) (src := i) (dst := j) (p := q) hri (by omega) hrn hq h1 (by omega) h3 (by decide) (by omega) k
  have hch := comp_chain (l := l) (base := 365) (n := n) (a := a) (b := b) (c := c) (p := p) n1 (q := q) (by rw [hb, hnq, Int.mul_comm]) c1
  have z1 : Sized 8000 (compS l 365 n a b p) := by
    have := comp_end (l := l) (base := 365) (every := n) (src := a) (dst := b) (p := p) n1 (k := q) (by rw [Int.mul_comm, eq']; omega) (by
      rcases Nat.eq_zero_or_pos q with h0 | h0
      · exact .inl h0
      · right
        rw [Int.sub_mul, Int.mul_comm, eq']; omega)
    rw [this]
    exact (hz a b p 8 pz (by omega) (by omega) (by omega) q).mono (by omega)
  have y1 : 0 ≤ compS l 365 n a b p := by
    have := comp_more (l := l) hri (base := 365) (n := n) (a := a) (b := b) (p := p) p0 (by decide) n1 b1
    have h2 := Rat.mul_nonneg p0 (simpS_nonneg (l := l) hri (a := a) (b := b) (base := 365) (by decide))
    grind
  have z9 : ∀ (i j : Int) (q : Rat), Sized 8000 q → 0 ≤ i → i ≤ j → j ≤ 1000 → j - i ≤ 64 * n → Sized 90000 (compS l 365 n i j q) := by
    intro i j q hq h1 h2 h3 h4
    obtain ⟨k, hk64, hk1, hk2⟩ : ∃ k : Nat, k ≤ 64 ∧ j ≤ i + k * n ∧ (k = 0 ∨ i + ((k : Int) - 1) * n < j) := comp_count n1 h2 h4
    rw [comp_end n1 hk1 hk2]
    exact (hz i j q 8000 hq h1 h3 (by omega) k).mono (by omega)
  have C2 := fun v W h => comp_call (q := compS l 365 n a b p) hck hok1 (z1.mono (by decide)) y1 (src := b) (dst := c) (base := 365) (n := n) (by omega) c1 (by omega) (.inr rfl) n1 (by omega) (by omega) v W h
  have z2 := z9 b c _ z1 (by omega) c1 (by omega) (by omega)
  have z3 := z9 a c p (pz.mono (by decide)) (by omega) (by omega) (by omega) (by omega)
  rw [← hch] at C2 z2
  have AD1 := fun W => rational_AddR p (compS l 365 n a b p - p) W (pz.mono (by decide)) (by rw [Rat.sub_eq_add_neg]; exact (z1.add pz.neg).mono (by decide))
  have AD2 := fun W => rational_AddR (compS l 365 n a b p - p) (compS l 365 n a c p - compS l 365 n a b p) W (by rw [Rat.sub_eq_add_neg]; exact (z1.add pz.neg).mono (by decide)) (by rw [Rat.sub_eq_add_neg]; exact (z3.add z1.neg).mono (by decide))
  rw [show p + (compS l 365 n a b p - p) = compS l 365 n a b p by grind] at AD1
  rw [show compS l 365 n a b p - p + (compS l 365 n a c p - compS l 365 n a b p) = compS l 365 n a c p - p by grind] at AD2
  have z4 : Sized 90009 (compS l 365 n a c p - p) := by rw [Rat.sub_eq_add_neg]; exact (z3.add pz.neg).mono (by decide)
  have q1 := eql_same z4 (by decide)
  clear hz z9 hch z1 z2 z3 z4 y1 p0 pz hri hlen hck hsm hrn hok1 h hok hx0 hx1 hn hn20 hq6 hs40 hnq hb hc
  generalize compS l 365 n a b p - p = f1 at *
  generalize compS l 365 n a c p - compS l 365 n a b p = f2 at *
  generalize compS l 365 n a c p - p = f3 at *
  generalize compS l 365 n a b p = f4 at *
  unfold rat raw at *
  generalize negB p = np at *
  generalize numB p = bp at *
  generalize denomB p = dp at *
  generalize negB f1 = nu at *
  generalize numB f1 = bu at *
  generalize denomB f1 = du at *
  generalize negB f2 = nv at *
  generalize numB f2 = bv at *
  generalize denomB f2 = dv at *
  generalize negB f3 = nw at *
  generalize numB f3 = bw at *
  generalize denomB f3 = dw at *
  generalize negB f4 = nz at *
  generalize numB f4 = bz at *
  generalize denomB f4 = dz at *
  have XA1 := Lib.hid A1
  have XC1 := Lib.hid C1
  have XC2 := Lib.hid C2
  have XC3 := Lib.hid C3
  have XAD1 := Lib.hid AD1
  have XAD2 := Lib.hid AD2
  have Xq1 := Lib.hid q1
  clear A1 C1 C2 C3 AD1 AD2 q1
  go_enter Tryd.func13, Tryd.ntmps13
  have HS := Lib.hid (St.start w)
  go_wp2_with fail
  refine (HQ.out).mono ?_
  rintro e w2 ⟨v2, rfl, hl2, hb2⟩
  have HS2 := Lib.hid (HS.out.call hb2)
  have Q_2 := Lib.hid hl2
  clear hl2
  clear hb2 HS
  go_wp2_with fail
  refine (XA1.out _).mono ?_
  rintro e w3 ⟨rfl, hb3⟩
  have HS3 := Lib.hid (HS2.out.call hb3)
  have Q_3 := Lib.hid (Q_2.out.below hb3)
  clear Q_2
  clear hb3 HS2
  go_wp2_with fail
  have HS4 : Hid (St w [⟨w3.heap.size, #[.bool np, .string (bs bp), .string (bs dp)], 30⟩] _) := Lib.hid (St.alloc (HS3.out) #[.bool np, .string (bs bp), .string (bs dp)] 30 _ (by simp))
  refine (XC1.out _ _ (Q_3.out.below (Ext.alloc (Below.refl w3.heap.size w3) (Obj.cells #[.bool np, .string (bs bp), .string (bs dp)] 30)))).mono ?_
  rintro e w5 ⟨rfl, hb5⟩
  have HS5 := Lib.hid (HS4.out.call hb5)
  have Q_5 := Lib.hid (Q_3.out.below (Ext.trans (Ext.alloc (Below.refl w3.heap.size w3) (Obj.cells #[.bool np, .string (bs bp), .string (bs dp)] 30)) hb5))
  clear Q_3
  clear hb5 HS3 HS4
  have x1 := HS5.out.cell 0 rfl 0 rfl
  have x2 := HS5.out.cell 0 rfl 1 rfl
  have x3 := HS5.out.cell 0 rfl 2 rfl
  have x4 := HS5.out.lt 0 rfl
  have x5 : ¬ w3.heap.size = w5.heap.size := by omega
  have x6 : ¬ w5.heap.size = w3.heap.size := by omega
  go_wp2_with fail
  have HS6 : Hid (St w [⟨w5.heap.size, #[.bool nu, .string (bs bu), .string (bs du)], 30⟩, ⟨w3.heap.size, #[.bool np, .string (bs bp), .string (bs dp)], 30⟩] _) := Lib.hid (St.alloc (HS5.out) #[.bool nu, .string (bs bu), .string (bs du)] 30 _ (by simp))
  refine (XAD1.out _).mono ?_
  rintro e w7 ⟨rfl, hb7⟩
  have HS7 := Lib.hid (HS6.out.call hb7)
  have Q_7 := Lib.hid (Q_5.out.below (Ext.trans (Ext.alloc (Below.refl w5.heap.size w5) (Obj.cells #[.bool nu, .string (bs bu), .string (bs du)] 30)) hb7))
  clear Q_5
  clear hb7 HS5 HS6
  clear x1 x2 x3 x4 x5 x6
  go_wp2_with fail
  refine (XC2.out _ _ Q_7.out).mono ?_
  rintro e w8 ⟨rfl, hb8⟩
  have HS8 := Lib.hid (HS7.out.call hb8)
  have Q_8 := Lib.hid (Q_7.out.below hb8)
  clear Q_7
  clear hb8 HS7
  have x7 := HS8.out.cell 1 rfl 0 rfl
  have x8 := HS8.out.cell 1 rfl 1 rfl
  have x9 := HS8.out.cell 1 rfl 2 rfl
  have x10 := HS8.out.lt 1 rfl
  have x11 : ¬ w3.heap.size = w8.heap.size := by omega
  have x12 : ¬ w8.heap.size = w3.heap.size := by omega
  go_wp2_with fail
  have HS9 : Hid (St w [⟨w8.heap.size, #[.bool nv, .string (bs bv), .string (bs dv)], 30⟩, ⟨w5.heap.size, #[.bool nu, .string (bs bu), .string (bs du)], 30⟩, ⟨w3.heap.size, #[.bool np, .string (bs bp), .string (bs dp)], 30⟩] _) := Lib.hid (St.alloc (HS8.out) #[.bool nv, .string (bs bv), .string (bs dv)] 30 _ (by simp))
  refine (XC3.out _ _ (Q_8.out.below (Ext.alloc (Below.refl w8.heap.size w8) (Obj.cells #[.bool nv, .string (bs bv), .string (bs dv)] 30)))).mono ?_
  rintro e w10 ⟨rfl, hb10⟩
  have HS10 := Lib.hid (HS9.out.call hb10)
  have Q_10 := Lib.hid (Q_8.out.below (Ext.trans (Ext.alloc (Below.refl w8.heap.size w8) (Obj.cells #[.bool nv, .string (bs bv), .string (bs dv)] 30)) hb10))
  clear Q_8
  clear hb10 HS8 HS9
  clear x7 x8 x9 x10 x11 x12
  go_wp2
  have HS11 : Hid (St w [⟨w10.heap.size, #[.bool nw, .string (bs bw), .string (bs dw)], 30⟩, ⟨w8.heap.size, #[.bool nv, .string (bs bv), .string (bs dv)], 30⟩, ⟨w5.heap.size, #[.bool nu, .string (bs bu), .string (bs du)], 30⟩, ⟨w3.heap.size, #[.bool np, .string (bs bp), .string (bs dp)], 30⟩] _) := Lib.hid (St.alloc (HS10.out) #[.bool nw, .string (bs bw), .string (bs dw)] 30 _ (by simp))
  clear HS10
  have Q_11 := Lib.hid (Q_10.out.below (Ext.alloc (Below.refl w10.heap.size w10) (Obj.cells #[.bool nw, .string (bs bw), .string (bs dw)] 30)))
  clear Q_10
  refine wp_region_facts 20 [fun _ vv => vv = .bool true, fun _ vv => vv = .bool true, fun _ vv => vv = .int .i64 0, fun _ vv => vv = .bool true, fun _ vv => vv = .bool true, fun _ vv => vv = .bool true, fun _ vv => vv = .int .i64 0, fun _ vv => vv = .bool true, fun _ vv => vv = .bool true, fun _ vv => vv = .bool true, fun _ vv => vv = .int .i64 0, fun _ vv => vv = .bool true, fun _ vv => vv = .bool true, fun _ vv => vv = .bool true, fun _ vv => vv = .agg #[.bool nu, .string (bs bu), .string (bs du)], fun _ vv => vv = .agg #[.bool nv, .string (bs bv), .string (bs dv)], fun _ vv => vv = .agg #[.bool nw, .string (bs bw), .string (bs dw)], fun _ vv => vv = .agg #[.bool nw, .string (bs bw), .string (bs dw)], fun _ vv => vv = .bool true, fun _ vv => vv = .bool true] rfl (by kernel_rfl) (by kernel_rfl) (by kernel_rfl) ⟨fun _ _ _ h _ => h, fun _ _ _ h _ => h, fun _ _ _ h _ => h, fun _ _ _ h _ => h, fun _ _ _ h _ => h, fun _ _ _ h _ => h, fun _ _ _ h _ => h, fun _ _ _ h _ => h, fun _ _ _ h _ => h, fun _ _ _ h _ => h, fun _ _ _ h _ => h, fun _ _ _ h _ => h, fun _ _ _ h _ => h, fun _ _ _ h _ => h, fun _ _ _ h _ => h, fun _ _ _ h _ => h, fun _ _ _ h _ => h, fun _ _ _ h _ => h, fun _ _ _ h _ => h, fun _ _ _ h _ => h, trivial⟩ ?_ ?_
  refine ⟨?_, ?_, ?_, ?_, ?_, ?_, ?_, ?_, ?_, ?_, ?_, ?_, ?_, ?_, ?_, ?_, ?_, ?_, ?_, ?_, trivial⟩
  · intro xx af wv hbx hev hev0 hd
    clear hev hev0 hd
    go_wp2_with fail
    refine (HAW.out _).mono ?_
    rintro e w8 ⟨rfl, hb8⟩
    go_wp2
    exact StepQ.mk _ hb8 rfl
  · intro xx af wv hbx hev hev0 hd
    have e76 := hev 0 _ 76 rfl rfl
    have d0 : xx 0 = .bool true := hd ⟨0, .data⟩ (by simp) rfl
    rw [d0] at e76
    clear d0
    clear hev hev0 hd
    go_wp2
    exact StepQ.mk _ (Below.refl _ _) rfl
  · intro xx af wv hbx hev hev0 hd
    have e77 := hev 1 _ 77 rfl rfl
    have d1 : xx 1 = .bool true := hd ⟨1, .guard⟩ (by simp) rfl
    rw [d1] at e77
    clear d1
    have e20 : af.tmps[20]?.getD undef = .int .i64 0 := hev0 20 rfl
    have q77 := getD_bool e77
    clear hev hev0 hd
    go_wp2
    exact StepQ.mk _ (Below.refl _ _) rfl
  · intro xx af wv hbx hev hev0 hd
    have e77 := hev 1 _ 77 rfl rfl
    have d1 : xx 1 = .bool true := hd ⟨1, .guard⟩ (by simp) rfl
    rw [d1] at e77
    clear d1
    have e78 := hev 2 _ 78 rfl rfl
    have d2 : xx 2 = .int .i64 0 := hd ⟨2, .data⟩ (by simp) rfl
    rw [d2] at e78
    clear d2
    have q77 := getD_bool e77
    clear hev hev0 hd
    go_wp2
    exact StepQ.mk _ (Below.refl _ _) rfl
  · intro xx af wv hbx hev hev0 hd
    have e77 := hev 1 _ 77 rfl rfl
    have d1 : xx 1 = .bool true := hd ⟨1, .data⟩ (by simp) rfl
    rw [d1] at e77
    clear d1
    have e79 := hev 3 _ 79 rfl rfl
    have d3 : xx 3 = .bool true := hd ⟨3, .data⟩ (by simp) rfl
    rw [d3] at e79
    clear d3
    clear hev hev0 hd
    go_wp2
    exact StepQ.mk _ (Below.refl _ _) rfl
  · intro xx af wv hbx hev hev0 hd
    have e80 := hev 4 _ 80 rfl rfl
    have d4 : xx 4 = .bool true := hd ⟨4, .data⟩ (by simp) rfl
    rw [d4] at e80
    clear d4
    clear hev hev0 hd
    go_wp2
    exact StepQ.mk _ (Below.refl _ _) rfl
  · intro xx af wv hbx hev hev0 hd
    have e81 := hev 5 _ 81 rfl rfl
    have d5 : xx 5 = .bool true := hd ⟨5, .guard⟩ (by simp) rfl
    rw [d5] at e81
    clear d5
    have e22 : af.tmps[22]?.getD undef = .int .i64 0 := hev0 22 rfl
    have q81 := getD_bool e81
    clear hev hev0 hd
    go_wp2
    exact StepQ.mk _ (Below.refl _ _) rfl
  · intro xx af wv hbx hev hev0 hd
    have e81 := hev 5 _ 81 rfl rfl
    have d5 : xx 5 = .bool true := hd ⟨5, .guard⟩ (by simp) rfl
    rw [d5] at e81
    clear d5
    have e82 := hev 6 _ 82 rfl rfl
    have d6 : xx 6 = .int .i64 0 := hd ⟨6, .data⟩ (by simp) rfl
    rw [d6] at e82
    clear d6
    have q81 := getD_bool e81
    clear hev hev0 hd
    go_wp2
    exact StepQ.mk _ (Below.refl _ _) rfl
  · intro xx af wv hbx hev hev0 hd
    have e81 := hev 5 _ 81 rfl rfl
    have d5 : xx 5 = .bool true := hd ⟨5, .data⟩ (by simp) rfl
    rw [d5] at e81
    clear d5
    have e83 := hev 7 _ 83 rfl rfl
    have d7 : xx 7 = .bool true := hd ⟨7, .data⟩ (by simp) rfl
    rw [d7] at e83
    clear d7
    clear hev hev0 hd
    go_wp2
    exact StepQ.mk _ (Below.refl _ _) rfl
  · intro xx af wv hbx hev hev0 hd
    have e84 := hev 8 _ 84 rfl rfl
    have d8 : xx 8 = .bool true := hd ⟨8, .data⟩ (by simp) rfl
    rw [d8] at e84
    clear d8
    clear hev hev0 hd
    go_wp2
    exact StepQ.mk _ (Below.refl _ _) rfl
  · intro xx af wv hbx hev hev0 hd
    have e85 := hev 9 _ 85 rfl rfl
    have d9 : xx 9 = .bool true := hd ⟨9, .guard⟩ (by simp) rfl
    rw [d9] at e85
    clear d9
    have e24 : af.tmps[24]?.getD undef = .int .i64 0 := hev0 24 rfl
    have q85 := getD_bool e85
    clear hev hev0 hd
    go_wp2
    exact StepQ.mk _ (Below.refl _ _) rfl
  · intro xx af wv hbx hev hev0 hd
    have e85 := hev 9 _ 85 rfl rfl
    have d9 : xx 9 = .bool true := hd ⟨9, .guard⟩ (by simp) rfl
    rw [d9] at e85
    clear d9
    have e86 := hev 10 _ 86 rfl rfl
    have d10 : xx 10 = .int .i64 0 := hd ⟨10, .data⟩ (by simp) rfl
    rw [d10] at e86
    clear d10
    have q85 := getD_bool e85
    clear hev hev0 hd
    go_wp2
    exact StepQ.mk _ (Below.refl _ _) rfl
  · intro xx af wv hbx hev hev0 hd
    have e85 := hev 9 _ 85 rfl rfl
    have d9 : xx 9 = .bool true := hd ⟨9, .data⟩ (by simp) rfl
    rw [d9] at e85
    clear d9
    have e87 := hev 11 _ 87 rfl rfl
    have d11 : xx 11 = .bool true := hd ⟨11, .data⟩ (by simp) rfl
    rw [d11] at e87
    clear d11
    clear hev hev0 hd
    go_wp2
    exact StepQ.mk _ (Below.refl _ _) rfl
  · intro xx af wv hbx hev hev0 hd
    have e88 := hev 12 _ 88 rfl rfl
    have d12 : xx 12 = .bool true := hd ⟨12, .data⟩ (by simp) rfl
    rw [d12] at e88
    clear d12
    clear hev hev0 hd
    go_wp2
    exact StepQ.mk _ (Below.refl _ _) rfl
  · intro xx af wv hbx hev hev0 hd
    have e89 := hev 13 _ 89 rfl rfl
    have d13 : xx 13 = .bool true := hd ⟨13, .guard⟩ (by simp) rfl
    rw [d13] at e89
    clear d13
    have e19 : af.tmps[19]?.getD undef = .pointer (some ⟨w5.heap.size, 0, none⟩) := hev0 19 rfl
    have q89 := getD_bool e89
    clear hev hev0 hd
    have hs1 := Lib.hid (HS11.out.call hbx)
    have y0 := hs1.out.cell 2 rfl 0 rfl
    have y1 := hs1.out.cell 2 rfl 1 rfl
    have y2 := hs1.out.cell 2 rfl 2 rfl
    go_wp2
    exact StepQ.mk _ (Below.refl _ _) rfl
  · intro xx af wv hbx hev hev0 hd
    have e89 := hev 13 _ 89 rfl rfl
    have d13 : xx 13 = .bool true := hd ⟨13, .guard⟩ (by simp) rfl
    rw [d13] at e89
    clear d13
    have e21 : af.tmps[21]?.getD undef = .pointer (some ⟨w8.heap.size, 0, none⟩) := hev0 21 rfl
    have q89 := getD_bool e89
    clear hev hev0 hd
    have hs1 := Lib.hid (HS11.out.call hbx)
    have y0 := hs1.out.cell 1 rfl 0 rfl
    have y1 := hs1.out.cell 1 rfl 1 rfl
    have y2 := hs1.out.cell 1 rfl 2 rfl
    go_wp2
    exact StepQ.mk _ (Below.refl _ _) rfl
  · intro xx af wv hbx hev hev0 hd
    have e89 := hev 13 _ 89 rfl rfl
    have d13 : xx 13 = .bool true := hd ⟨13, .chain⟩ (by simp) rfl
    rw [d13] at e89
    clear d13
    have e90 := hev 14 _ 90 rfl rfl
    have d14 : xx 14 = .agg #[.bool nu, .string (bs bu), .string (bs du)] := hd ⟨14, .data⟩ (by simp) rfl
    rw [d14] at e90
    clear d14
    have e91 := hev 15 _ 91 rfl rfl
    have d15 : xx 15 = .agg #[.bool nv, .string (bs bv), .string (bs dv)] := hd ⟨15, .data⟩ (by simp) rfl
    rw [d15] at e91
    clear d15
    have q89 := getD_bool e89
    clear hev hev0 hd
    go_wp2_with fail
    refine (XAD2.out _).mono ?_
    rintro e w8 ⟨rfl, hb8⟩
    go_wp2
    exact StepQ.mk _ hb8 rfl
  · intro xx af wv hbx hev hev0 hd
    have e89 := hev 13 _ 89 rfl rfl
    have d13 : xx 13 = .bool true := hd ⟨13, .guard⟩ (by simp) rfl
    rw [d13] at e89
    clear d13
    have e23 : af.tmps[23]?.getD undef = .pointer (some ⟨w10.heap.size, 0, none⟩) := hev0 23 rfl
    have q89 := getD_bool e89
    clear hev hev0 hd
    have hs1 := Lib.hid (HS11.out.call hbx)
    have y0 := hs1.out.cell 0 rfl 0 rfl
    have y1 := hs1.out.cell 0 rfl 1 rfl
    have y2 := hs1.out.cell 0 rfl 2 rfl
    go_wp2
    exact StepQ.mk _ (Below.refl _ _) rfl
  · intro xx af wv hbx hev hev0 hd
    have e89 := hev 13 _ 89 rfl rfl
    have d13 : xx 13 = .bool true := hd ⟨13, .guard⟩ (by simp) rfl
    rw [d13] at e89
    clear d13
    have e92 := hev 16 _ 92 rfl rfl
    have d16 : xx 16 = .agg #[.bool nw, .string (bs bw), .string (bs dw)] := hd ⟨16, .data⟩ (by simp) rfl
    rw [d16] at e92
    clear d16
    have e93 := hev 17 _ 93 rfl rfl
    have d17 : xx 17 = .agg #[.bool nw, .string (bs bw), .string (bs dw)] := hd ⟨17, .data⟩ (by simp) rfl
    rw [d17] at e93
    clear d17
    have q89 := getD_bool e89
    clear hev hev0 hd
    have en := Xq1.out
    go_wp2
    exact StepQ.mk _ (Below.refl _ _) rfl
  · intro xx af wv hbx hev hev0 hd
    have e89 := hev 13 _ 89 rfl rfl
    have d13 : xx 13 = .bool true := hd ⟨13, .data⟩ (by simp) rfl
    rw [d13] at e89
    clear d13
    have e94 := hev 18 _ 94 rfl rfl
    have d18 : xx 18 = .bool true := hd ⟨18, .data⟩ (by simp) rfl
    rw [d18] at e94
    clear d18
    clear hev hev0 hd
    go_wp2
    exact StepQ.mk _ (Below.refl _ _) rfl
  intro xx w13 hb9 hv
  have hv0 : xx 0 = .bool true := hv 0 (by decide)
  have hv1 : xx 1 = .bool true := hv 1 (by decide)
  have hv2 : xx 2 = .int .i64 0 := hv 2 (by decide)
  have hv3 : xx 3 = .bool true := hv 3 (by decide)
  have hv4 : xx 4 = .bool true := hv 4 (by decide)
  have hv5 : xx 5 = .bool true := hv 5 (by decide)
  have hv6 : xx 6 = .int .i64 0 := hv 6 (by decide)
  have hv7 : xx 7 = .bool true := hv 7 (by decide)
  have hv8 : xx 8 = .bool true := hv 8 (by decide)
  have hv9 : xx 9 = .bool true := hv 9 (by decide)
  have hv10 : xx 10 = .int .i64 0 := hv 10 (by decide)
  have hv11 : xx 11 = .bool true := hv 11 (by decide)
  have hv12 : xx 12 = .bool true := hv 12 (by decide)
  have hv13 : xx 13 = .bool true := hv 13 (by decide)
  have hv14 : xx 14 = .agg #[.bool nu, .string (bs bu), .string (bs du)] := hv 14 (by decide)
  have hv15 : xx 15 = .agg #[.bool nv, .string (bs bv), .string (bs dv)] := hv 15 (by decide)
  have hv16 : xx 16 = .agg #[.bool nw, .string (bs bw), .string (bs dw)] := hv 16 (by decide)
  have hv17 : xx 17 = .agg #[.bool nw, .string (bs bw), .string (bs dw)] := hv 17 (by decide)
  have hv18 : xx 18 = .bool true := hv 18 (by decide)
  have hv19 : xx 19 = .bool true := hv 19 (by decide)
  clear hv
  simp only [List.take, List.drop, fillA, Act.put]
  simp only [hv0, hv1, hv2, hv3, hv4, hv5, hv6, hv7, hv8, hv9, hv10, hv11, hv12, hv13, hv14, hv15, hv16, hv17, hv18, hv19]
  clear hv0 hv1 hv2 hv3 hv4 hv5 hv6 hv7 hv8 hv9 hv10 hv11 hv12 hv13 hv14 hv15 hv16 hv17 hv18 hv19
  have HS13 := Lib.hid (HS11.out.call hb9)
  have Q_13 := Lib.hid (Q_11.out.below hb9)
  clear Q_11
  clear hb9 HS11
  go_wp2
  go_ret
  have HS14 : Hid (St w [⟨w10.heap.size, #[.bool nw, .string (bs bw), .string (bs dw)], 30⟩, ⟨w8.heap.size, #[.bool nv, .string (bs bv), .string (bs dv)], 30⟩, ⟨w5.heap.size, #[.bool nu, .string (bs bu), .string (bs du)], 30⟩, ⟨w3.heap.size, #[.bool np, .string (bs bp), .string (bs dp)], 30⟩] _) := Lib.hid HS13.out
  exact ⟨rfl, HS14.out.below⟩
end Go.Proofs.YtcbjehnjbfmchaaDoor
