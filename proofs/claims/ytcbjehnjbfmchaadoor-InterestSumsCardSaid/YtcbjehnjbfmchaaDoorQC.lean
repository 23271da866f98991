/-
InterestAdditive: the law walked (printed by gen_law6d.py).
-/
import Derived.Test.YtcbjehnjbfmchaaDoorQB
import Derived.Test.YtcbjehnjbfmchaaDoorQA
namespace Go.Proofs.YtcbjehnjbfmchaaDoor
open Go.ChangeShapes Go.WideShapes Go.ChangeAt Go.ChangeMaps Go.RowKit

theorem amountR_nonneg (x : Nat) : 0 ≤ amountR x := by
  unfold amountR
  split
  · rw [← Rat.num_nonneg, ← Rat.normalize_eq_mkRat (by omega), Rat.num_normalize]
    exact Int.ediv_nonneg (by omega) (by omega)
  · split
    · rw [← Rat.num_nonneg, Rat.num_intCast]; omega
    · rw [← Rat.num_nonneg, Rat.num_intCast]; omega
theorem args_fine {p : Rat} {l : List Stp} {src dst base every : Int} (hck : checkS l = 0) (h1 : 0 ≤ src) (h2 : src ≤ dst) (h3 : dst ≤ 1048576) (hb : base = 360 ∨ base = 365) (he : 1 ≤ every) (hp : 0 ≤ p) : argsErr p l src dst base every = 0 := by
  have d1 : dayB src = true := by unfold dayB; rw [decide_eq_true h1, decide_eq_true (by omega)]; rfl
  have d2 : dayB dst = true := by unfold dayB; rw [decide_eq_true (by omega), decide_eq_true h3]; rfl
  exact args_ok hck (args_no d1 d2 hb (by omega)) (by omega) (sgn_nonneg hp)
theorem simp_call {q : Rat} {l : List Stp} (hck : checkS l = 0) (hok : ∀ s ∈ l, s.num.length ≤ 1000 ∧ s.den.length ≤ 1000) (hq : Sized 1000 q) (hq0 : 0 ≤ q) {src dst base : Int} (h1 : 0 ≤ src) (h2 : src ≤ dst) (h3 : dst ≤ 1048576) (hb : base = 360 ∨ base = 365) (v : Value) (W : World) (h : StepsL W v l) :
    Calls Tryd.prog 34 #[rat q, v, .int .i64 src, .int .i64 dst, .int .i64 base] W fun e w' => e = .returned (.tuple #[rat (q * simpS l src dst base), .int .i64 0]) ∧ Below W.heap.size W w' := by
  have := interest_Simple (negB q) (numB q) (denomB q) v l src dst base W h hok hq.num hq.denom
  rw [show decR (negB q) (numB q) (denomB q) = q from dec_enc q, simpR_ok (args_fine hck h1 h2 h3 hb (by decide) hq0)] at this
  exact this
theorem comp_call {q : Rat} {l : List Stp} (hck : checkS l = 0) (hok : ∀ s ∈ l, s.num.length ≤ 1000 ∧ s.den.length ≤ 1000) (hq : Sized 100000 q) (hq0 : 0 ≤ q) {src dst base n : Int} (h1 : 0 ≤ src) (h2 : src ≤ dst) (h3 : dst ≤ 1048576) (hb : base = 360 ∨ base = 365) (hn : 1 ≤ n) (hn2 : n ≤ 1000) (hl : dst - src ≤ 64 * n) (v : Value) (W : World) (h : StepsL W v l) :
    Calls Tryd.prog 40 #[rat q, v, .int .i64 src, .int .i64 dst, .int .i64 base, .int .i64 n] W fun e w' => e = .returned (.tuple #[rat (compS l base n src dst q - q), .int .i64 0]) ∧ Below W.heap.size W w' := by
  have := interest_Compound (negB q) (numB q) (denomB q) v l src dst base n W h hok hq.num hq.denom (by omega)
  rw [show decR (negB q) (numB q) (denomB q) = q from dec_enc q, compR_ok (args_fine hck h1 h2 h3 hb hn hq0) (by omega)] at this
  exact this
theorem rational_MulR (p q : Rat) (w : World) (hp : Sized 17179869184 p) (hq : Sized 17179869184 q) :
    Calls Tryd.prog 38 #[rat p, rat q] w fun e w' => e = .returned (rat (p * q)) ∧ Below w.heap.size w w' := by
  have := rational_MultiplyR (negB p) (numB p) (denomB p) q w hp.num hp.denom hq
  rwa [show decR (negB p) (numB p) (denomB p) = p from dec_enc p] at this

set_option maxRecDepth 100000 in
set_option maxHeartbeats 1000000 in
theorem law_InterestAdditive (x y : Int) (v : Value) (ts : List Duo) (a b d : Int) (w : World) (hx : 0 ≤ x ∧ x ≤ 65535) (hy : 0 ≤ y ∧ y ≤ 65535) (h : Duos w v ts) (hok : ∀ t ∈ ts, t.ok) (ha : 0 ≤ a ∧ a ≤ 255) (hb : 0 ≤ b ∧ b ≤ 255) (hd : 0 ≤ d ∧ d ≤ 255) :
    Calls Tryd.prog 12 #[.int .u16 x, .int .u16 y, v, .int .u8 a, .int .u8 b, .int .u8 d] w fun e w' => e = .returned (.bool true) ∧ Below w.heap.size w w' := by
  have HQ := Lib.hid (law0_Steps v ts w h hok)
  have HAW := Lib.hid (fun W => law6_awake W)
  obtain ⟨hri, hlen, hck, hsm, hrn⟩ := stepsOf_all ts
  have hok1 : ∀ s ∈ stepsOf ts, s.num.length ≤ 1000 ∧ s.den.length ≤ 1000 := fun s hs => by have := hsm s hs; omega
  generalize stepsOf ts = l at *
  obtain ⟨hx0, hx1⟩ := hx
  obtain ⟨hy0, hy1⟩ := hy
  obtain ⟨x, rfl⟩ := Int.eq_ofNat_of_zero_le hx0
  obtain ⟨y, rfl⟩ := Int.eq_ofNat_of_zero_le hy0
  have A1 := fun W => law0_Amount x W (by omega)
  have A2 := fun W => law0_Amount y W (by omega)
  have p0 := amountR_nonneg x
  have k0 := amountR_nonneg y
  have pz := amountR_sized (x := x) (by omega)
  have kz := amountR_sized (x := y) (by omega)
  generalize amountR x = p at *
  generalize amountR y = k at *
  obtain ⟨a0, a1⟩ := ha
  obtain ⟨b0, b1⟩ := hb
  obtain ⟨d0, d1⟩ := hd
  have w1 : IntKind.i64.wrap (a + b) = a + b := IntWalk.i64_in _ (by omega)
  have w2 : IntKind.i64.wrap (a + b + d) = a + b + d := IntWalk.i64_in _ (by omega)
  have sz := fun (i j : Int) (h1 : 0 ≤ i) (h2 : j ≤ 1000) (h3 : i ≤ 1000) => simp_sized (l := l) (base := 365) (src := i) (dst := j) hri (by omega) hrn h1 (by omega) (by decide) (by omega)
  have S1 := fun v W h => simp_call (q := p) hck hok1 (pz.mono (by decide)) p0 (src := a) (dst := a + b) (base := 365) a0 (by omega) (by omega) (.inr rfl) v W h
  have S2 := fun v W h => simp_call (q := p) hck hok1 (pz.mono (by decide)) p0 (src := a + b) (dst := a + b + d) (base := 365) (by omega) (by omega) (by omega) (.inr rfl) v W h
  have S3 := fun v W h => simp_call (q := p) hck hok1 (pz.mono (by decide)) p0 (src := a) (dst := a + b + d) (base := 365) a0 (by omega) (by omega) (.inr rfl) v W h
  have M1 := fun W => rational_MulR p k W (pz.mono (by decide)) (kz.mono (by decide))
  have S4 := fun v W h => simp_call (q := p * k) hck hok1 ((pz.mul kz).mono (by decide)) (Rat.mul_nonneg p0 k0) (src := a) (dst := a + b + d) (base := 365) a0 (by omega) (by omega) (.inr rfl) v W h
  have z1 := pz.mul (sz a (a + b) (by omega) (by omega) (by omega))
  have z2 := pz.mul (sz (a + b) (a + b + d) (by omega) (by omega) (by omega))
  have z3 := pz.mul (sz a (a + b + d) (by omega) (by omega) (by omega))
  have hadd : p * simpS l a (a + b) 365 + p * simpS l (a + b) (a + b + d) 365 = p * simpS l a (a + b + d) 365 := by
    rw [← simpS_add (l := l) (a := a) (b := a + b) (c := a + b + d) (base := 365) (by omega) (by omega)]; grind
  have hmul : p * simpS l a (a + b + d) 365 * k = p * k * simpS l a (a + b + d) 365 := by grind
  have AD := fun W => rational_AddR _ _ W (z1.mono (by decide)) (z2.mono (by decide))
  have MU := fun W => rational_MulR _ k W (z3.mono (by decide)) (kz.mono (by decide))
  have z4 := z3.mul kz
  rw [hadd] at AD
  rw [hmul] at MU z4
  have q1 := eql_same z3 (by decide)
  have q2 := eql_same z4 (by decide)
  generalize p * simpS l a (a + b) 365 = f1 at *
  generalize p * simpS l (a + b) (a + b + d) 365 = f2 at *
  generalize p * simpS l a (a + b + d) 365 = f3 at *
  generalize p * k * simpS l a (a + b + d) 365 = f4 at *
  generalize p * k = m at *
  clear sz hadd hmul z1 z2 z3 z4 pz kz p0 k0 hri hlen hck hsm hrn hok1 h hok hx0 hx1 hy0 hy1
  unfold rat raw at *
  generalize negB p = np at *
  generalize numB p = bp at *
  generalize denomB p = dp at *
  generalize negB k = nk at *
  generalize numB k = bk at *
  generalize denomB k = dk at *
  generalize negB m = nm at *
  generalize numB m = bm at *
  generalize denomB m = dm at *
  generalize negB f1 = nu at *
  generalize numB f1 = bu at *
  generalize denomB f1 = du at *
  generalize negB f2 = nv at *
  generalize numB f2 = bv at *
  generalize denomB f2 = dv at *
  generalize negB f3 = nw at *
  generalize numB f3 = bw at *
  generalize denomB f3 = dw at *
  generalize negB f4 = nz at *
  generalize numB f4 = bz at *
  generalize denomB f4 = dz at *
  have XA1 := Lib.hid A1
  have XA2 := Lib.hid A2
  have XS1 := Lib.hid S1
  have XS2 := Lib.hid S2
  have XS3 := Lib.hid S3
  have XS4 := Lib.hid S4
  have XM1 := Lib.hid M1
  have XAD := Lib.hid AD
  have XMU := Lib.hid MU
  have XQ1 := Lib.hid q1
  have XQ2 := Lib.hid q2
  clear A1 A2 S1 S2 S3 S4 M1 AD MU q1 q2
  go_enter Tryd.func12, Tryd.ntmps12
  have HS := Lib.hid (St.start w)
  go_wp2_with fail
  refine (HQ.out).mono ?_
  rintro e w2 ⟨v2, rfl, hl2, hb2⟩
  have HS2 := Lib.hid (HS.out.call hb2)
  have Q_2 := Lib.hid hl2
  clear hl2
  clear hb2 HS
  go_wp2_with fail
  refine (XA1.out _).mono ?_
  rintro e w3 ⟨rfl, hb3⟩
  have HS3 := Lib.hid (HS2.out.call hb3)
  have Q_3 := Lib.hid (Q_2.out.below hb3)
  clear Q_2
  clear hb3 HS2
  go_wp2_with fail
  refine (XA2.out _).mono ?_
  rintro e w4 ⟨rfl, hb4⟩
  have HS4 := Lib.hid (HS3.out.call hb4)
  have Q_4 := Lib.hid (Q_3.out.below hb4)
  clear Q_3
  clear hb4 HS3
  go_wp2_with fail
  have HS5 : Hid (St w [⟨w4.heap.size + 1, #[.bool nk, .string (bs bk), .string (bs dk)], 30⟩, ⟨w4.heap.size, #[.bool np, .string (bs bp), .string (bs dp)], 30⟩] _) := Lib.hid (St.alloc ((St.alloc (HS4.out) #[.bool np, .string (bs bp), .string (bs dp)] 30 _ (by simp))) #[.bool nk, .string (bs bk), .string (bs dk)] 30 _ (by simp))
  refine (XS1.out _ _ (Q_4.out.below (Ext.alloc (Ext.alloc (Below.refl w4.heap.size w4) (Obj.cells #[.bool np, .string (bs bp), .string (bs dp)] 30)) (Obj.cells #[.bool nk, .string (bs bk), .string (bs dk)] 30)))).mono ?_
  rintro e w6 ⟨rfl, hb6⟩
  have HS6 := Lib.hid (HS5.out.call hb6)
  have Q_6 := Lib.hid (Q_4.out.below (Ext.trans (Ext.alloc (Ext.alloc (Below.refl w4.heap.size w4) (Obj.cells #[.bool np, .string (bs bp), .string (bs dp)] 30)) (Obj.cells #[.bool nk, .string (bs bk), .string (bs dk)] 30)) hb6))
  clear Q_4
  clear hb6 HS4 HS5
  have x1 := HS6.out.cell 1 rfl 0 rfl
  have x2 := HS6.out.cell 1 rfl 1 rfl
  have x3 := HS6.out.cell 1 rfl 2 rfl
  have x4 := HS6.out.lt 1 rfl
  have x5 : ¬ w4.heap.size = w6.heap.size := by omega
  have x6 : ¬ w6.heap.size = w4.heap.size := by omega
  go_wp2_with fail
  have HS7 : Hid (St w [⟨w6.heap.size, #[.bool nu, .string (bs bu), .string (bs du)], 30⟩, ⟨w4.heap.size + 1, #[.bool nk, .string (bs bk), .string (bs dk)], 30⟩, ⟨w4.heap.size, #[.bool np, .string (bs bp), .string (bs dp)], 30⟩] _) := Lib.hid (St.alloc (HS6.out) #[.bool nu, .string (bs bu), .string (bs du)] 30 _ (by simp))
  refine (XS2.out _ _ (Q_6.out.below (Ext.alloc (Below.refl w6.heap.size w6) (Obj.cells #[.bool nu, .string (bs bu), .string (bs du)] 30)))).mono ?_
  rintro e w8 ⟨rfl, hb8⟩
  have HS8 := Lib.hid (HS7.out.call hb8)
  have Q_8 := Lib.hid (Q_6.out.below (Ext.trans (Ext.alloc (Below.refl w6.heap.size w6) (Obj.cells #[.bool nu, .string (bs bu), .string (bs du)] 30)) hb8))
  clear Q_6
  clear hb8 HS6 HS7
  clear x1 x2 x3 x4 x5 x6
  have x7 := HS8.out.cell 2 rfl 0 rfl
  have x8 := HS8.out.cell 2 rfl 1 rfl
  have x9 := HS8.out.cell 2 rfl 2 rfl
  have x10 := HS8.out.lt 2 rfl
  have x11 : ¬ w4.heap.size = w8.heap.size := by omega
  have x12 : ¬ w8.heap.size = w4.heap.size := by omega
  go_wp2_with fail
  have HS9 : Hid (St w [⟨w8.heap.size, #[.bool nv, .string (bs bv), .string (bs dv)], 30⟩, ⟨w6.heap.size, #[.bool nu, .string (bs bu), .string (bs du)], 30⟩, ⟨w4.heap.size + 1, #[.bool nk, .string (bs bk), .string (bs dk)], 30⟩, ⟨w4.heap.size, #[.bool np, .string (bs bp), .string (bs dp)], 30⟩] _) := Lib.hid (St.alloc (HS8.out) #[.bool nv, .string (bs bv), .string (bs dv)] 30 _ (by simp))
  refine (XS3.out _ _ (Q_8.out.below (Ext.alloc (Below.refl w8.heap.size w8) (Obj.cells #[.bool nv, .string (bs bv), .string (bs dv)] 30)))).mono ?_
  rintro e w10 ⟨rfl, hb10⟩
  have HS10 := Lib.hid (HS9.out.call hb10)
  have Q_10 := Lib.hid (Q_8.out.below (Ext.trans (Ext.alloc (Below.refl w8.heap.size w8) (Obj.cells #[.bool nv, .string (bs bv), .string (bs dv)] 30)) hb10))
  clear Q_8
  clear hb10 HS8 HS9
  clear x7 x8 x9 x10 x11 x12
  have x13 := HS10.out.cell 3 rfl 0 rfl
  have x14 := HS10.out.cell 3 rfl 1 rfl
  have x15 := HS10.out.cell 3 rfl 2 rfl
  have x16 := HS10.out.cell 2 rfl 0 rfl
  have x17 := HS10.out.cell 2 rfl 1 rfl
  have x18 := HS10.out.cell 2 rfl 2 rfl
  have x19 := HS10.out.lt 3 rfl
  have x20 : ¬ w4.heap.size = w10.heap.size := by omega
  have x21 : ¬ w10.heap.size = w4.heap.size := by omega
  have x22 := HS10.out.lt 2 rfl
  have x23 : ¬ w4.heap.size + 1 = w10.heap.size := by omega
  have x24 : ¬ w10.heap.size = w4.heap.size + 1 := by omega
  go_wp2_with fail
  have HS11 : Hid (St w [⟨w10.heap.size, #[.bool nw, .string (bs bw), .string (bs dw)], 30⟩, ⟨w8.heap.size, #[.bool nv, .string (bs bv), .string (bs dv)], 30⟩, ⟨w6.heap.size, #[.bool nu, .string (bs bu), .string (bs du)], 30⟩, ⟨w4.heap.size + 1, #[.bool nk, .string (bs bk), .string (bs dk)], 30⟩, ⟨w4.heap.size, #[.bool np, .string (bs bp), .string (bs dp)], 30⟩] _) := Lib.hid (St.alloc (HS10.out) #[.bool nw, .string (bs bw), .string (bs dw)] 30 _ (by simp))
  refine (XM1.out _).mono ?_
  rintro e w12 ⟨rfl, hb12⟩
  have HS12 := Lib.hid (HS11.out.call hb12)
  have Q_12 := Lib.hid (Q_10.out.below (Ext.trans (Ext.alloc (Below.refl w10.heap.size w10) (Obj.cells #[.bool nw, .string (bs bw), .string (bs dw)] 30)) hb12))
  clear Q_10
  clear hb12 HS10 HS11
  clear x13 x14 x15 x16 x17 x18 x19 x20 x21 x22 x23 x24
  go_wp2_with fail
  refine (XS4.out _ _ Q_12.out).mono ?_
  rintro e w13 ⟨rfl, hb13⟩
  have HS13 := Lib.hid (HS12.out.call hb13)
  have Q_13 := Lib.hid (Q_12.out.below hb13)
  clear Q_12
  clear hb13 HS12
  go_wp2
  have HS14 : Hid (St w [⟨w13.heap.size, #[.bool nz, .string (bs bz), .string (bs dz)], 30⟩, ⟨w10.heap.size, #[.bool nw, .string (bs bw), .string (bs dw)], 30⟩, ⟨w8.heap.size, #[.bool nv, .string (bs bv), .string (bs dv)], 30⟩, ⟨w6.heap.size, #[.bool nu, .string (bs bu), .string (bs du)], 30⟩, ⟨w4.heap.size + 1, #[.bool nk, .string (bs bk), .string (bs dk)], 30⟩, ⟨w4.heap.size, #[.bool np, .string (bs bp), .string (bs dp)], 30⟩] _) := Lib.hid (St.alloc (HS13.out) #[.bool nz, .string (bs bz), .string (bs dz)] 30 _ (by simp))
  clear HS13
  have Q_14 := Lib.hid (Q_13.out.below (Ext.alloc (Below.refl w13.heap.size w13) (Obj.cells #[.bool nz, .string (bs bz), .string (bs dz)] 30)))
  clear Q_13
  refine wp_region_facts 31 [fun _ vv => vv = .bool true, fun _ vv => vv = .bool true, fun _ vv => vv = .int .i64 0, fun _ vv => vv = .bool true, fun _ vv => vv = .bool true, fun _ vv => vv = .bool true, fun _ vv => vv = .int .i64 0, fun _ vv => vv = .bool true, fun _ vv => vv = .bool true, fun _ vv => vv = .bool true, fun _ vv => vv = .int .i64 0, fun _ vv => vv = .bool true, fun _ vv => vv = .bool true, fun _ vv => vv = .bool true, fun _ vv => vv = .int .i64 0, fun _ vv => vv = .bool true, fun _ vv => vv = .bool true, fun _ vv => vv = .bool true, fun _ vv => vv = .agg #[.bool nu, .string (bs bu), .string (bs du)], fun _ vv => vv = .agg #[.bool nv, .string (bs bv), .string (bs dv)], fun _ vv => vv = .agg #[.bool nw, .string (bs bw), .string (bs dw)], fun _ vv => vv = .agg #[.bool nw, .string (bs bw), .string (bs dw)], fun _ vv => vv = .bool true, fun _ vv => vv = .bool true, fun _ vv => vv = .bool true, fun _ vv => vv = .agg #[.bool nz, .string (bs bz), .string (bs dz)], fun _ vv => vv = .agg #[.bool nw, .string (bs bw), .string (bs dw)], fun _ vv => vv = .agg #[.bool nk, .string (bs bk), .string (bs dk)], fun _ vv => vv = .agg #[.bool nz, .string (bs bz), .string (bs dz)], fun _ vv => vv = .bool true, fun _ vv => vv = .bool true] rfl (by kernel_rfl) (by kernel_rfl) (by kernel_rfl) ⟨fun _ _ _ h _ => h, fun _ _ _ h _ => h, fun _ _ _ h _ => h, fun _ _ _ h _ => h, fun _ _ _ h _ => h, fun _ _ _ h _ => h, fun _ _ _ h _ => h, fun _ _ _ h _ => h, fun _ _ _ h _ => h, fun _ _ _ h _ => h, fun _ _ _ h _ => h, fun _ _ _ h _ => h, fun _ _ _ h _ => h, fun _ _ _ h _ => h, fun _ _ _ h _ => h, fun _ _ _ h _ => h, fun _ _ _ h _ => h, fun _ _ _ h _ => h, fun _ _ _ h _ => h, fun _ _ _ h _ => h, fun _ _ _ h _ => h, fun _ _ _ h _ => h, fun _ _ _ h _ => h, fun _ _ _ h _ => h, fun _ _ _ h _ => h, fun _ _ _ h _ => h, fun _ _ _ h _ => h, fun _ _ _ h _ => h, fun _ _ _ h _ => h, fun _ _ _ h _ => h, fun _ _ _ h _ => h, trivial⟩ ?_ ?_
  refine ⟨?_, ?_, ?_, ?_, ?_, ?_, ?_, ?_, ?_, ?_, ?_, ?_, ?_, ?_, ?_, ?_, ?_, ?_, ?_, ?_, ?_, ?_, ?_, ?_, ?_, ?_, ?_, ?_, ?_, ?_, ?_, trivial⟩
  · intro xx af wv hbx hev hev0 hd
    clear hev hev0 hd
    go_wp2_with fail
    refine (HAW.out _).mono ?_
    rintro e w8 ⟨rfl, hb8⟩
    go_wp2
    exact StepQ.mk _ hb8 rfl
  · intro xx af wv hbx hev hev0 hd
    have e82 := hev 0 _ 82 rfl rfl
    have d0 : xx 0 = .bool true := hd ⟨0, .data⟩ (by simp) rfl
    rw [d0] at e82
    clear d0
    clear hev hev0 hd
    go_wp2
    exact StepQ.mk _ (Below.refl _ _) rfl
  · intro xx af wv hbx hev hev0 hd
    have e83 := hev 1 _ 83 rfl rfl
    have d1 : xx 1 = .bool true := hd ⟨1, .guard⟩ (by simp) rfl
    rw [d1] at e83
    clear d1
    have e20 : af.tmps[20]?.getD undef = .int .i64 0 := hev0 20 rfl
    have q83 := getD_bool e83
    clear hev hev0 hd
    go_wp2
    exact StepQ.mk _ (Below.refl _ _) rfl
  · intro xx af wv hbx hev hev0 hd
    have e83 := hev 1 _ 83 rfl rfl
    have d1 : xx 1 = .bool true := hd ⟨1, .guard⟩ (by simp) rfl
    rw [d1] at e83
    clear d1
    have e84 := hev 2 _ 84 rfl rfl
    have d2 : xx 2 = .int .i64 0 := hd ⟨2, .data⟩ (by simp) rfl
    rw [d2] at e84
    clear d2
    have q83 := getD_bool e83
    clear hev hev0 hd
    go_wp2
    exact StepQ.mk _ (Below.refl _ _) rfl
  · intro xx af wv hbx hev hev0 hd
    have e83 := hev 1 _ 83 rfl rfl
    have d1 : xx 1 = .bool true := hd ⟨1, .data⟩ (by simp) rfl
    rw [d1] at e83
    clear d1
    have e85 := hev 3 _ 85 rfl rfl
    have d3 : xx 3 = .bool true := hd ⟨3, .data⟩ (by simp) rfl
    rw [d3] at e85
    clear d3
    clear hev hev0 hd
    go_wp2
    exact StepQ.mk _ (Below.refl _ _) rfl
  · intro xx af wv hbx hev hev0 hd
    have e86 := hev 4 _ 86 rfl rfl
    have d4 : xx 4 = .bool true := hd ⟨4, .data⟩ (by simp) rfl
    rw [d4] at e86
    clear d4
    clear hev hev0 hd
    go_wp2
    exact StepQ.mk _ (Below.refl _ _) rfl
  · intro xx af wv hbx hev hev0 hd
    have e87 := hev 5 _ 87 rfl rfl
    have d5 : xx 5 = .bool true := hd ⟨5, .guard⟩ (by simp) rfl
    rw [d5] at e87
    clear d5
    have e22 : af.tmps[22]?.getD undef = .int .i64 0 := hev0 22 rfl
    have q87 := getD_bool e87
    clear hev hev0 hd
    go_wp2
    exact StepQ.mk _ (Below.refl _ _) rfl
  · intro xx af wv hbx hev hev0 hd
    have e87 := hev 5 _ 87 rfl rfl
    have d5 : xx 5 = .bool true := hd ⟨5, .guard⟩ (by simp) rfl
    rw [d5] at e87
    clear d5
    have e88 := hev 6 _ 88 rfl rfl
    have d6 : xx 6 = .int .i64 0 := hd ⟨6, .data⟩ (by simp) rfl
    rw [d6] at e88
    clear d6
    have q87 := getD_bool e87
    clear hev hev0 hd
    go_wp2
    exact StepQ.mk _ (Below.refl _ _) rfl
  · intro xx af wv hbx hev hev0 hd
    have e87 := hev 5 _ 87 rfl rfl
    have d5 : xx 5 = .bool true := hd ⟨5, .data⟩ (by simp) rfl
    rw [d5] at e87
    clear d5
    have e89 := hev 7 _ 89 rfl rfl
    have d7 : xx 7 = .bool true := hd ⟨7, .data⟩ (by simp) rfl
    rw [d7] at e89
    clear d7
    clear hev hev0 hd
    go_wp2
    exact StepQ.mk _ (Below.refl _ _) rfl
  · intro xx af wv hbx hev hev0 hd
    have e90 := hev 8 _ 90 rfl rfl
    have d8 : xx 8 = .bool true := hd ⟨8, .data⟩ (by simp) rfl
    rw [d8] at e90
    clear d8
    clear hev hev0 hd
    go_wp2
    exact StepQ.mk _ (Below.refl _ _) rfl
  · intro xx af wv hbx hev hev0 hd
    have e91 := hev 9 _ 91 rfl rfl
    have d9 : xx 9 = .bool true := hd ⟨9, .guard⟩ (by simp) rfl
    rw [d9] at e91
    clear d9
    have e24 : af.tmps[24]?.getD undef = .int .i64 0 := hev0 24 rfl
    have q91 := getD_bool e91
    clear hev hev0 hd
    go_wp2
    exact StepQ.mk _ (Below.refl _ _) rfl
  · intro xx af wv hbx hev hev0 hd
    have e91 := hev 9 _ 91 rfl rfl
    have d9 : xx 9 = .bool true := hd ⟨9, .guard⟩ (by simp) rfl
    rw [d9] at e91
    clear d9
    have e92 := hev 10 _ 92 rfl rfl
    have d10 : xx 10 = .int .i64 0 := hd ⟨10, .data⟩ (by simp) rfl
    rw [d10] at e92
    clear d10
    have q91 := getD_bool e91
    clear hev hev0 hd
    go_wp2
    exact StepQ.mk _ (Below.refl _ _) rfl
  · intro xx af wv hbx hev hev0 hd
    have e91 := hev 9 _ 91 rfl rfl
    have d9 : xx 9 = .bool true := hd ⟨9, .data⟩ (by simp) rfl
    rw [d9] at e91
    clear d9
    have e93 := hev 11 _ 93 rfl rfl
    have d11 : xx 11 = .bool true := hd ⟨11, .data⟩ (by simp) rfl
    rw [d11] at e93
    clear d11
    clear hev hev0 hd
    go_wp2
    exact StepQ.mk _ (Below.refl _ _) rfl
  · intro xx af wv hbx hev hev0 hd
    have e94 := hev 12 _ 94 rfl rfl
    have d12 : xx 12 = .bool true := hd ⟨12, .data⟩ (by simp) rfl
    rw [d12] at e94
    clear d12
    clear hev hev0 hd
    go_wp2
    exact StepQ.mk _ (Below.refl _ _) rfl
  · intro xx af wv hbx hev hev0 hd
    have e95 := hev 13 _ 95 rfl rfl
    have d13 : xx 13 = .bool true := hd ⟨13, .guard⟩ (by simp) rfl
    rw [d13] at e95
    clear d13
    have e26 : af.tmps[26]?.getD undef = .int .i64 0 := hev0 26 rfl
    have q95 := getD_bool e95
    clear hev hev0 hd
    go_wp2
    exact StepQ.mk _ (Below.refl _ _) rfl
  · intro xx af wv hbx hev hev0 hd
    have e95 := hev 13 _ 95 rfl rfl
    have d13 : xx 13 = .bool true := hd ⟨13, .guard⟩ (by simp) rfl
    rw [d13] at e95
    clear d13
    have e96 := hev 14 _ 96 rfl rfl
    have d14 : xx 14 = .int .i64 0 := hd ⟨14, .data⟩ (by simp) rfl
    rw [d14] at e96
    clear d14
    have q95 := getD_bool e95
    clear hev hev0 hd
    go_wp2
    exact StepQ.mk _ (Below.refl _ _) rfl
  · intro xx af wv hbx hev hev0 hd
    have e95 := hev 13 _ 95 rfl rfl
    have d13 : xx 13 = .bool true := hd ⟨13, .data⟩ (by simp) rfl
    rw [d13] at e95
    clear d13
    have e97 := hev 15 _ 97 rfl rfl
    have d15 : xx 15 = .bool true := hd ⟨15, .data⟩ (by simp) rfl
    rw [d15] at e97
    clear d15
    clear hev hev0 hd
    go_wp2
    exact StepQ.mk _ (Below.refl _ _) rfl
  · intro xx af wv hbx hev hev0 hd
    have e98 := hev 16 _ 98 rfl rfl
    have d16 : xx 16 = .bool true := hd ⟨16, .data⟩ (by simp) rfl
    rw [d16] at e98
    clear d16
    clear hev hev0 hd
    go_wp2
    exact StepQ.mk _ (Below.refl _ _) rfl
  · intro xx af wv hbx hev hev0 hd
    have e99 := hev 17 _ 99 rfl rfl
    have d17 : xx 17 = .bool true := hd ⟨17, .guard⟩ (by simp) rfl
    rw [d17] at e99
    clear d17
    have e19 : af.tmps[19]?.getD undef = .pointer (some ⟨w6.heap.size, 0, none⟩) := hev0 19 rfl
    have q99 := getD_bool e99
    clear hev hev0 hd
    have hs1 := Lib.hid (HS14.out.call hbx)
    have y0 := hs1.out.cell 3 rfl 0 rfl
    have y1 := hs1.out.cell 3 rfl 1 rfl
    have y2 := hs1.out.cell 3 rfl 2 rfl
    go_wp2
    exact StepQ.mk _ (Below.refl _ _) rfl
  · intro xx af wv hbx hev hev0 hd
    have e99 := hev 17 _ 99 rfl rfl
    have d17 : xx 17 = .bool true := hd ⟨17, .guard⟩ (by simp) rfl
    rw [d17] at e99
    clear d17
    have e21 : af.tmps[21]?.getD undef = .pointer (some ⟨w8.heap.size, 0, none⟩) := hev0 21 rfl
    have q99 := getD_bool e99
    clear hev hev0 hd
    have hs1 := Lib.hid (HS14.out.call hbx)
    have y0 := hs1.out.cell 2 rfl 0 rfl
    have y1 := hs1.out.cell 2 rfl 1 rfl
    have y2 := hs1.out.cell 2 rfl 2 rfl
    go_wp2
    exact StepQ.mk _ (Below.refl _ _) rfl
  · intro xx af wv hbx hev hev0 hd
    have e99 := hev 17 _ 99 rfl rfl
    have d17 : xx 17 = .bool true := hd ⟨17, .chain⟩ (by simp) rfl
    rw [d17] at e99
    clear d17
    have e100 := hev 18 _ 100 rfl rfl
    have d18 : xx 18 = .agg #[.bool nu, .string (bs bu), .string (bs du)] := hd ⟨18, .data⟩ (by simp) rfl
    rw [d18] at e100
    clear d18
    have e101 := hev 19 _ 101 rfl rfl
    have d19 : xx 19 = .agg #[.bool nv, .string (bs bv), .string (bs dv)] := hd ⟨19, .data⟩ (by simp) rfl
    rw [d19] at e101
    clear d19
    have q99 := getD_bool e99
    clear hev hev0 hd
    go_wp2_with fail
    refine (XAD.out _).mono ?_
    rintro e w8 ⟨rfl, hb8⟩
    go_wp2
    exact StepQ.mk _ hb8 rfl
  · intro xx af wv hbx hev hev0 hd
    have e99 := hev 17 _ 99 rfl rfl
    have d17 : xx 17 = .bool true := hd ⟨17, .guard⟩ (by simp) rfl
    rw [d17] at e99
    clear d17
    have e23 : af.tmps[23]?.getD undef = .pointer (some ⟨w10.heap.size, 0, none⟩) := hev0 23 rfl
    have q99 := getD_bool e99
    clear hev hev0 hd
    have hs1 := Lib.hid (HS14.out.call hbx)
    have y0 := hs1.out.cell 1 rfl 0 rfl
    have y1 := hs1.out.cell 1 rfl 1 rfl
    have y2 := hs1.out.cell 1 rfl 2 rfl
    go_wp2
    exact StepQ.mk _ (Below.refl _ _) rfl
  · intro xx af wv hbx hev hev0 hd
    have e99 := hev 17 _ 99 rfl rfl
    have d17 : xx 17 = .bool true := hd ⟨17, .guard⟩ (by simp) rfl
    rw [d17] at e99
    clear d17
    have e102 := hev 20 _ 102 rfl rfl
    have d20 : xx 20 = .agg #[.bool nw, .string (bs bw), .string (bs dw)] := hd ⟨20, .data⟩ (by simp) rfl
    rw [d20] at e102
    clear d20
    have e103 := hev 21 _ 103 rfl rfl
    have d21 : xx 21 = .agg #[.bool nw, .string (bs bw), .string (bs dw)] := hd ⟨21, .data⟩ (by simp) rfl
    rw [d21] at e103
    clear d21
    have q99 := getD_bool e99
    clear hev hev0 hd
    have en := XQ1.out
    go_wp2
    exact StepQ.mk _ (Below.refl _ _) rfl
  · intro xx af wv hbx hev hev0 hd
    have e99 := hev 17 _ 99 rfl rfl
    have d17 : xx 17 = .bool true := hd ⟨17, .data⟩ (by simp) rfl
    rw [d17] at e99
    clear d17
    have e104 := hev 22 _ 104 rfl rfl
    have d22 : xx 22 = .bool true := hd ⟨22, .data⟩ (by simp) rfl
    rw [d22] at e104
    clear d22
    clear hev hev0 hd
    go_wp2
    exact StepQ.mk _ (Below.refl _ _) rfl
  · intro xx af wv hbx hev hev0 hd
    have e105 := hev 23 _ 105 rfl rfl
    have d23 : xx 23 = .bool true := hd ⟨23, .data⟩ (by simp) rfl
    rw [d23] at e105
    clear d23
    clear hev hev0 hd
    go_wp2
    exact StepQ.mk _ (Below.refl _ _) rfl
  · intro xx af wv hbx hev hev0 hd
    have e106 := hev 24 _ 106 rfl rfl
    have d24 : xx 24 = .bool true := hd ⟨24, .guard⟩ (by simp) rfl
    rw [d24] at e106
    clear d24
    have e25 : af.tmps[25]?.getD undef = .pointer (some ⟨w13.heap.size, 0, none⟩) := hev0 25 rfl
    have q106 := getD_bool e106
    clear hev hev0 hd
    have hs1 := Lib.hid (HS14.out.call hbx)
    have y0 := hs1.out.cell 0 rfl 0 rfl
    have y1 := hs1.out.cell 0 rfl 1 rfl
    have y2 := hs1.out.cell 0 rfl 2 rfl
    go_wp2
    exact StepQ.mk _ (Below.refl _ _) rfl
  · intro xx af wv hbx hev hev0 hd
    have e106 := hev 24 _ 106 rfl rfl
    have d24 : xx 24 = .bool true := hd ⟨24, .guard⟩ (by simp) rfl
    rw [d24] at e106
    clear d24
    have e23 : af.tmps[23]?.getD undef = .pointer (some ⟨w10.heap.size, 0, none⟩) := hev0 23 rfl
    have q106 := getD_bool e106
    clear hev hev0 hd
    have hs1 := Lib.hid (HS14.out.call hbx)
    have y0 := hs1.out.cell 1 rfl 0 rfl
    have y1 := hs1.out.cell 1 rfl 1 rfl
    have y2 := hs1.out.cell 1 rfl 2 rfl
    go_wp2
    exact StepQ.mk _ (Below.refl _ _) rfl
  · intro xx af wv hbx hev hev0 hd
    have e106 := hev 24 _ 106 rfl rfl
    have d24 : xx 24 = .bool true := hd ⟨24, .guard⟩ (by simp) rfl
    rw [d24] at e106
    clear d24
    have e15 : af.tmps[15]?.getD undef = .pointer (some ⟨w4.heap.size + 1, 0, none⟩) := hev0 15 rfl
    have q106 := getD_bool e106
    clear hev hev0 hd
    have hs1 := Lib.hid (HS14.out.call hbx)
    have y0 := hs1.out.cell 4 rfl 0 rfl
    have y1 := hs1.out.cell 4 rfl 1 rfl
    have y2 := hs1.out.cell 4 rfl 2 rfl
    go_wp2
    exact StepQ.mk _ (Below.refl _ _) rfl
  · intro xx af wv hbx hev hev0 hd
    have e106 := hev 24 _ 106 rfl rfl
    have d24 : xx 24 = .bool true := hd ⟨24, .chain⟩ (by simp) rfl
    rw [d24] at e106
    clear d24
    have e108 := hev 26 _ 108 rfl rfl
    have d26 : xx 26 = .agg #[.bool nw, .string (bs bw), .string (bs dw)] := hd ⟨26, .data⟩ (by simp) rfl
    rw [d26] at e108
    clear d26
    have e109 := hev 27 _ 109 rfl rfl
    have d27 : xx 27 = .agg #[.bool nk, .string (bs bk), .string (bs dk)] := hd ⟨27, .data⟩ (by simp) rfl
    rw [d27] at e109
    clear d27
    have q106 := getD_bool e106
    clear hev hev0 hd
    go_wp2_with fail
    refine (XMU.out _).mono ?_
    rintro e w8 ⟨rfl, hb8⟩
    go_wp2
    exact StepQ.mk _ hb8 rfl
  · intro xx af wv hbx hev hev0 hd
    have e106 := hev 24 _ 106 rfl rfl
    have d24 : xx 24 = .bool true := hd ⟨24, .guard⟩ (by simp) rfl
    rw [d24] at e106
    clear d24
    have e107 := hev 25 _ 107 rfl rfl
    have d25 : xx 25 = .agg #[.bool nz, .string (bs bz), .string (bs dz)] := hd ⟨25, .data⟩ (by simp) rfl
    rw [d25] at e107
    clear d25
    have e110 := hev 28 _ 110 rfl rfl
    have d28 : xx 28 = .agg #[.bool nz, .string (bs bz), .string (bs dz)] := hd ⟨28, .data⟩ (by simp) rfl
    rw [d28] at e110
    clear d28
    have q106 := getD_bool e106
    clear hev hev0 hd
    have en := XQ2.out
    go_wp2
    exact StepQ.mk _ (Below.refl _ _) rfl
  · intro xx af wv hbx hev hev0 hd
    have e106 := hev 24 _ 106 rfl rfl
    have d24 : xx 24 = .bool true := hd ⟨24, .data⟩ (by simp) rfl
    rw [d24] at e106
    clear d24
    have e111 := hev 29 _ 111 rfl rfl
    have d29 : xx 29 = .bool true := hd ⟨29, .data⟩ (by simp) rfl
    rw [d29] at e111
    clear d29
    clear hev hev0 hd
    go_wp2
    exact StepQ.mk _ (Below.refl _ _) rfl
  intro xx w16 hb9 hv
  have hv0 : xx 0 = .bool true := hv 0 (by decide)
  have hv1 : xx 1 = .bool true := hv 1 (by decide)
  have hv2 : xx 2 = .int .i64 0 := hv 2 (by decide)
  have hv3 : xx 3 = .bool true := hv 3 (by decide)
  have hv4 : xx 4 = .bool true := hv 4 (by decide)
  have hv5 : xx 5 = .bool true := hv 5 (by decide)
  have hv6 : xx 6 = .int .i64 0 := hv 6 (by decide)
  have hv7 : xx 7 = .bool true := hv 7 (by decide)
  have hv8 : xx 8 = .bool true := hv 8 (by decide)
  have hv9 : xx 9 = .bool true := hv 9 (by decide)
  have hv10 : xx 10 = .int .i64 0 := hv 10 (by decide)
  have hv11 : xx 11 = .bool true := hv 11 (by decide)
  have hv12 : xx 12 = .bool true := hv 12 (by decide)
  have hv13 : xx 13 = .bool true := hv 13 (by decide)
  have hv14 : xx 14 = .int .i64 0 := hv 14 (by decide)
  have hv15 : xx 15 = .bool true := hv 15 (by decide)
  have hv16 : xx 16 = .bool true := hv 16 (by decide)
  have hv17 : xx 17 = .bool true := hv 17 (by decide)
  have hv18 : xx 18 = .agg #[.bool nu, .string (bs bu), .string (bs du)] := hv 18 (by decide)
  have hv19 : xx 19 = .agg #[.bool nv, .string (bs bv), .string (bs dv)] := hv 19 (by decide)
  have hv20 : xx 20 = .agg #[.bool nw, .string (bs bw), .string (bs dw)] := hv 20 (by decide)
  have hv21 : xx 21 = .agg #[.bool nw, .string (bs bw), .string (bs dw)] := hv 21 (by decide)
  have hv22 : xx 22 = .bool true := hv 22 (by decide)
  have hv23 : xx 23 = .bool true := hv 23 (by decide)
  have hv24 : xx 24 = .bool true := hv 24 (by decide)
  have hv25 : xx 25 = .agg #[.bool nz, .string (bs bz), .string (bs dz)] := hv 25 (by decide)
  have hv26 : xx 26 = .agg #[.bool nw, .string (bs bw), .string (bs dw)] := hv 26 (by decide)
  have hv27 : xx 27 = .agg #[.bool nk, .string (bs bk), .string (bs dk)] := hv 27 (by decide)
  have hv28 : xx 28 = .agg #[.bool nz, .string (bs bz), .string (bs dz)] := hv 28 (by decide)
  have hv29 : xx 29 = .bool true := hv 29 (by decide)
  have hv30 : xx 30 = .bool true := hv 30 (by decide)
  clear hv
  simp only [List.take, List.drop, fillA, Act.put]
  simp only [hv0, hv1, hv2, hv3, hv4, hv5, hv6, hv7, hv8, hv9, hv10, hv11, hv12, hv13, hv14, hv15, hv16, hv17, hv18, hv19, hv20, hv21, hv22, hv23, hv24, hv25, hv26, hv27, hv28, hv29, hv30]
  clear hv0 hv1 hv2 hv3 hv4 hv5 hv6 hv7 hv8 hv9 hv10 hv11 hv12 hv13 hv14 hv15 hv16 hv17 hv18 hv19 hv20 hv21 hv22 hv23 hv24 hv25 hv26 hv27 hv28 hv29 hv30
  have HS16 := Lib.hid (HS14.out.call hb9)
  have Q_16 := Lib.hid (Q_14.out.below hb9)
  clear Q_14
  clear hb9 HS14
  go_wp2
  go_ret
  have HS17 : Hid (St w [⟨w13.heap.size, #[.bool nz, .string (bs bz), .string (bs dz)], 30⟩, ⟨w10.heap.size, #[.bool nw, .string (bs bw), .string (bs dw)], 30⟩, ⟨w8.heap.size, #[.bool nv, .string (bs bv), .string (bs dv)], 30⟩, ⟨w6.heap.size, #[.bool nu, .string (bs bu), .string (bs du)], 30⟩, ⟨w4.heap.size + 1, #[.bool nk, .string (bs bk), .string (bs dk)], 30⟩, ⟨w4.heap.size, #[.bool np, .string (bs bp), .string (bs dp)], 30⟩] _) := Lib.hid HS16.out
  exact ⟨rfl, HS17.out.below⟩
end Go.Proofs.YtcbjehnjbfmchaaDoor
