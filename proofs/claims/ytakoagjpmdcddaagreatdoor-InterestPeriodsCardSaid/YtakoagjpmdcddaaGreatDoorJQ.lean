/-
InterestPeriods: the law walked (printed by gen_int9.py).
-/
import Derived.Test.YtakoagjpmdcddaaGreatDoorJP
import Derived.Test.YtakoagjpmdcddaaGreatDoorW6
import Derived.Test.YtakoagjpmdcddaaGreatDoorVI
namespace Go.Proofs.YtakoagjpmdcddaaGreatDoor
open Go.RowKit

theorem args_fine {p : Rat} {l : List Stp} {src dst base every : Int} (hck : checkS l = 0) (h1 : 0 ≤ src) (h2 : src ≤ dst) (h3 : dst ≤ 1048576) (hb : base = 360 ∨ base = 365) (he : 1 ≤ every) (hp : 0 ≤ p) : argsErr p l src dst base every = 0 := by
  have d1 : dayB src = true := by unfold dayB; rw [decide_eq_true h1, decide_eq_true (by omega)]; rfl
  have d2 : dayB dst = true := by unfold dayB; rw [decide_eq_true (by omega), decide_eq_true h3]; rfl
  exact args_ok hck (args_no d1 d2 hb (by omega)) (by omega) (sgn_nonneg hp)

set_option maxRecDepth 100000 in
set_option maxHeartbeats 2000000 in
theorem law_InterestPeriods (x : Int) (v : Value) (ts : List Duo) (a b d : Int) (w : World) (hx : 0 ≤ x ∧ x ≤ 65535) (h : Duos w v ts) (hok : ∀ t ∈ ts, t.ok) (ha : 0 ≤ a ∧ a ≤ 255) (hb : 0 ≤ b ∧ b ≤ 255) (hd : 0 ≤ d ∧ d ≤ 255) :
    Calls Tryz.prog 4 #[.int .u16 x, v, .int .u8 a, .int .u8 b, .int .u8 d] w fun e w' => e = .returned (.bool true) ∧ Below w.heap.size w w' := by
  have HQ := Lib.hid (law0_Steps v ts w h hok)
  have HAW := Lib.hid (fun W => law6_awake W)
  obtain ⟨hri, hlen, hck, hsm, hrn⟩ := stepsOf_all ts
  have hok1 : ∀ s ∈ stepsOf ts, s.num.length ≤ 1000 ∧ s.den.length ≤ 1000 := fun s hs => by have := hsm s hs; omega
  generalize stepsOf ts = l at *
  obtain ⟨hx0, hx1⟩ := hx
  obtain ⟨x, rfl⟩ := Int.eq_ofNat_of_zero_le hx0
  have A1 := fun W => law0_Amount x W (by omega)
  have p0 := amountR_nonneg x
  have pz := amountR_sized (x := x) (by omega)
  generalize amountR x = p at *
  obtain ⟨a0, a1⟩ := ha
  obtain ⟨b0, b1⟩ := hb
  obtain ⟨d0, d1⟩ := hd
  have w1 : IntKind.i64.wrap a = a := IntWalk.i64_in _ (by omega)
  have w2 : IntKind.i64.wrap b = b := IntWalk.i64_in _ (by omega)
  have w3 : IntKind.i64.wrap (a + b) = a + b := IntWalk.i64_in _ (by omega)
  have w4 : Int.tmod d 40 = d % 40 := Int.tmod_eq_emod_of_nonneg d0
  have w5 : IntKind.u8.wrap (d % 40) = d % 40 := by rw [IntKind.wrap_u8]; omega
  have w6 : IntKind.i64.wrap (d % 40) = d % 40 := IntWalk.i64_in _ (by omega)
  have w7 : IntKind.i64.wrap (1 + d % 40) = 1 + d % 40 := IntWalk.i64_in _ (by omega)
  obtain ⟨n, hn⟩ : ∃ y, y = 1 + d % 40 := ⟨_, rfl⟩
  have hn1 : 1 ≤ n ∧ n ≤ 40 := by omega
  rw [← hn] at w7
  have hn2 : 1 + d % 40 = n := hn.symm
  have w8 : IntKind.i64.wrap (n * 64) = n * 64 := IntWalk.i64_in _ (by omega)
  have w9 : IntKind.i64.wrap n = n := IntWalk.i64_in _ (by omega)
  have hf := args_fine (p := p) (base := 365) (src := a) (dst := a + b) (every := n) hck a0 (by omega) (by omega) (.inr rfl) hn1.1 p0
  have hz := compR_sized (src := a) (dst := a + b) (base := 365) (every := n) (pz.mono (show 8 ≤ 100000 by decide)) hok1
  have c1 := fun u W (hu : StepsL W u l) => interest_Compound (negB p) (numB p) (denomB p) u l a (a + b) 365 n W hu hok1 (Nat.le_trans pz.num (by decide)) (Nat.le_trans pz.denom (by decide)) (by omega)
  have c2 := fun u W (hu : StepsL W u l) => ref_Compound (negB p) (numB p) (denomB p) u l a (a + b) 365 n W hu hok1 (Nat.le_trans pz.num (by decide)) (Nat.le_trans pz.denom (by decide)) (by omega)
  rw [show decR (negB p) (numB p) (denomB p) = p from dec_enc p] at c1 c2
  have K2 := @compR_long p l a (a + b) 365 n hf
  have K3 := @compR_ok p l a (a + b) 365 n hf
  by_cases hl : n * 64 < b
  · have e1 := K2 (by omega)
    rw [e1] at c1
    dsimp only at c1
    rw [rat_zero] at c1
    have q1 := fun W => rat_eql false false [] [] [] [] (by decide) (by decide) (by decide) (by decide) true (by simp) W
    have g1 : decide (n * 64 < b) = true := decide_eq_true hl
    have g2 : (bs []).toList = [] := bs_toList []
    unfold rat raw at *
    generalize negB p = np at *
    generalize numB p = bp at *
    generalize denomB p = dp at *
    have C1 := Lib.hid c1
    have A2 := Lib.hid A1
    have en1 := q1
    clear c1 c2 q1 A1 K2 K3 hz hf hri hlen hck hsm hrn hok1 hok h e1 hn
    go_enter Tryz.func4, Tryz.ntmps4
    have HS := Lib.hid (St.start w)
    go_wp2_with fail
    refine (HQ.out).mono ?_
    rintro e w2 ⟨v2, rfl, hl2, hb2⟩
    have HS2 := Lib.hid (HS.out.call hb2)
    have Q_2 := Lib.hid hl2
    clear hl2
    clear hb2 HS
    have HB0 := Lib.hid HS2.out.below
    clear HS2
    have HT2 := Lib.hid (St.start w2)
    have HZQ := Q_2.out
    have HZQ := Lib.hid HZQ
    clear Q_2
    go_wp2_with fail
    refine (A2.out _).mono ?_
    rintro e w3 ⟨rfl, hb3⟩
    have HT3 := Lib.hid (HT2.out.call hb3)
    clear hb3 HT2
    go_wp2_with fail
    have HT4 : Hid (St w2 [⟨w3.heap.size, #[.bool np, .string (bs bp), .string (bs dp)], 23⟩] _) := Lib.hid (St.alloc (HT3.out) #[.bool np, .string (bs bp), .string (bs dp)] 23 _ (by simp))
    refine (C1.out _ _ (HZQ.out.below HT4.out.below)).mono ?_
    rintro e w5 ⟨rfl, hb5⟩
    have HT5 := Lib.hid (HT4.out.call hb5)
    clear hb5 HT3 HT4
    go_wp2_with fail
    have HT6 : Hid (St w2 [⟨w5.heap.size, #[.bool false, .string (bs []), .string (bs [])], 23⟩, ⟨w3.heap.size, #[.bool np, .string (bs bp), .string (bs dp)], 23⟩] _) := Lib.hid (St.alloc (HT5.out) #[.bool false, .string (bs []), .string (bs [])] 23 _ (by simp))
    refine (HAW.out _).mono ?_
    rintro e w7 ⟨rfl, hb7⟩
    have HT7 := Lib.hid (HT6.out.call hb7)
    clear hb7 HT5 HT6
    have x1 := HT7.out.cell 0 rfl 0 rfl
    have x2 := HT7.out.cell 0 rfl 1 rfl
    have x3 := HT7.out.cell 0 rfl 2 rfl
    go_wp2
    go_ret
    have HT8 : Hid (St w2 [⟨w5.heap.size, #[.bool false, .string (bs []), .string (bs [])], 23⟩, ⟨w3.heap.size, #[.bool np, .string (bs bp), .string (bs dp)], 23⟩] _) := Lib.hid HT7.out
    exact ⟨rfl, Ext.trans HB0.out HT8.out.below⟩
  · have e1 := K3 (by omega)
    rw [e1] at c1 c2 hz
    dsimp only at c1 c2 hz
    have q1 := fun W => eql_same hz (by decide) W
    have g1 : decide (n * 64 < b) = false := decide_eq_false hl
    generalize compS l 365 n a (a + b) p - p = q at *
    unfold rat raw at *
    generalize negB p = np at *
    generalize numB p = bp at *
    generalize denomB p = dp at *
    generalize negB q = nq at *
    generalize numB q = bq at *
    generalize denomB q = dq at *
    have C1 := Lib.hid c1
    have C2 := Lib.hid c2
    have A2 := Lib.hid A1
    have en1 := q1
    clear c1 c2 q1 A1 K2 K3 hz hf hri hlen hck hsm hrn hok1 hok h e1 hn
    go_enter Tryz.func4, Tryz.ntmps4
    have HS := Lib.hid (St.start w)
    go_wp2_with fail
    refine (HQ.out).mono ?_
    rintro e w2 ⟨v2, rfl, hl2, hb2⟩
    have HS2 := Lib.hid (HS.out.call hb2)
    have Q_2 := Lib.hid hl2
    clear hl2
    clear hb2 HS
    have HB0 := Lib.hid HS2.out.below
    clear HS2
    have HT2 := Lib.hid (St.start w2)
    have HZQ := Q_2.out
    have HZQ := Lib.hid HZQ
    clear Q_2
    go_wp2_with fail
    refine (A2.out _).mono ?_
    rintro e w3 ⟨rfl, hb3⟩
    have HT3 := Lib.hid (HT2.out.call hb3)
    clear hb3 HT2
    go_wp2_with fail
    have HT4 : Hid (St w2 [⟨w3.heap.size, #[.bool np, .string (bs bp), .string (bs dp)], 23⟩] _) := Lib.hid (St.alloc (HT3.out) #[.bool np, .string (bs bp), .string (bs dp)] 23 _ (by simp))
    refine (C1.out _ _ (HZQ.out.below HT4.out.below)).mono ?_
    rintro e w5 ⟨rfl, hb5⟩
    have HT5 := Lib.hid (HT4.out.call hb5)
    clear hb5 HT3 HT4
    have x1 := HT5.out.cell 0 rfl 0 rfl
    have x2 := HT5.out.cell 0 rfl 1 rfl
    have x3 := HT5.out.cell 0 rfl 2 rfl
    have x4 := HT5.out.lt 0 rfl
    have x5 : ¬ w3.heap.size = w5.heap.size := by omega
    have x6 : ¬ w5.heap.size = w3.heap.size := by omega
    go_wp2_with fail
    have HT6 : Hid (St w2 [⟨w5.heap.size, #[.bool nq, .string (bs bq), .string (bs dq)], 23⟩, ⟨w3.heap.size, #[.bool np, .string (bs bp), .string (bs dp)], 23⟩] _) := Lib.hid (St.alloc (HT5.out) #[.bool nq, .string (bs bq), .string (bs dq)] 23 _ (by simp))
    refine (C2.out _ _ (HZQ.out.below HT6.out.below)).mono ?_
    rintro e w7 ⟨rfl, hb7⟩
    have HT7 := Lib.hid (HT6.out.call hb7)
    clear hb7 HT5 HT6
    clear x1 x2 x3 x4 x5 x6
    go_wp2_with fail
    have HT8 : Hid (St w2 [⟨w7.heap.size, #[.bool nq, .string (bs bq), .string (bs dq)], 23⟩, ⟨w5.heap.size, #[.bool nq, .string (bs bq), .string (bs dq)], 23⟩, ⟨w3.heap.size, #[.bool np, .string (bs bp), .string (bs dp)], 23⟩] _) := Lib.hid (St.alloc (HT7.out) #[.bool nq, .string (bs bq), .string (bs dq)] 23 _ (by simp))
    refine (HAW.out _).mono ?_
    rintro e w9 ⟨rfl, hb9⟩
    have HT9 := Lib.hid (HT8.out.call hb9)
    clear hb9 HT7 HT8
    have x7 := HT9.out.cell 1 rfl 0 rfl
    have x8 := HT9.out.cell 1 rfl 1 rfl
    have x9 := HT9.out.cell 1 rfl 2 rfl
    have x10 := HT9.out.cell 0 rfl 0 rfl
    have x11 := HT9.out.cell 0 rfl 1 rfl
    have x12 := HT9.out.cell 0 rfl 2 rfl
    go_wp2
    go_ret
    have HT10 : Hid (St w2 [⟨w7.heap.size, #[.bool nq, .string (bs bq), .string (bs dq)], 23⟩, ⟨w5.heap.size, #[.bool nq, .string (bs bq), .string (bs dq)], 23⟩, ⟨w3.heap.size, #[.bool np, .string (bs bp), .string (bs dp)], 23⟩] _) := Lib.hid HT9.out
    exact ⟨rfl, Ext.trans HB0.out HT10.out.below⟩
end Go.Proofs.YtakoagjpmdcddaaGreatDoor
