/-
InterestCompound: the law walked (printed by gen_int9.py).
-/
import Derived.Test.YtakoagjpmdcddaaGreatDoorJO
import Derived.Test.YtakoagjpmdcddaaGreatDoorW5
import Derived.Test.YtakoagjpmdcddaaGreatDoorW6
namespace Go.Proofs.YtakoagjpmdcddaaGreatDoor
open Go.RowKit

theorem compR_sized {p : Rat} {l : List Stp} {src dst base every : Int} (hp : Sized 100000 p) (hN : ∀ s ∈ l, s.num.length ≤ 1000 ∧ s.den.length ≤ 1000) : Sized 10000000 (compR p l src dst base every).1 := by
  unfold compR
  split
  · exact sized_zero.mono (by decide)
  · rename_i h
    split
    · exact sized_zero.mono (by decide)
    · rename_i hl
      obtain ⟨z1, z2, z3, z4, z5, z6, z7⟩ := args_zero (Classical.not_not.1 h)
      have q1 := dayB_in z2
      have q2 := dayB_in z3
      obtain ⟨k, hk, h1, h2⟩ := comp_count z5 z6 (by omega)
      have hx := comp_sized (base := base) (every := every) (src := src) (dst := dst) (checkS_rising z1) (checkS_zero z1).1 (rates_in (by decide) hN) hp (by omega) (by omega) (by omega) (by omega) (by omega) k
      dsimp only
      rw [comp_end z5 h1 h2, Rat.sub_eq_add_neg]
      exact (hx.add hp.neg).mono (by omega)
theorem tdiv_small {a b : Int} (h : -2000000 ≤ a ∧ a ≤ 2000000) : -2000000 ≤ Int.tdiv a b ∧ Int.tdiv a b ≤ 2000000 := by
  have h1 : (Int.tdiv a b).natAbs ≤ a.natAbs := by rw [Int.natAbs_tdiv]; exact Nat.div_le_self _ _
  omega

set_option maxRecDepth 100000 in
set_option maxHeartbeats 4000000 in
theorem law_InterestCompound (fn : Bool) (fa fb : List UInt8) (v : Value) (l : List Stp) (src dst base every : Int) (w : World) (h : StepsL w v l) (_ : ∀ s ∈ l, StpDay s) (hsr : -9223372036854775808 ≤ src ∧ src ≤ 9223372036854775807) (hds : -9223372036854775808 ≤ dst ∧ dst ≤ 9223372036854775807) (_ : -9223372036854775808 ≤ base ∧ base ≤ 9223372036854775807) (hev : -9223372036854775808 ≤ every ∧ every ≤ 9223372036854775807) :
    Calls Tryz.prog 3 #[raw fn fa fb, v, .int .i64 src, .int .i64 dst, .int .i64 base, .int .i64 every] w fun e w' => e = .returned (.bool true) ∧ Below w.heap.size w w' := by
  have hF := fun W (hb : Below w.heap.size w W) => law6_few v l W (h.below hb)
  have hG := fun W => law0_Few fn fa fb W
  have HAW := Lib.hid (fun W => law6_awake W)
  obtain ⟨fB, hfB⟩ : ∃ x, x = fewS l := ⟨_, rfl⟩
  obtain ⟨gB, hgB⟩ : ∃ x, x = fewR fa fb := ⟨_, rfl⟩
  rw [← hfB] at hF
  rw [← hgB] at hG
  unfold raw at hG
  have HF := Lib.hid hF
  have HG := Lib.hid hG
  have HFB := Lib.hid hfB.symm
  have HGB := Lib.hid hgB.symm
  clear hfB hF hgB hG
  cases fB
  · unfold raw
    go_enter Tryz.func3, Tryz.ntmps3
    have HS := Lib.hid (St.start w)
    go_wp2_with fail
    have HS2 : Hid (St w [⟨w.heap.size, #[.bool fn, .string (bs fa), .string (bs fb)], 23⟩] _) := Lib.hid (St.alloc (HS.out) #[.bool fn, .string (bs fa), .string (bs fb)] 23 _ (by simp))
    refine (HF.out _ HS2.out.below).mono ?_
    rintro e w3 ⟨rfl, hb3⟩
    have HS3 := Lib.hid (HS2.out.call hb3)
    clear hb3 HS HS2
    go_wp2_with fail
    refine (HAW.out _).mono ?_
    rintro e w4 ⟨rfl, hb4⟩
    have HS4 := Lib.hid (HS3.out.call hb4)
    clear hb4 HS3
    go_wp2
    go_ret
    have HS5 : Hid (St w [⟨w.heap.size, #[.bool fn, .string (bs fa), .string (bs fb)], 23⟩] _) := Lib.hid HS4.out
    exact ⟨rfl, HS5.out.below⟩
  · cases gB
    · unfold raw
      go_enter Tryz.func3, Tryz.ntmps3
      have HS := Lib.hid (St.start w)
      go_wp2_with fail
      have HS2 : Hid (St w [⟨w.heap.size, #[.bool fn, .string (bs fa), .string (bs fb)], 23⟩] _) := Lib.hid (St.alloc (HS.out) #[.bool fn, .string (bs fa), .string (bs fb)] 23 _ (by simp))
      refine (HF.out _ HS2.out.below).mono ?_
      rintro e w3 ⟨rfl, hb3⟩
      have HS3 := Lib.hid (HS2.out.call hb3)
      clear hb3 HS HS2
      have x1 := HS3.out.cell 0 rfl 0 rfl
      have x2 := HS3.out.cell 0 rfl 1 rfl
      have x3 := HS3.out.cell 0 rfl 2 rfl
      go_wp2_with fail
      refine (HG.out _).mono ?_
      rintro e w4 ⟨rfl, hb4⟩
      have HS4 := Lib.hid (HS3.out.call hb4)
      clear hb4 HS3
      clear x1 x2 x3
      go_wp2_with fail
      refine (HAW.out _).mono ?_
      rintro e w5 ⟨rfl, hb5⟩
      have HS5 := Lib.hid (HS4.out.call hb5)
      clear hb5 HS4
      go_wp2
      go_ret
      have HS6 : Hid (St w [⟨w.heap.size, #[.bool fn, .string (bs fa), .string (bs fb)], 23⟩] _) := Lib.hid HS5.out
      exact ⟨rfl, HS6.out.below⟩
    · have hin := fewS_in HFB.out
      have hok : ∀ s ∈ l, s.num.length ≤ 1000 ∧ s.den.length ≤ 1000 := fun s hs => by have := hin.2 s hs; omega
      have hfl : fa.length ≤ 24 ∧ fb.length ≤ 24 := by
        have := HGB.out
        unfold fewR at this
        simpa only [Bool.and_eq_true, decide_eq_true_eq] using this
      have hsp := sized_dec (neg := fn) (num := fa) (den := fb) (N := 100000) (by omega) (by omega) (by decide)
      have c1 := fun W (hb : Below w.heap.size w W) => interest_Compound fn fa fb v l src dst base every W (h.below hb) hok (by omega) (by omega) hev.2
      have c2 := fun W (hb : Below w.heap.size w W) => ref_Compound fn fa fb v l src dst base every W (h.below hb) hok (by omega) (by omega) hev.2
      have hz := compR_sized (src := src) (dst := dst) (base := base) (every := every) hsp hok
      generalize compR (decR fn fa fb) l src dst base every = r1 at *
      obtain ⟨p, n1⟩ := r1
      dsimp only at *
      have q1 := fun W => eql_same hz (by decide) W
      unfold rat raw at *
      generalize negB p = np at *
      generalize numB p = bp at *
      generalize denomB p = dp at *
      have q3 : (n1 == n1) = true := by simp
      have en1 := q1
      have hD1 := fun W => ref_IsDay src W
      have hD2 := fun W => ref_IsDay dst W
      have H := Lib.hid h
      obtain ⟨A, c, rfl, hl, hc⟩ := h.slice
      have C1 := Lib.hid c1
      have C2 := Lib.hid c2
      have HD1 := Lib.hid hD1
      have HD2 := Lib.hid hD2
      clear q1 c1 c2 hz hsp hok hin h HFB HGB hfl hD1 hD2
      go_enter Tryz.func3, Tryz.ntmps3
      have HS := Lib.hid (St.start w)
      go_wp2_with fail
      have HS2 : Hid (St w [⟨w.heap.size, #[.bool fn, .string (bs fa), .string (bs fb)], 23⟩] _) := Lib.hid (St.alloc (HS.out) #[.bool fn, .string (bs fa), .string (bs fb)] 23 _ (by simp))
      refine (HF.out _ HS2.out.below).mono ?_
      rintro e w3 ⟨rfl, hb3⟩
      have HS3 := Lib.hid (HS2.out.call hb3)
      clear hb3 HS HS2
      have x1 := HS3.out.cell 0 rfl 0 rfl
      have x2 := HS3.out.cell 0 rfl 1 rfl
      have x3 := HS3.out.cell 0 rfl 2 rfl
      go_wp2_with fail
      refine (HG.out _).mono ?_
      rintro e w4 ⟨rfl, hb4⟩
      have HS4 := Lib.hid (HS3.out.call hb4)
      clear hb4 HS3
      clear x1 x2 x3
      go_wp2
      go_loopw [30] (fun i wr => ∃ k : Nat, k ≤ l.length ∧ i = .int .i64 k ∧ Hid (St w [⟨w.heap.size, #[.bool fn, .string (bs fa), .string (bs fb)], 23⟩] wr)) (fun i _ => l.length - (intOf i).toNat)
      case atStart => exact ⟨0, Nat.zero_le _, rfl, HS4.out⟩
      case round =>
        clear HS4
        obtain ⟨k, hk, rfl, HS⟩ := hrel
        by_cases hlt : k < l.length
        · obtain ⟨b, o, s, rfl, hbb, hq, hx⟩ := H.out.at_ hlt
          have HX := Lib.hid hx
          have e0 : (0 : Int) ≤ ((k : Nat) : Int) := by omega
          have e1 : ((k : Nat) : Int) < (l.length : Int) := by omega
          have z1 : (bs s.num).size = s.num.length := bs_size _
          have z2 : (bs s.den).size = s.den.length := bs_size _
          clear hx hq
          by_cases hn : 4 < s.num.length
          · have d1 : decide (4 < s.num.length) = true := decide_eq_true hn
            have d2 : decide ((4 : Int) < (s.num.length : Int)) = true := decide_eq_true (by omega)
            have x4 : b < wr.heap.size := Nat.lt_of_lt_of_le hbb HS.out.below.size
            have x5 : ¬ b = wr.heap.size := by omega
            have x6 := HX.out _ HS.out.below 0 _ rfl
            rw [Nat.add_zero] at x6
            have x7 := HX.out _ HS.out.below 1 _ rfl
            have x8 := HX.out _ HS.out.below 2 _ rfl
            have x9 := HX.out _ HS.out.below 3 _ rfl
            go_wp2_with fail
            have HS5 : Hid (St w [⟨wr.heap.size, #[.int .i64 s.frm, .bool s.neg, .string (bs s.num), .string (bs s.den)], 29⟩, ⟨w.heap.size, #[.bool fn, .string (bs fa), .string (bs fb)], 23⟩] _) := Lib.hid (St.alloc (HS.out) #[.int .i64 s.frm, .bool s.neg, .string (bs s.num), .string (bs s.den)] 29 _ (by simp))
            refine (HAW.out _).mono ?_
            rintro e w6 ⟨rfl, hb6⟩
            have HS6 := Lib.hid (HS5.out.call hb6)
            clear hb6 HS HS5
            clear x4 x5 x6 x7 x8 x9
            go_wp2
            go_ret
            have HS7 : Hid (St w [⟨wr.heap.size, #[.int .i64 s.frm, .bool s.neg, .string (bs s.num), .string (bs s.den)], 29⟩, ⟨w.heap.size, #[.bool fn, .string (bs fa), .string (bs fb)], 23⟩] _) := Lib.hid HS6.out
            exact ⟨rfl, HS7.out.below⟩
          · by_cases hd : 4 < s.den.length
            · have d1 : decide (4 < s.num.length) = false := decide_eq_false hn
              have d2 : decide ((4 : Int) < (s.num.length : Int)) = false := decide_eq_false (by omega)
              have d3 : decide (4 < s.den.length) = true := decide_eq_true hd
              have d4 : decide ((4 : Int) < (s.den.length : Int)) = true := decide_eq_true (by omega)
              have x4 : b < wr.heap.size := Nat.lt_of_lt_of_le hbb HS.out.below.size
              have x5 : ¬ b = wr.heap.size := by omega
              have x6 := HX.out _ HS.out.below 0 _ rfl
              rw [Nat.add_zero] at x6
              have x7 := HX.out _ HS.out.below 1 _ rfl
              have x8 := HX.out _ HS.out.below 2 _ rfl
              have x9 := HX.out _ HS.out.below 3 _ rfl
              go_wp2_with fail
              have HS5 : Hid (St w [⟨wr.heap.size, #[.int .i64 s.frm, .bool s.neg, .string (bs s.num), .string (bs s.den)], 29⟩, ⟨w.heap.size, #[.bool fn, .string (bs fa), .string (bs fb)], 23⟩] _) := Lib.hid (St.alloc (HS.out) #[.int .i64 s.frm, .bool s.neg, .string (bs s.num), .string (bs s.den)] 29 _ (by simp))
              refine (HAW.out _).mono ?_
              rintro e w6 ⟨rfl, hb6⟩
              have HS6 := Lib.hid (HS5.out.call hb6)
              clear hb6 HS HS5
              clear x4 x5 x6 x7 x8 x9
              go_wp2
              go_ret
              have HS7 : Hid (St w [⟨wr.heap.size, #[.int .i64 s.frm, .bool s.neg, .string (bs s.num), .string (bs s.den)], 29⟩, ⟨w.heap.size, #[.bool fn, .string (bs fa), .string (bs fb)], 23⟩] _) := Lib.hid HS6.out
              exact ⟨rfl, HS7.out.below⟩
            · have d1 : decide (4 < s.num.length) = false := decide_eq_false hn
              have d2 : decide ((4 : Int) < (s.num.length : Int)) = false := decide_eq_false (by omega)
              have d3 : decide (4 < s.den.length) = false := decide_eq_false hd
              have d4 : decide ((4 : Int) < (s.den.length : Int)) = false := decide_eq_false (by omega)
              have x4 : b < wr.heap.size := Nat.lt_of_lt_of_le hbb HS.out.below.size
              have x5 : ¬ b = wr.heap.size := by omega
              have x6 := HX.out _ HS.out.below 0 _ rfl
              rw [Nat.add_zero] at x6
              have x7 := HX.out _ HS.out.below 1 _ rfl
              have x8 := HX.out _ HS.out.below 2 _ rfl
              have x9 := HX.out _ HS.out.below 3 _ rfl
              go_wp2
              have HS5 : Hid (St w [⟨wr.heap.size, #[.int .i64 s.frm, .bool s.neg, .string (bs s.num), .string (bs s.den)], 29⟩, ⟨w.heap.size, #[.bool fn, .string (bs fa), .string (bs fb)], 23⟩] _) := Lib.hid (St.alloc (HS.out) #[.int .i64 s.frm, .bool s.neg, .string (bs s.num), .string (bs s.den)] 29 _ (by simp))
              go_roundw
              case rel => exact ⟨k + 1, by omega, by go_num, HS5.out.sub (by simp)⟩
              case measure => simp [intOf]; omega
        · obtain rfl : k = l.length := by omega
          obtain ⟨dS, hdS⟩ : ∃ x, x = dayB src := ⟨_, rfl⟩
          obtain ⟨dD, hdD⟩ : ∃ x, x = dayB dst := ⟨_, rfl⟩
          have h1 := HD1.out
          have h2 := HD2.out
          rw [← hdS] at h1
          rw [← hdD] at h2
          have HE1 := Lib.hid h1
          have HE2 := Lib.hid h2
          have HDS := Lib.hid hdS.symm
          have HDD := Lib.hid hdD.symm
          clear h1 h2 hdS hdD HD1 HD2
          cases dS
          · go_wp2_with fail
            refine (HE1.out _).mono ?_
            rintro e w' ⟨rfl, rfl⟩
            have x4 := HS.out.cell 0 rfl 0 rfl
            have x5 := HS.out.cell 0 rfl 1 rfl
            have x6 := HS.out.cell 0 rfl 2 rfl
            go_wp2_with fail
            refine (C1.out _ HS.out.below).mono ?_
            rintro e w5 ⟨rfl, hb5⟩
            have HS5 := Lib.hid (HS.out.call hb5)
            clear hb5 HS
            clear x4 x5 x6
            have x7 := HS5.out.cell 0 rfl 0 rfl
            have x8 := HS5.out.cell 0 rfl 1 rfl
            have x9 := HS5.out.cell 0 rfl 2 rfl
            have x10 := HS5.out.lt 0 rfl
            have x11 : ¬ w.heap.size = w5.heap.size := by omega
            have x12 : ¬ w5.heap.size = w.heap.size := by omega
            go_wp2_with fail
            have HS6 : Hid (St w [⟨w5.heap.size, #[.bool np, .string (bs bp), .string (bs dp)], 23⟩, ⟨w.heap.size, #[.bool fn, .string (bs fa), .string (bs fb)], 23⟩] _) := Lib.hid (St.alloc (HS5.out) #[.bool np, .string (bs bp), .string (bs dp)] 23 _ (by simp))
            refine (C2.out _ HS6.out.below).mono ?_
            rintro e w7 ⟨rfl, hb7⟩
            have HS7 := Lib.hid (HS6.out.call hb7)
            clear hb7 HS5 HS6
            clear x7 x8 x9 x10 x11 x12
            go_wp2_with fail
            have HS8 : Hid (St w [⟨w7.heap.size, #[.bool np, .string (bs bp), .string (bs dp)], 23⟩, ⟨w5.heap.size, #[.bool np, .string (bs bp), .string (bs dp)], 23⟩, ⟨w.heap.size, #[.bool fn, .string (bs fa), .string (bs fb)], 23⟩] _) := Lib.hid (St.alloc (HS7.out) #[.bool np, .string (bs bp), .string (bs dp)] 23 _ (by simp))
            refine (HAW.out _).mono ?_
            rintro e w9 ⟨rfl, hb9⟩
            have HS9 := Lib.hid (HS8.out.call hb9)
            clear hb9 HS7 HS8
            have x13 := HS9.out.cell 1 rfl 0 rfl
            have x14 := HS9.out.cell 1 rfl 1 rfl
            have x15 := HS9.out.cell 1 rfl 2 rfl
            have x16 := HS9.out.cell 0 rfl 0 rfl
            have x17 := HS9.out.cell 0 rfl 1 rfl
            have x18 := HS9.out.cell 0 rfl 2 rfl
            go_wp2
            go_ret
            have HS10 : Hid (St w [⟨w7.heap.size, #[.bool np, .string (bs bp), .string (bs dp)], 23⟩, ⟨w5.heap.size, #[.bool np, .string (bs bp), .string (bs dp)], 23⟩, ⟨w.heap.size, #[.bool fn, .string (bs fa), .string (bs fb)], 23⟩] _) := Lib.hid HS9.out
            exact ⟨rfl, HS10.out.below⟩
          · cases dD
            · go_wp2_with fail
              refine (HE1.out _).mono ?_
              rintro e w' ⟨rfl, rfl⟩
              go_wp2_with fail
              refine (HE2.out _).mono ?_
              rintro e w' ⟨rfl, rfl⟩
              have x4 := HS.out.cell 0 rfl 0 rfl
              have x5 := HS.out.cell 0 rfl 1 rfl
              have x6 := HS.out.cell 0 rfl 2 rfl
              go_wp2_with fail
              refine (C1.out _ HS.out.below).mono ?_
              rintro e w5 ⟨rfl, hb5⟩
              have HS5 := Lib.hid (HS.out.call hb5)
              clear hb5 HS
              clear x4 x5 x6
              have x7 := HS5.out.cell 0 rfl 0 rfl
              have x8 := HS5.out.cell 0 rfl 1 rfl
              have x9 := HS5.out.cell 0 rfl 2 rfl
              have x10 := HS5.out.lt 0 rfl
              have x11 : ¬ w.heap.size = w5.heap.size := by omega
              have x12 : ¬ w5.heap.size = w.heap.size := by omega
              go_wp2_with fail
              have HS6 : Hid (St w [⟨w5.heap.size, #[.bool np, .string (bs bp), .string (bs dp)], 23⟩, ⟨w.heap.size, #[.bool fn, .string (bs fa), .string (bs fb)], 23⟩] _) := Lib.hid (St.alloc (HS5.out) #[.bool np, .string (bs bp), .string (bs dp)] 23 _ (by simp))
              refine (C2.out _ HS6.out.below).mono ?_
              rintro e w7 ⟨rfl, hb7⟩
              have HS7 := Lib.hid (HS6.out.call hb7)
              clear hb7 HS5 HS6
              clear x7 x8 x9 x10 x11 x12
              go_wp2_with fail
              have HS8 : Hid (St w [⟨w7.heap.size, #[.bool np, .string (bs bp), .string (bs dp)], 23⟩, ⟨w5.heap.size, #[.bool np, .string (bs bp), .string (bs dp)], 23⟩, ⟨w.heap.size, #[.bool fn, .string (bs fa), .string (bs fb)], 23⟩] _) := Lib.hid (St.alloc (HS7.out) #[.bool np, .string (bs bp), .string (bs dp)] 23 _ (by simp))
              refine (HAW.out _).mono ?_
              rintro e w9 ⟨rfl, hb9⟩
              have HS9 := Lib.hid (HS8.out.call hb9)
              clear hb9 HS7 HS8
              have x13 := HS9.out.cell 1 rfl 0 rfl
              have x14 := HS9.out.cell 1 rfl 1 rfl
              have x15 := HS9.out.cell 1 rfl 2 rfl
              have x16 := HS9.out.cell 0 rfl 0 rfl
              have x17 := HS9.out.cell 0 rfl 1 rfl
              have x18 := HS9.out.cell 0 rfl 2 rfl
              go_wp2
              go_ret
              have HS10 : Hid (St w [⟨w7.heap.size, #[.bool np, .string (bs bp), .string (bs dp)], 23⟩, ⟨w5.heap.size, #[.bool np, .string (bs bp), .string (bs dp)], 23⟩, ⟨w.heap.size, #[.bool fn, .string (bs fa), .string (bs fb)], 23⟩] _) := Lib.hid HS9.out
              exact ⟨rfl, HS10.out.below⟩
            · by_cases hge : 1 ≤ every
              · have b1 := dayB_in HDS.out
                have b2 := dayB_in HDD.out
                have u1 : IntKind.i64.wrap (dst - src) = dst - src := IntWalk.i64_in _ (by omega)
                have td := tdiv_small (a := dst - src) (b := every) (by omega)
                have u2 : IntKind.i64.wrap (Int.tdiv (dst - src) every) = Int.tdiv (dst - src) every := IntWalk.i64_in _ (by omega)
                have u6 : ¬ every = 0 := by omega
                have u7 : (every == 0) = false := by rw [beq_eq_false_iff_ne]; exact u6
                have g1 : decide (1 ≤ every) = true := decide_eq_true hge
                obtain ⟨qq, hqq⟩ : ∃ x, x = Int.tdiv (dst - src) every := ⟨_, rfl⟩
                have u3 : Int.tdiv (dst - src) every = qq := hqq.symm
                rw [u3] at u2 td
                clear hqq
                by_cases hq : 12 < qq
                · have g2 : decide (12 < qq) = true := decide_eq_true hq
                  go_wp2_with fail
                  refine (HE1.out _).mono ?_
                  rintro e w' ⟨rfl, rfl⟩
                  go_wp2_with fail
                  refine (HE2.out _).mono ?_
                  rintro e w' ⟨rfl, rfl⟩
                  go_wp2_with fail
                  refine (HAW.out _).mono ?_
                  rintro e w5 ⟨rfl, hb5⟩
                  have HS5 := Lib.hid (HS.out.call hb5)
                  clear hb5 HS
                  go_wp2
                  go_ret
                  have HS6 : Hid (St w [⟨w.heap.size, #[.bool fn, .string (bs fa), .string (bs fb)], 23⟩] _) := Lib.hid HS5.out
                  exact ⟨rfl, HS6.out.below⟩
                · have g2 : decide (12 < qq) = false := decide_eq_false hq
                  go_wp2_with fail
                  refine (HE1.out _).mono ?_
                  rintro e w' ⟨rfl, rfl⟩
                  go_wp2_with fail
                  refine (HE2.out _).mono ?_
                  rintro e w' ⟨rfl, rfl⟩
                  have x4 := HS.out.cell 0 rfl 0 rfl
                  have x5 := HS.out.cell 0 rfl 1 rfl
                  have x6 := HS.out.cell 0 rfl 2 rfl
                  go_wp2_with fail
                  refine (C1.out _ HS.out.below).mono ?_
                  rintro e w5 ⟨rfl, hb5⟩
                  have HS5 := Lib.hid (HS.out.call hb5)
                  clear hb5 HS
                  clear x4 x5 x6
                  have x7 := HS5.out.cell 0 rfl 0 rfl
                  have x8 := HS5.out.cell 0 rfl 1 rfl
                  have x9 := HS5.out.cell 0 rfl 2 rfl
                  have x10 := HS5.out.lt 0 rfl
                  have x11 : ¬ w.heap.size = w5.heap.size := by omega
                  have x12 : ¬ w5.heap.size = w.heap.size := by omega
                  go_wp2_with fail
                  have HS6 : Hid (St w [⟨w5.heap.size, #[.bool np, .string (bs bp), .string (bs dp)], 23⟩, ⟨w.heap.size, #[.bool fn, .string (bs fa), .string (bs fb)], 23⟩] _) := Lib.hid (St.alloc (HS5.out) #[.bool np, .string (bs bp), .string (bs dp)] 23 _ (by simp))
                  refine (C2.out _ HS6.out.below).mono ?_
                  rintro e w7 ⟨rfl, hb7⟩
                  have HS7 := Lib.hid (HS6.out.call hb7)
                  clear hb7 HS5 HS6
                  clear x7 x8 x9 x10 x11 x12
                  go_wp2_with fail
                  have HS8 : Hid (St w [⟨w7.heap.size, #[.bool np, .string (bs bp), .string (bs dp)], 23⟩, ⟨w5.heap.size, #[.bool np, .string (bs bp), .string (bs dp)], 23⟩, ⟨w.heap.size, #[.bool fn, .string (bs fa), .string (bs fb)], 23⟩] _) := Lib.hid (St.alloc (HS7.out) #[.bool np, .string (bs bp), .string (bs dp)] 23 _ (by simp))
                  refine (HAW.out _).mono ?_
                  rintro e w9 ⟨rfl, hb9⟩
                  have HS9 := Lib.hid (HS8.out.call hb9)
                  clear hb9 HS7 HS8
                  have x13 := HS9.out.cell 1 rfl 0 rfl
                  have x14 := HS9.out.cell 1 rfl 1 rfl
                  have x15 := HS9.out.cell 1 rfl 2 rfl
                  have x16 := HS9.out.cell 0 rfl 0 rfl
                  have x17 := HS9.out.cell 0 rfl 1 rfl
                  have x18 := HS9.out.cell 0 rfl 2 rfl
                  go_wp2
                  go_ret
                  have HS10 : Hid (St w [⟨w7.heap.size, #[.bool np, .string (bs bp), .string (bs dp)], 23⟩, ⟨w5.heap.size, #[.bool np, .string (bs bp), .string (bs dp)], 23⟩, ⟨w.heap.size, #[.bool fn, .string (bs fa), .string (bs fb)], 23⟩] _) := Lib.hid HS9.out
                  exact ⟨rfl, HS10.out.below⟩
              · have g1 : decide (1 ≤ every) = false := decide_eq_false hge
                go_wp2_with fail
                refine (HE1.out _).mono ?_
                rintro e w' ⟨rfl, rfl⟩
                go_wp2_with fail
                refine (HE2.out _).mono ?_
                rintro e w' ⟨rfl, rfl⟩
                have x4 := HS.out.cell 0 rfl 0 rfl
                have x5 := HS.out.cell 0 rfl 1 rfl
                have x6 := HS.out.cell 0 rfl 2 rfl
                go_wp2_with fail
                refine (C1.out _ HS.out.below).mono ?_
                rintro e w5 ⟨rfl, hb5⟩
                have HS5 := Lib.hid (HS.out.call hb5)
                clear hb5 HS
                clear x4 x5 x6
                have x7 := HS5.out.cell 0 rfl 0 rfl
                have x8 := HS5.out.cell 0 rfl 1 rfl
                have x9 := HS5.out.cell 0 rfl 2 rfl
                have x10 := HS5.out.lt 0 rfl
                have x11 : ¬ w.heap.size = w5.heap.size := by omega
                have x12 : ¬ w5.heap.size = w.heap.size := by omega
                go_wp2_with fail
                have HS6 : Hid (St w [⟨w5.heap.size, #[.bool np, .string (bs bp), .string (bs dp)], 23⟩, ⟨w.heap.size, #[.bool fn, .string (bs fa), .string (bs fb)], 23⟩] _) := Lib.hid (St.alloc (HS5.out) #[.bool np, .string (bs bp), .string (bs dp)] 23 _ (by simp))
                refine (C2.out _ HS6.out.below).mono ?_
                rintro e w7 ⟨rfl, hb7⟩
                have HS7 := Lib.hid (HS6.out.call hb7)
                clear hb7 HS5 HS6
                clear x7 x8 x9 x10 x11 x12
                go_wp2_with fail
                have HS8 : Hid (St w [⟨w7.heap.size, #[.bool np, .string (bs bp), .string (bs dp)], 23⟩, ⟨w5.heap.size, #[.bool np, .string (bs bp), .string (bs dp)], 23⟩, ⟨w.heap.size, #[.bool fn, .string (bs fa), .string (bs fb)], 23⟩] _) := Lib.hid (St.alloc (HS7.out) #[.bool np, .string (bs bp), .string (bs dp)] 23 _ (by simp))
                refine (HAW.out _).mono ?_
                rintro e w9 ⟨rfl, hb9⟩
                have HS9 := Lib.hid (HS8.out.call hb9)
                clear hb9 HS7 HS8
                have x13 := HS9.out.cell 1 rfl 0 rfl
                have x14 := HS9.out.cell 1 rfl 1 rfl
                have x15 := HS9.out.cell 1 rfl 2 rfl
                have x16 := HS9.out.cell 0 rfl 0 rfl
                have x17 := HS9.out.cell 0 rfl 1 rfl
                have x18 := HS9.out.cell 0 rfl 2 rfl
                go_wp2
                go_ret
                have HS10 : Hid (St w [⟨w7.heap.size, #[.bool np, .string (bs bp), .string (bs dp)], 23⟩, ⟨w5.heap.size, #[.bool np, .string (bs bp), .string (bs dp)], 23⟩, ⟨w.heap.size, #[.bool fn, .string (bs fa), .string (bs fb)], 23⟩] _) := Lib.hid HS9.out
                exact ⟨rfl, HS10.out.below⟩
end Go.Proofs.YtakoagjpmdcddaaGreatDoor
