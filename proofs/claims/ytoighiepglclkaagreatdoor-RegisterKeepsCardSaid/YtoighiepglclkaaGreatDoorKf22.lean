/-
Part 22 of the base.
-/
import Derived.Test.YtoighiepglclkaaGreatDoorKf21
set_option maxRecDepth 100000
set_option maxHeartbeats 1000000
namespace Go.Proofs.YtoighiepglclkaaGreatDoor
open Go.RowKit
def a8x (l : List Stp) (day : Int) (k : Nat) : Rat := (l.take k).foldl (fun r s => if s.frm <= day then s.rate else r) 0
theorem c7q {l : List Stp} {day : Int} {k : Nat} {s : Stp} (hs : l[k]? = some s) (h : s.frm <= day) : a8x l day (k + 1) = s.rate := by unfold a8x; rw [b6q hs, if_pos h]
theorem c9g (l : List Stp) (day : Int) : a8x l day l.length = a7c l day := by unfold a8x; rw [List.take_length]; rfl
theorem c7r {l : List Stp} (h : a4r l) {day : Int} {k : Nat} {s : Stp} (hs : l[k]? = some s) (hd : ¬ s.frm <= day) : a8x l day k = a7c l day := by rw [b2y h hs (by omega)]; rfl
theorem ref_rate (v : Value) (l : List Stp) (day : Int) (w : World) (h : a9x w v l) (hok : ∀ s ∈ l, s.num.length <= 1073741824 /\ s.den.length <= 1073741824) (hri : a4r l) :
  Calls Tryz.prog 128 #[v, .int .i64 day] w fun e w' => e = .returned (rat (a7c l day)) /\ Below w.heap.size w w' := by
 have H := zh h
 have HOK := zh hok
 have HRI := zh hri
 obtain ⟨A, c, rfl, hl, hc⟩ := h.slice
 clear h hok hri
 go_enter Tryz.func128, Tryz.ntmps128
 have HS := zh (St.start w)
 go_wp2
 have HS2 := aL (aL HS #[.bool false, .string (bs []), .string (bs [])] 40 w.heap.size) #[.bool false, .string (bs []), .string (bs [])] 40 (w.heap.size + 1)
 go_loopw [6] (fun i wr => ∃ k : Nat, k <= l.length /\ i = .int .i64 k /\ Hid (St w [⟨w.heap.size + 1, #[.bool (negB (a8x l day k)), .string (bs (numB (a8x l day k))), .string (bs (a0a (a8x l day k)))], 40⟩, ⟨w.heap.size, #[.bool false, .string (bs []), .string (bs [])], 40⟩] wr)) (fun i _ => l.length - (intOf i).toNat)
 case atStart => exact ⟨0, Nat.zero_le _, rfl, by have hz := b0j; show St _ _ _; rw [show a8x l day 0 = 0 from rfl, hz.1, hz.2.1, hz.2.2]; exact HS2.out⟩
 case round =>
  obtain ⟨k, hk, rfl, HS⟩ := hrel
  by_cases hlt : k < l.length
  ·obtain ⟨b, o, s, rfl, hbb, hq, hx⟩ := H.out.at_ hlt
   obtain ⟨o1, o2⟩ := HOK.out s (List.mem_of_getElem? hq)
   have HX := zh hx
   have HQ := zh hq
   have e0 : (0 : Int) <= ((k : Nat) : Int) := by omega
   have e1 : ((k : Nat) : Int) < (l.length : Int) := by omega
   have e2 : decide (((k : Nat) : Int) < (l.length : Int)) = true := decide_eq_true e1
   clear hx hq
   by_cases hd : s.frm <= day
   ·have HE := zh (c7q HQ.out hd)
    have hd2 : decide (s.frm <= day) = true := decide_eq_true hd
    have hF := fun W => a8f s.neg s.num s.den W (by omega) (by omega)
    change ∀ W, Calls Tryz.prog _ _ W (fun e w' => e = .returned (rat s.rate) /\ _) at hF
    unfold rat raw at hF
    have HF := zh hF
    generalize negB (a8x l day k) = rn at *
    generalize numB (a8x l day k) = ra at *
    generalize a0a (a8x l day k) = rd at *
    clear hd hF
    have x1 := HX.out _ HS.out.below 0 _ rfl
    rw [Nat.add_zero] at x1
    have x2 := HX.out _ HS.out.below 1 _ rfl
    have x3 := HX.out _ HS.out.below 2 _ rfl
    have x4 := HX.out _ HS.out.below 3 _ rfl
    go_wp2_with fail
    refine cL (HF.out _) HS fun w3 HS3 => ?_
    clear HS x1 x2 x3 x4
    have x5 := cC HS3 0 0
    have x6 := cC HS3 0 1
    have x7 := cC HS3 0 2
    have x8 := cF HS3 0 0
    have x9 := cF HS3 0 1
    have x10 := cF HS3 0 2
    have x11 := cN HS3 0 1
    have x12 := cN HS3 1 0
    go_wp2
    have HS4 : Hid (St w [⟨w.heap.size + 1, #[.bool (negB (s.rate)), .string (bs (numB (s.rate))), .string (bs (a0a (s.rate)))], 40⟩, _] _) := zh (St.set (St.set (St.set (HS3.out) 0 rfl 0 _) 0 rfl 1 _) 0 rfl 2 _)
    go_roundw
    case rel => exact ⟨k + 1, by omega, by go_num, by show St _ _ _; rw [HE.out]; exact HS4.out⟩
    case measure => simp [intOf]; omega
   have HE := zh (c7r HRI.out HQ.out hd)
   have hd2 : decide (s.frm <= day) = false := decide_eq_false hd
   clear hd
   have x1 := cC HS 0 0
   have x2 := cC HS 0 1
   have x3 := cC HS 0 2
   have x4 := cC HS 1 0
   have x5 := cC HS 1 1
   have x6 := cC HS 1 2
   have x7 := cF HS 1 0
   have x8 := cF HS 1 1
   have x9 := cF HS 1 2
   have x10 := cN HS 1 0
   have x11 := cN HS 0 1
   have x12 := HX.out _ HS.out.below 0 _ rfl
   rw [Nat.add_zero] at x12
   go_wp2
   have HS3 : Hid (St w [_, ⟨w.heap.size, #[.bool (negB (a8x l day k)), .string (bs (numB (a8x l day k))), .string (bs (a0a (a8x l day k)))], 40⟩] _) := zh (St.set (St.set (St.set (HS.out) 1 rfl 0 _) 1 rfl 1 _) 1 rfl 2 _)
   refine bodyPost_ret (a0j rfl _ _ _ _ _ _ rfl (HS3.out.blk 1 rfl)) rfl ?_
   exact ⟨by rw [<- HE.out]; rfl, HS3.out.below⟩
  obtain rfl : k = l.length := by omega
  have HE := zh (c9g l day)
  have x1 := cC HS 0 0
  have x2 := cC HS 0 1
  have x3 := cC HS 0 2
  have x4 := cC HS 1 0
  have x5 := cC HS 1 1
  have x6 := cC HS 1 2
  have x7 := cF HS 1 0
  have x8 := cF HS 1 1
  have x9 := cF HS 1 2
  have x10 := cN HS 1 0
  have x11 := cN HS 0 1
  go_wp2
  have HS3 : Hid (St w [_, ⟨w.heap.size, #[.bool (negB (a8x l day l.length)), .string (bs (numB (a8x l day l.length))), .string (bs (a0a (a8x l day l.length)))], 40⟩] _) := zh (St.set (St.set (St.set (HS.out) 1 rfl 0 _) 1 rfl 1 _) 1 rfl 2 _)
  refine bodyPost_ret (a0j rfl _ _ _ _ _ _ rfl (HS3.out.blk 1 rfl)) rfl ?_
  exact ⟨by rw [<- HE.out]; rfl, HS3.out.below⟩
def a2s (p : Rat) (l : List Stp) (src dst base every : Int) : Int :=
 if a3s l ≠ 0 then a3s l else if dayB src = false \/ dayB dst = false \/ (base ≠ 360 /\ base ≠ 365) \/ every < 1 then 1 else if dst < src then 15 else if sgn p.num < 0 then 7 else 0
section
variable {p : Rat} {l : List Stp} {src dst base every : Int}
theorem b9t {n : Int} (h : a3s l = n) (hn : n ≠ 0) : a2s p l src dst base every = n := by unfold a2s; rw [h, if_pos hn]
theorem b9r (h : a3s l = 0) (h1 : dayB src = false \/ dayB dst = false \/ (base ≠ 360 /\ base ≠ 365) \/ every < 1) : a2s p l src dst base every = 1 := by unfold a2s; rw [h, if_neg (by decide), if_pos h1]
theorem c5g (h1 : dayB src = true) (h2 : dayB dst = true) (h3 : base = 360 \/ base = 365) (h4 : ¬ every < 1) : ¬ (dayB src = false \/ dayB dst = false \/ (base ≠ 360 /\ base ≠ 365) \/ every < 1) := by
 rw [h1, h2]; rintro (h | h | h | h)
 ·cases h
 ·cases h
 ·omega
 omega
theorem b9s (h : a3s l = 0) (h1 : ¬ (dayB src = false \/ dayB dst = false \/ (base ≠ 360 /\ base ≠ 365) \/ every < 1)) (h2 : dst < src) : a2s p l src dst base every = 15 := by unfold a2s; rw [h, if_neg (by decide), if_neg h1, if_pos h2]
theorem c6x (h : a3s l = 0) (h1 : ¬ (dayB src = false \/ dayB dst = false \/ (base ≠ 360 /\ base ≠ 365) \/ every < 1)) (h2 : ¬ dst < src) (h3 : sgn p.num < 0) : a2s p l src dst base every = 7 := by unfold a2s; rw [h, if_neg (by decide), if_neg h1, if_neg h2, if_pos h3]
theorem d1h (h : a3s l = 0) (h1 : ¬ (dayB src = false \/ dayB dst = false \/ (base ≠ 360 /\ base ≠ 365) \/ every < 1)) (h2 : ¬ dst < src) (h3 : ¬ sgn p.num < 0) : a2s p l src dst base every = 0 := by unfold a2s; rw [h, if_neg (by decide), if_neg h1, if_neg h2, if_neg h3]
theorem c3k (h : a2s p l src dst base every = 0) : a3s l = 0 /\ dayB src = true /\ dayB dst = true /\ (base = 360 \/ base = 365) /\ 1 <= every /\ src <= dst /\ 0 <= p := by
 unfold a2s at h
 split at h
 ·rename_i h1; exact absurd h h1
 rename_i h1
 split at h
 ·cases h
 rename_i h2
 split at h
 ·cases h
 rename_i h3
 split at h
 ·cases h
 rename_i h4
 refine ⟨Classical.not_not.1 h1, ?_, ?_, ?_, ?_, by omega, b2r (by omega)⟩
 ·cases hh : dayB src with
  | true => rfl
  | false => exact absurd (.inl hh) h2
 ·cases hh : dayB dst with
  | true => rfl
  | false => exact absurd (.inr (.inl hh)) h2
 ·have := mt (fun h => Or.inr (Or.inr (Or.inl h))) h2
  omega
 have := mt (fun h => Or.inr (Or.inr (Or.inr h))) h2
 omega
end
theorem b7y (n : Bool) (a b : List UInt8) (v : Value) (l : List Stp) (src dst base every : Int) (w : World) (h : a9x w v l) (hok : ∀ s ∈ l, s.num.length <= 1073741824 /\ s.den.length <= 1073741824) (la : a.length <= 17179869184) (lb : b.length <= 17179869184) :
  Calls Tryz.prog 75 #[raw n a b, v, .int .i64 src, .int .i64 dst, .int .i64 base, .int .i64 every] w fun e w' => e = .returned (.int .i64 (a2s (decR n a b) l src dst base every)) /\ Below w.heap.size w w' := by
 have hC := fun W (hb : Below w.heap.size w W) => b7z v l W (h.below hb) (fun s hs => by have := hok s hs; omega)
 have hD1 := fun W => a7s src W
 have hD2 := fun W => a7s dst W
 have hS := fun W => a4d n a b W (by omega) (by omega)
 have A1 := @b9t (decR n a b) l src dst base every
 have A2 := @b9r (decR n a b) l src dst base every
 have A3 := @b9s (decR n a b) l src dst base every
 have A4 := @c6x (decR n a b) l src dst base every
 have A5 := @d1h (decR n a b) l src dst base every
 have A0 := @c5g src dst base every
 generalize a2s (decR n a b) l src dst base every = r at *
 obtain ⟨m, hm⟩ : ∃ m, m = a3s l := ⟨_, rfl⟩
 rw [<- hm] at hC A1 A2 A3 A4 A5
 obtain ⟨d1, hd1⟩ : ∃ x, x = dayB src := ⟨_, rfl⟩
 rw [<- hd1] at hD1 A0 A2 A3 A4 A5
 obtain ⟨d2, hd2⟩ : ∃ x, x = dayB dst := ⟨_, rfl⟩
 rw [<- hd2] at hD2 A0 A2 A3 A4 A5
 generalize sgn (decR n a b).num = sg at *
 unfold raw at hS
 unfold raw
 have HC := zh hC
 have HD1 := zh hD1
 have HD2 := zh hD2
 have HG := zh hS
 clear h hok hC hD1 hD2 hS hm hd1 hd2 la lb
 by_cases h0 : m = 0
 ·subst h0
  cases d1
  ·have R := zh (A2 rfl (.inl rfl))
   clear A0 A1 A2 A3 A4 A5
   go_enter Tryz.func75, Tryz.ntmps75
   have HS := zh (St.start w)
   go_wp2_with fail
   have HS2 := aL HS #[.bool n, .string (bs a), .string (bs b)] 40 w.heap.size
   refine cL (HC.out _ HS2.out.below) HS2 fun w3 HS3 => ?_
   clear HS HS2
   go_wp2_with fail
   refine (HD1.out _).mono ?_
   rintro e w' ⟨rfl, rfl⟩
   go_wp2
   have HS4 := zh HS3.out
   go_ret
   rw [R.out]
   exact ⟨rfl, HS4.out.below⟩
  cases d2
  ·have R := zh (A2 rfl (.inr (.inl rfl)))
   clear A0 A1 A2 A3 A4 A5
   go_enter Tryz.func75, Tryz.ntmps75
   have HS := zh (St.start w)
   go_wp2_with fail
   have HS2 := aL HS #[.bool n, .string (bs a), .string (bs b)] 40 w.heap.size
   refine cL (HC.out _ HS2.out.below) HS2 fun w3 HS3 => ?_
   clear HS HS2
   go_wp2_with fail
   refine (HD1.out _).mono ?_
   rintro e w' ⟨rfl, rfl⟩
   go_wp2_with fail
   refine (HD2.out _).mono ?_
   rintro e w' ⟨rfl, rfl⟩
   go_wp2
   have HS4 := zh HS3.out
   go_ret
   rw [R.out]
   exact ⟨rfl, HS4.out.below⟩
  by_cases hb : base = 360 \/ base = 365
  ·by_cases he : every < 1
   ·have he2 : decide (every < 1) = true := decide_eq_true he
    rcases hb with rfl | rfl
    ·have R := zh (A2 rfl (.inr (.inr (.inr he))))
     clear he A0 A1 A2 A3 A4 A5
     go_enter Tryz.func75, Tryz.ntmps75
     have HS := zh (St.start w)
     go_wp2_with fail
     have HS2 := aL HS #[.bool n, .string (bs a), .string (bs b)] 40 w.heap.size
     refine cL (HC.out _ HS2.out.below) HS2 fun w3 HS3 => ?_
     clear HS HS2
     go_wp2_with fail
     refine (HD1.out _).mono ?_
     rintro e w' ⟨rfl, rfl⟩
     go_wp2_with fail
     refine (HD2.out _).mono ?_
     rintro e w' ⟨rfl, rfl⟩
     go_wp2
     have HS4 := zh HS3.out
     go_ret
     rw [R.out]
     exact ⟨rfl, HS4.out.below⟩
    have R := zh (A2 rfl (.inr (.inr (.inr he))))
    clear he A0 A1 A2 A3 A4 A5
    go_enter Tryz.func75, Tryz.ntmps75
    have HS := zh (St.start w)
    go_wp2_with fail
    have HS2 := aL HS #[.bool n, .string (bs a), .string (bs b)] 40 w.heap.size
    refine cL (HC.out _ HS2.out.below) HS2 fun w3 HS3 => ?_
    clear HS HS2
    go_wp2_with fail
    refine (HD1.out _).mono ?_
    rintro e w' ⟨rfl, rfl⟩
    go_wp2_with fail
    refine (HD2.out _).mono ?_
    rintro e w' ⟨rfl, rfl⟩
    go_wp2
    have HS4 := zh HS3.out
    go_ret
    rw [R.out]
    exact ⟨rfl, HS4.out.below⟩
   have he2 : decide (every < 1) = false := decide_eq_false he
   have A0 := A0 rfl rfl hb he
   clear he
   by_cases ho : dst < src
   ·have ho2 : decide (dst < src) = true := decide_eq_true ho
    rcases hb with rfl | rfl
    ·have R := zh (A3 rfl A0 ho)
     clear ho A0 A1 A2 A3 A4 A5
     go_enter Tryz.func75, Tryz.ntmps75
     have HS := zh (St.start w)
     go_wp2_with fail
     have HS2 := aL HS #[.bool n, .string (bs a), .string (bs b)] 40 w.heap.size
     refine cL (HC.out _ HS2.out.below) HS2 fun w3 HS3 => ?_
     clear HS HS2
     go_wp2_with fail
     refine (HD1.out _).mono ?_
     rintro e w' ⟨rfl, rfl⟩
     go_wp2_with fail
     refine (HD2.out _).mono ?_
     rintro e w' ⟨rfl, rfl⟩
     go_wp2
     have HS4 := zh HS3.out
     go_ret
     rw [R.out]
     exact ⟨rfl, HS4.out.below⟩
    have R := zh (A3 rfl A0 ho)
    clear ho A0 A1 A2 A3 A4 A5
    go_enter Tryz.func75, Tryz.ntmps75
    have HS := zh (St.start w)
    go_wp2_with fail
    have HS2 := aL HS #[.bool n, .string (bs a), .string (bs b)] 40 w.heap.size
    refine cL (HC.out _ HS2.out.below) HS2 fun w3 HS3 => ?_
    clear HS HS2
    go_wp2_with fail
    refine (HD1.out _).mono ?_
    rintro e w' ⟨rfl, rfl⟩
    go_wp2_with fail
    refine (HD2.out _).mono ?_
    rintro e w' ⟨rfl, rfl⟩
    go_wp2
    have HS4 := zh HS3.out
    go_ret
    rw [R.out]
    exact ⟨rfl, HS4.out.below⟩
   have ho2 : decide (dst < src) = false := decide_eq_false ho
   by_cases hn : sg < 0
   ·have hn2 : decide (sg < 0) = true := decide_eq_true hn
    rcases hb with rfl | rfl
    ·have R := zh (A4 rfl A0 ho hn)
     clear ho hn A0 A1 A2 A3 A4 A5
     go_enter Tryz.func75, Tryz.ntmps75
     have HS := zh (St.start w)
     go_wp2_with fail
     have HS2 := aL HS #[.bool n, .string (bs a), .string (bs b)] 40 w.heap.size
     refine cL (HC.out _ HS2.out.below) HS2 fun w3 HS3 => ?_
     clear HS HS2
     go_wp2_with fail
     refine (HD1.out _).mono ?_
     rintro e w' ⟨rfl, rfl⟩
     go_wp2_with fail
     refine (HD2.out _).mono ?_
     rintro e w' ⟨rfl, rfl⟩
     have x1 := cC HS3 0 0
     have x2 := cC HS3 0 1
     have x3 := cC HS3 0 2
     go_wp2_with fail
     refine cL (HG.out _) HS3 fun w4 HS4 => ?_
     clear HS3 x1 x2 x3
     go_wp2
     have HS5 := zh HS4.out
     go_ret
     rw [R.out]
     exact ⟨rfl, HS5.out.below⟩
    have R := zh (A4 rfl A0 ho hn)
    clear ho hn A0 A1 A2 A3 A4 A5
    go_enter Tryz.func75, Tryz.ntmps75
    have HS := zh (St.start w)
    go_wp2_with fail
    have HS2 := aL HS #[.bool n, .string (bs a), .string (bs b)] 40 w.heap.size
    refine cL (HC.out _ HS2.out.below) HS2 fun w3 HS3 => ?_
    clear HS HS2
    go_wp2_with fail
    refine (HD1.out _).mono ?_
    rintro e w' ⟨rfl, rfl⟩
    go_wp2_with fail
    refine (HD2.out _).mono ?_
    rintro e w' ⟨rfl, rfl⟩
    have x1 := cC HS3 0 0
    have x2 := cC HS3 0 1
    have x3 := cC HS3 0 2
    go_wp2_with fail
    refine cL (HG.out _) HS3 fun w4 HS4 => ?_
    clear HS3 x1 x2 x3
    go_wp2
    have HS5 := zh HS4.out
    go_ret
    rw [R.out]
    exact ⟨rfl, HS5.out.below⟩
   have hn2 : decide (sg < 0) = false := decide_eq_false hn
   rcases hb with rfl | rfl
   ·have R := zh (A5 rfl A0 ho hn)
    clear ho hn A0 A1 A2 A3 A4 A5
    go_enter Tryz.func75, Tryz.ntmps75
    have HS := zh (St.start w)
    go_wp2_with fail
    have HS2 := aL HS #[.bool n, .string (bs a), .string (bs b)] 40 w.heap.size
    refine cL (HC.out _ HS2.out.below) HS2 fun w3 HS3 => ?_
    clear HS HS2
    go_wp2_with fail
    refine (HD1.out _).mono ?_
    rintro e w' ⟨rfl, rfl⟩
    go_wp2_with fail
    refine (HD2.out _).mono ?_
    rintro e w' ⟨rfl, rfl⟩
    have x1 := cC HS3 0 0
    have x2 := cC HS3 0 1
    have x3 := cC HS3 0 2
    go_wp2_with fail
    refine cL (HG.out _) HS3 fun w4 HS4 => ?_
    clear HS3 x1 x2 x3
    go_wp2
    have HS5 := zh HS4.out
    go_ret
    rw [R.out]
    exact ⟨rfl, HS5.out.below⟩
   have R := zh (A5 rfl A0 ho hn)
   clear ho hn A0 A1 A2 A3 A4 A5
   go_enter Tryz.func75, Tryz.ntmps75
   have HS := zh (St.start w)
   go_wp2_with fail
   have HS2 := aL HS #[.bool n, .string (bs a), .string (bs b)] 40 w.heap.size
   refine cL (HC.out _ HS2.out.below) HS2 fun w3 HS3 => ?_
   clear HS HS2
   go_wp2_with fail
   refine (HD1.out _).mono ?_
   rintro e w' ⟨rfl, rfl⟩
   go_wp2_with fail
   refine (HD2.out _).mono ?_
   rintro e w' ⟨rfl, rfl⟩
   have x1 := cC HS3 0 0
   have x2 := cC HS3 0 1
   have x3 := cC HS3 0 2
   go_wp2_with fail
   refine cL (HG.out _) HS3 fun w4 HS4 => ?_
   clear HS3 x1 x2 x3
   go_wp2
   have HS5 := zh HS4.out
   go_ret
   rw [R.out]
   exact ⟨rfl, HS5.out.below⟩
  have b1 : (base == 360) = false := by rw [beq_eq_false_iff_ne]; omega
  have b2 : (base != 360) = true := by rw [bne, b1]; rfl
  have b3 : (base == 365) = false := by rw [beq_eq_false_iff_ne]; omega
  have b4 : (base != 365) = true := by rw [bne, b3]; rfl
  have R := zh (A2 rfl (.inr (.inr (.inl (by omega)))))
  clear hb A0 A1 A2 A3 A4 A5
  go_enter Tryz.func75, Tryz.ntmps75
  have HS := zh (St.start w)
  go_wp2_with fail
  have HS2 := aL HS #[.bool n, .string (bs a), .string (bs b)] 40 w.heap.size
  refine cL (HC.out _ HS2.out.below) HS2 fun w3 HS3 => ?_
  clear HS HS2
  go_wp2_with fail
  refine (HD1.out _).mono ?_
  rintro e w' ⟨rfl, rfl⟩
  go_wp2_with fail
  refine (HD2.out _).mono ?_
  rintro e w' ⟨rfl, rfl⟩
  go_wp2
  have HS4 := zh HS3.out
  go_ret
  rw [R.out]
  exact ⟨rfl, HS4.out.below⟩
 have R := zh (A1 rfl h0)
 have hn0 : (m == 0) = false := by rw [beq_eq_false_iff_ne]; exact h0
 have hn1 : (m != 0) = true := by rw [bne, hn0]; rfl
 clear A0 A1 A2 A3 A4 A5
 go_enter Tryz.func75, Tryz.ntmps75
 have HS := zh (St.start w)
 go_wp2_with fail
 have HS2 := aL HS #[.bool n, .string (bs a), .string (bs b)] 40 w.heap.size
 refine cL (HC.out _ HS2.out.below) HS2 fun w3 HS3 => ?_
 clear HS HS2
 go_wp2
 have HS4 := zh HS3.out
 go_ret
 rw [R.out]
 exact ⟨rfl, HS4.out.below⟩
theorem c1n (n : Bool) (a b : List UInt8) (v : Value) (l : List Stp) (src dst base every : Int) (w : World) (h : a9x w v l) (hok : ∀ s ∈ l, s.num.length <= 1073741824 /\ s.den.length <= 1073741824) (la : a.length <= 17179869184) (lb : b.length <= 17179869184) :
  Calls Tryz.prog 87 #[raw n a b, v, .int .i64 src, .int .i64 dst, .int .i64 base, .int .i64 every] w fun e w' => e = .returned (.int .i64 (a2s (decR n a b) l src dst base every)) /\ Below w.heap.size w w' := by
 have hC := fun W (hb : Below w.heap.size w W) => b7h v l W (h.below hb) (fun s hs => by have := hok s hs; omega)
 have hD1 := fun W => a3p src W
 have hD2 := fun W => a3p dst W
 have hS := fun W => b0a n a b W (by omega) (by omega)
 have A1 := @b9t (decR n a b) l src dst base every
 have A2 := @b9r (decR n a b) l src dst base every
 have A3 := @b9s (decR n a b) l src dst base every
 have A4 := @c6x (decR n a b) l src dst base every
 have A5 := @d1h (decR n a b) l src dst base every
 have A0 := @c5g src dst base every
 generalize a2s (decR n a b) l src dst base every = r at *
 obtain ⟨m, hm⟩ : ∃ m, m = a3s l := ⟨_, rfl⟩
 rw [<- hm] at hC A1 A2 A3 A4 A5
 obtain ⟨d1, hd1⟩ : ∃ x, x = dayB src := ⟨_, rfl⟩
 rw [<- hd1] at hD1 A0 A2 A3 A4 A5
 obtain ⟨d2, hd2⟩ : ∃ x, x = dayB dst := ⟨_, rfl⟩
 rw [<- hd2] at hD2 A0 A2 A3 A4 A5
 generalize sgn (decR n a b).num = sg at *
 unfold raw at hS
 unfold raw
 have HC := zh hC
 have HD1 := zh hD1
 have HD2 := zh hD2
 have HG := zh hS
 clear h hok hC hD1 hD2 hS hm hd1 hd2 la lb
 by_cases h0 : m = 0
 ·subst h0
  cases d1
  ·have R := zh (A2 rfl (.inl rfl))
   clear A0 A1 A2 A3 A4 A5
   go_enter Tryz.func87, Tryz.ntmps87
   have HS := zh (St.start w)
   go_wp2_with fail
   have HS2 := aL HS #[.bool n, .string (bs a), .string (bs b)] 40 w.heap.size
   refine cL (HC.out _ HS2.out.below) HS2 fun w3 HS3 => ?_
   clear HS HS2
   go_wp2_with fail
   refine (HD1.out _).mono ?_
   rintro e w' ⟨rfl, rfl⟩
   go_wp2
   have HS4 := zh HS3.out
   go_ret
   rw [R.out]
   exact ⟨rfl, HS4.out.below⟩
  cases d2
  ·have R := zh (A2 rfl (.inr (.inl rfl)))
   clear A0 A1 A2 A3 A4 A5
   go_enter Tryz.func87, Tryz.ntmps87
   have HS := zh (St.start w)
   go_wp2_with fail
   have HS2 := aL HS #[.bool n, .string (bs a), .string (bs b)] 40 w.heap.size
   refine cL (HC.out _ HS2.out.below) HS2 fun w3 HS3 => ?_
   clear HS HS2
   go_wp2_with fail
   refine (HD1.out _).mono ?_
   rintro e w' ⟨rfl, rfl⟩
   go_wp2_with fail
   refine (HD2.out _).mono ?_
   rintro e w' ⟨rfl, rfl⟩
   go_wp2
   have HS4 := zh HS3.out
   go_ret
   rw [R.out]
   exact ⟨rfl, HS4.out.below⟩
  by_cases hb : base = 360 \/ base = 365
  ·by_cases he : every < 1
   ·have he2 : decide (every < 1) = true := decide_eq_true he
    rcases hb with rfl | rfl
    ·have R := zh (A2 rfl (.inr (.inr (.inr he))))
     clear he A0 A1 A2 A3 A4 A5
     go_enter Tryz.func87, Tryz.ntmps87
     have HS := zh (St.start w)
     go_wp2_with fail
     have HS2 := aL HS #[.bool n, .string (bs a), .string (bs b)] 40 w.heap.size
     refine cL (HC.out _ HS2.out.below) HS2 fun w3 HS3 => ?_
     clear HS HS2
     go_wp2_with fail
     refine (HD1.out _).mono ?_
     rintro e w' ⟨rfl, rfl⟩
     go_wp2_with fail
     refine (HD2.out _).mono ?_
     rintro e w' ⟨rfl, rfl⟩
     go_wp2
     have HS4 := zh HS3.out
     go_ret
     rw [R.out]
     exact ⟨rfl, HS4.out.below⟩
    have R := zh (A2 rfl (.inr (.inr (.inr he))))
    clear he A0 A1 A2 A3 A4 A5
    go_enter Tryz.func87, Tryz.ntmps87
    have HS := zh (St.start w)
    go_wp2_with fail
    have HS2 := aL HS #[.bool n, .string (bs a), .string (bs b)] 40 w.heap.size
    refine cL (HC.out _ HS2.out.below) HS2 fun w3 HS3 => ?_
    clear HS HS2
    go_wp2_with fail
    refine (HD1.out _).mono ?_
    rintro e w' ⟨rfl, rfl⟩
    go_wp2_with fail
    refine (HD2.out _).mono ?_
    rintro e w' ⟨rfl, rfl⟩
    go_wp2
    have HS4 := zh HS3.out
    go_ret
    rw [R.out]
    exact ⟨rfl, HS4.out.below⟩
   have he2 : decide (every < 1) = false := decide_eq_false he
   have A0 := A0 rfl rfl hb he
   clear he
   by_cases ho : dst < src
   ·have ho2 : decide (dst < src) = true := decide_eq_true ho
    rcases hb with rfl | rfl
    ·have R := zh (A3 rfl A0 ho)
     clear ho A0 A1 A2 A3 A4 A5
     go_enter Tryz.func87, Tryz.ntmps87
     have HS := zh (St.start w)
     go_wp2_with fail
     have HS2 := aL HS #[.bool n, .string (bs a), .string (bs b)] 40 w.heap.size
     refine cL (HC.out _ HS2.out.below) HS2 fun w3 HS3 => ?_
     clear HS HS2
     go_wp2_with fail
     refine (HD1.out _).mono ?_
     rintro e w' ⟨rfl, rfl⟩
     go_wp2_with fail
     refine (HD2.out _).mono ?_
     rintro e w' ⟨rfl, rfl⟩
     go_wp2
     have HS4 := zh HS3.out
     go_ret
     rw [R.out]
     exact ⟨rfl, HS4.out.below⟩
    have R := zh (A3 rfl A0 ho)
    clear ho A0 A1 A2 A3 A4 A5
    go_enter Tryz.func87, Tryz.ntmps87
    have HS := zh (St.start w)
    go_wp2_with fail
    have HS2 := aL HS #[.bool n, .string (bs a), .string (bs b)] 40 w.heap.size
    refine cL (HC.out _ HS2.out.below) HS2 fun w3 HS3 => ?_
    clear HS HS2
    go_wp2_with fail
    refine (HD1.out _).mono ?_
    rintro e w' ⟨rfl, rfl⟩
    go_wp2_with fail
    refine (HD2.out _).mono ?_
    rintro e w' ⟨rfl, rfl⟩
    go_wp2
    have HS4 := zh HS3.out
    go_ret
    rw [R.out]
    exact ⟨rfl, HS4.out.below⟩
   have ho2 : decide (dst < src) = false := decide_eq_false ho
   by_cases hn : sg < 0
   ·have hn2 : decide (sg < 0) = true := decide_eq_true hn
    rcases hb with rfl | rfl
    ·have R := zh (A4 rfl A0 ho hn)
     clear ho hn A0 A1 A2 A3 A4 A5
     go_enter Tryz.func87, Tryz.ntmps87
     have HS := zh (St.start w)
     go_wp2_with fail
     have HS2 := aL HS #[.bool n, .string (bs a), .string (bs b)] 40 w.heap.size
     refine cL (HC.out _ HS2.out.below) HS2 fun w3 HS3 => ?_
     clear HS HS2
     go_wp2_with fail
     refine (HD1.out _).mono ?_
     rintro e w' ⟨rfl, rfl⟩
     go_wp2_with fail
     refine (HD2.out _).mono ?_
     rintro e w' ⟨rfl, rfl⟩
     have x1 := cC HS3 0 0
     have x2 := cC HS3 0 1
     have x3 := cC HS3 0 2
     go_wp2_with fail
     refine cL (HG.out _) HS3 fun w4 HS4 => ?_
     clear HS3 x1 x2 x3
     go_wp2
     have HS5 := zh HS4.out
     go_ret
     rw [R.out]
     exact ⟨rfl, HS5.out.below⟩
    have R := zh (A4 rfl A0 ho hn)
    clear ho hn A0 A1 A2 A3 A4 A5
    go_enter Tryz.func87, Tryz.ntmps87
    have HS := zh (St.start w)
    go_wp2_with fail
    have HS2 := aL HS #[.bool n, .string (bs a), .string (bs b)] 40 w.heap.size
    refine cL (HC.out _ HS2.out.below) HS2 fun w3 HS3 => ?_
    clear HS HS2
    go_wp2_with fail
    refine (HD1.out _).mono ?_
    rintro e w' ⟨rfl, rfl⟩
    go_wp2_with fail
    refine (HD2.out _).mono ?_
    rintro e w' ⟨rfl, rfl⟩
    have x1 := cC HS3 0 0
    have x2 := cC HS3 0 1
    have x3 := cC HS3 0 2
    go_wp2_with fail
    refine cL (HG.out _) HS3 fun w4 HS4 => ?_
    clear HS3 x1 x2 x3
    go_wp2
    have HS5 := zh HS4.out
    go_ret
    rw [R.out]
    exact ⟨rfl, HS5.out.below⟩
   have hn2 : decide (sg < 0) = false := decide_eq_false hn
   rcases hb with rfl | rfl
   ·have R := zh (A5 rfl A0 ho hn)
    clear ho hn A0 A1 A2 A3 A4 A5
    go_enter Tryz.func87, Tryz.ntmps87
    have HS := zh (St.start w)
    go_wp2_with fail
    have HS2 := aL HS #[.bool n, .string (bs a), .string (bs b)] 40 w.heap.size
    refine cL (HC.out _ HS2.out.below) HS2 fun w3 HS3 => ?_
    clear HS HS2
    go_wp2_with fail
    refine (HD1.out _).mono ?_
    rintro e w' ⟨rfl, rfl⟩
    go_wp2_with fail
    refine (HD2.out _).mono ?_
    rintro e w' ⟨rfl, rfl⟩
    have x1 := cC HS3 0 0
    have x2 := cC HS3 0 1
    have x3 := cC HS3 0 2
    go_wp2_with fail
    refine cL (HG.out _) HS3 fun w4 HS4 => ?_
    clear HS3 x1 x2 x3
    go_wp2
    have HS5 := zh HS4.out
    go_ret
    rw [R.out]
    exact ⟨rfl, HS5.out.below⟩
   have R := zh (A5 rfl A0 ho hn)
   clear ho hn A0 A1 A2 A3 A4 A5
   go_enter Tryz.func87, Tryz.ntmps87
   have HS := zh (St.start w)
   go_wp2_with fail
   have HS2 := aL HS #[.bool n, .string (bs a), .string (bs b)] 40 w.heap.size
   refine cL (HC.out _ HS2.out.below) HS2 fun w3 HS3 => ?_
   clear HS HS2
   go_wp2_with fail
   refine (HD1.out _).mono ?_
   rintro e w' ⟨rfl, rfl⟩
   go_wp2_with fail
   refine (HD2.out _).mono ?_
   rintro e w' ⟨rfl, rfl⟩
   have x1 := cC HS3 0 0
   have x2 := cC HS3 0 1
   have x3 := cC HS3 0 2
   go_wp2_with fail
   refine cL (HG.out _) HS3 fun w4 HS4 => ?_
   clear HS3 x1 x2 x3
   go_wp2
   have HS5 := zh HS4.out
   go_ret
   rw [R.out]
   exact ⟨rfl, HS5.out.below⟩
  have b1 : (base == 360) = false := by rw [beq_eq_false_iff_ne]; omega
  have b2 : (base != 360) = true := by rw [bne, b1]; rfl
  have b3 : (base == 365) = false := by rw [beq_eq_false_iff_ne]; omega
  have b4 : (base != 365) = true := by rw [bne, b3]; rfl
  have R := zh (A2 rfl (.inr (.inr (.inl (by omega)))))
  clear hb A0 A1 A2 A3 A4 A5
  go_enter Tryz.func87, Tryz.ntmps87
  have HS := zh (St.start w)
  go_wp2_with fail
  have HS2 := aL HS #[.bool n, .string (bs a), .string (bs b)] 40 w.heap.size
  refine cL (HC.out _ HS2.out.below) HS2 fun w3 HS3 => ?_
  clear HS HS2
  go_wp2_with fail
  refine (HD1.out _).mono ?_
  rintro e w' ⟨rfl, rfl⟩
  go_wp2_with fail
  refine (HD2.out _).mono ?_
  rintro e w' ⟨rfl, rfl⟩
  go_wp2
  have HS4 := zh HS3.out
  go_ret
  rw [R.out]
  exact ⟨rfl, HS4.out.below⟩
 have R := zh (A1 rfl h0)
 have hn0 : (m == 0) = false := by rw [beq_eq_false_iff_ne]; exact h0
 have hn1 : (m != 0) = true := by rw [bne, hn0]; rfl
 clear A0 A1 A2 A3 A4 A5
 go_enter Tryz.func87, Tryz.ntmps87
 have HS := zh (St.start w)
 go_wp2_with fail
 have HS2 := aL HS #[.bool n, .string (bs a), .string (bs b)] 40 w.heap.size
 refine cL (HC.out _ HS2.out.below) HS2 fun w3 HS3 => ?_
 clear HS HS2
 go_wp2
 have HS4 := zh HS3.out
 go_ret
 rw [R.out]
 exact ⟨rfl, HS4.out.below⟩
end Go.Proofs.YtoighiepglclkaaGreatDoor
