/-
Part 22 of the base.
-/
import Derived.Test.YtlkhoommpkndpaaGreatDoorKj21
set_option maxRecDepth 100000
set_option maxHeartbeats 1000000
namespace Go.Proofs.YtlkhoommpkndpaaGreatDoor
open Go.RowKit
def a2h (p : Rat) (l : List Stp) (src dst base every : Int) : Int :=
 if a3c l ≠ 0 then a3c l else if dayB src = false \/ dayB dst = false \/ (base ≠ 360 /\ base ≠ 365) \/ every < 1 then 1 else if dst < src then 15 else if sgn p.num < 0 then 7 else 0
section
variable {p : Rat} {l : List Stp} {src dst base every : Int}
theorem c1v {n : Int} (h : a3c l = n) (hn : n ≠ 0) : a2h p l src dst base every = n := by unfold a2h; rw [h, if_pos hn]
theorem c1t (h : a3c l = 0) (h1 : dayB src = false \/ dayB dst = false \/ (base ≠ 360 /\ base ≠ 365) \/ every < 1) : a2h p l src dst base every = 1 := by unfold a2h; rw [h, if_neg (by decide), if_pos h1]
theorem c4q (h1 : dayB src = true) (h2 : dayB dst = true) (h3 : base = 360 \/ base = 365) (h4 : ¬ every < 1) : ¬ (dayB src = false \/ dayB dst = false \/ (base ≠ 360 /\ base ≠ 365) \/ every < 1) := by
 rw [h1, h2]; rintro (h | h | h | h)
 ·cases h
 ·cases h
 ·omega
 omega
theorem c1u (h : a3c l = 0) (h1 : ¬ (dayB src = false \/ dayB dst = false \/ (base ≠ 360 /\ base ≠ 365) \/ every < 1)) (h2 : dst < src) : a2h p l src dst base every = 15 := by unfold a2h; rw [h, if_neg (by decide), if_neg h1, if_pos h2]
theorem args_neg (h : a3c l = 0) (h1 : ¬ (dayB src = false \/ dayB dst = false \/ (base ≠ 360 /\ base ≠ 365) \/ every < 1)) (h2 : ¬ dst < src) (h3 : sgn p.num < 0) : a2h p l src dst base every = 7 := by unfold a2h; rw [h, if_neg (by decide), if_neg h1, if_neg h2, if_pos h3]
theorem args_ok (h : a3c l = 0) (h1 : ¬ (dayB src = false \/ dayB dst = false \/ (base ≠ 360 /\ base ≠ 365) \/ every < 1)) (h2 : ¬ dst < src) (h3 : ¬ sgn p.num < 0) : a2h p l src dst base every = 0 := by unfold a2h; rw [h, if_neg (by decide), if_neg h1, if_neg h2, if_neg h3]
theorem c4p (h : a2h p l src dst base every = 0) : a3c l = 0 /\ dayB src = true /\ dayB dst = true /\ (base = 360 \/ base = 365) /\ 1 <= every /\ src <= dst /\ 0 <= p := by
 unfold a2h at h
 split at h
 ·rename_i h1; exact absurd h h1
 rename_i h1
 split at h
 ·cases h
 rename_i h2
 split at h
 ·cases h
 rename_i h3
 split at h
 ·cases h
 rename_i h4
 refine ⟨Classical.not_not.1 h1, ?_, ?_, ?_, ?_, by omega, b1s (by omega)⟩
 ·cases hh : dayB src with
  | true => rfl
  | false => exact absurd (.inl hh) h2
 ·cases hh : dayB dst with
  | true => rfl
  | false => exact absurd (.inr (.inl hh)) h2
 ·have := mt (fun h => Or.inr (Or.inr (Or.inl h))) h2
  omega
 have := mt (fun h => Or.inr (Or.inr (Or.inr h))) h2
 omega
end
theorem b3x (n : Bool) (a b : List UInt8) (v : Value) (l : List Stp) (src dst base every : Int) (w : World) (h : b8e w v l) (hok : ∀ s ∈ l, s.num.length <= 1073741824 /\ s.den.length <= 1073741824) (la : a.length <= 17179869184) (lb : b.length <= 17179869184) :
  Calls Tryz.prog 78 #[raw n a b, v, .int .i64 src, .int .i64 dst, .int .i64 base, .int .i64 every] w fun e w' => e = .returned (.int .i64 (a2h (decR n a b) l src dst base every)) /\ Below w.heap.size w w' := by
 have hC := fun W (hb : Below w.heap.size w W) => b3y v l W (h.below hb) (fun s hs => by have := hok s hs; omega)
 have hD1 := fun W => a5y src W
 have hD2 := fun W => a5y dst W
 have hS := fun W => a2z n a b W (by omega) (by omega)
 have A1 := @c1v (decR n a b) l src dst base every
 have A2 := @c1t (decR n a b) l src dst base every
 have A3 := @c1u (decR n a b) l src dst base every
 have A4 := @args_neg (decR n a b) l src dst base every
 have A5 := @args_ok (decR n a b) l src dst base every
 have A0 := @c4q src dst base every
 generalize a2h (decR n a b) l src dst base every = r at *
 obtain ⟨m, hm⟩ : ∃ m, m = a3c l := ⟨_, rfl⟩
 rw [<- hm] at hC A1 A2 A3 A4 A5
 obtain ⟨d1, hd1⟩ : ∃ x, x = dayB src := ⟨_, rfl⟩
 rw [<- hd1] at hD1 A0 A2 A3 A4 A5
 obtain ⟨d2, hd2⟩ : ∃ x, x = dayB dst := ⟨_, rfl⟩
 rw [<- hd2] at hD2 A0 A2 A3 A4 A5
 generalize sgn (decR n a b).num = sg at *
 unfold raw at hS
 unfold raw
 have HC := zh hC
 have HD1 := zh hD1
 have HD2 := zh hD2
 have HG := zh hS
 clear h hok hC hD1 hD2 hS hm hd1 hd2 la lb
 by_cases h0 : m = 0
 ·subst h0
  cases d1
  ·have R := zh (A2 rfl (.inl rfl))
   clear A0 A1 A2 A3 A4 A5
   go_enter Tryz.func78, Tryz.ntmps78
   have HS := zh (St.start w)
   go_wp2_with fail
   have HS2 := aL HS #[.bool n, .string (bs a), .string (bs b)] 34 w.heap.size
   refine cL (HC.out _ HS2.out.below) HS2 fun w3 HS3 => ?_
   clear HS HS2
   go_wp2_with fail
   refine (HD1.out _).mono ?_
   rintro e w' ⟨rfl, rfl⟩
   go_wp2
   have HS4 := zh HS3.out
   go_ret
   rw [R.out]
   exact ⟨rfl, HS4.out.below⟩
  cases d2
  ·have R := zh (A2 rfl (.inr (.inl rfl)))
   clear A0 A1 A2 A3 A4 A5
   go_enter Tryz.func78, Tryz.ntmps78
   have HS := zh (St.start w)
   go_wp2_with fail
   have HS2 := aL HS #[.bool n, .string (bs a), .string (bs b)] 34 w.heap.size
   refine cL (HC.out _ HS2.out.below) HS2 fun w3 HS3 => ?_
   clear HS HS2
   go_wp2_with fail
   refine (HD1.out _).mono ?_
   rintro e w' ⟨rfl, rfl⟩
   go_wp2_with fail
   refine (HD2.out _).mono ?_
   rintro e w' ⟨rfl, rfl⟩
   go_wp2
   have HS4 := zh HS3.out
   go_ret
   rw [R.out]
   exact ⟨rfl, HS4.out.below⟩
  by_cases hb : base = 360 \/ base = 365
  ·by_cases he : every < 1
   ·have he2 : decide (every < 1) = true := decide_eq_true he
    rcases hb with rfl | rfl
    ·have R := zh (A2 rfl (.inr (.inr (.inr he))))
     clear he A0 A1 A2 A3 A4 A5
     go_enter Tryz.func78, Tryz.ntmps78
     have HS := zh (St.start w)
     go_wp2_with fail
     have HS2 := aL HS #[.bool n, .string (bs a), .string (bs b)] 34 w.heap.size
     refine cL (HC.out _ HS2.out.below) HS2 fun w3 HS3 => ?_
     clear HS HS2
     go_wp2_with fail
     refine (HD1.out _).mono ?_
     rintro e w' ⟨rfl, rfl⟩
     go_wp2_with fail
     refine (HD2.out _).mono ?_
     rintro e w' ⟨rfl, rfl⟩
     go_wp2
     have HS4 := zh HS3.out
     go_ret
     rw [R.out]
     exact ⟨rfl, HS4.out.below⟩
    have R := zh (A2 rfl (.inr (.inr (.inr he))))
    clear he A0 A1 A2 A3 A4 A5
    go_enter Tryz.func78, Tryz.ntmps78
    have HS := zh (St.start w)
    go_wp2_with fail
    have HS2 := aL HS #[.bool n, .string (bs a), .string (bs b)] 34 w.heap.size
    refine cL (HC.out _ HS2.out.below) HS2 fun w3 HS3 => ?_
    clear HS HS2
    go_wp2_with fail
    refine (HD1.out _).mono ?_
    rintro e w' ⟨rfl, rfl⟩
    go_wp2_with fail
    refine (HD2.out _).mono ?_
    rintro e w' ⟨rfl, rfl⟩
    go_wp2
    have HS4 := zh HS3.out
    go_ret
    rw [R.out]
    exact ⟨rfl, HS4.out.below⟩
   have he2 : decide (every < 1) = false := decide_eq_false he
   have A0 := A0 rfl rfl hb he
   clear he
   by_cases ho : dst < src
   ·have ho2 : decide (dst < src) = true := decide_eq_true ho
    rcases hb with rfl | rfl
    ·have R := zh (A3 rfl A0 ho)
     clear ho A0 A1 A2 A3 A4 A5
     go_enter Tryz.func78, Tryz.ntmps78
     have HS := zh (St.start w)
     go_wp2_with fail
     have HS2 := aL HS #[.bool n, .string (bs a), .string (bs b)] 34 w.heap.size
     refine cL (HC.out _ HS2.out.below) HS2 fun w3 HS3 => ?_
     clear HS HS2
     go_wp2_with fail
     refine (HD1.out _).mono ?_
     rintro e w' ⟨rfl, rfl⟩
     go_wp2_with fail
     refine (HD2.out _).mono ?_
     rintro e w' ⟨rfl, rfl⟩
     go_wp2
     have HS4 := zh HS3.out
     go_ret
     rw [R.out]
     exact ⟨rfl, HS4.out.below⟩
    have R := zh (A3 rfl A0 ho)
    clear ho A0 A1 A2 A3 A4 A5
    go_enter Tryz.func78, Tryz.ntmps78
    have HS := zh (St.start w)
    go_wp2_with fail
    have HS2 := aL HS #[.bool n, .string (bs a), .string (bs b)] 34 w.heap.size
    refine cL (HC.out _ HS2.out.below) HS2 fun w3 HS3 => ?_
    clear HS HS2
    go_wp2_with fail
    refine (HD1.out _).mono ?_
    rintro e w' ⟨rfl, rfl⟩
    go_wp2_with fail
    refine (HD2.out _).mono ?_
    rintro e w' ⟨rfl, rfl⟩
    go_wp2
    have HS4 := zh HS3.out
    go_ret
    rw [R.out]
    exact ⟨rfl, HS4.out.below⟩
   have ho2 : decide (dst < src) = false := decide_eq_false ho
   by_cases hn : sg < 0
   ·have hn2 : decide (sg < 0) = true := decide_eq_true hn
    rcases hb with rfl | rfl
    ·have R := zh (A4 rfl A0 ho hn)
     clear ho hn A0 A1 A2 A3 A4 A5
     go_enter Tryz.func78, Tryz.ntmps78
     have HS := zh (St.start w)
     go_wp2_with fail
     have HS2 := aL HS #[.bool n, .string (bs a), .string (bs b)] 34 w.heap.size
     refine cL (HC.out _ HS2.out.below) HS2 fun w3 HS3 => ?_
     clear HS HS2
     go_wp2_with fail
     refine (HD1.out _).mono ?_
     rintro e w' ⟨rfl, rfl⟩
     go_wp2_with fail
     refine (HD2.out _).mono ?_
     rintro e w' ⟨rfl, rfl⟩
     have x1 := cC HS3 0 0
     have x2 := cC HS3 0 1
     have x3 := cC HS3 0 2
     go_wp2_with fail
     refine cL (HG.out _) HS3 fun w4 HS4 => ?_
     clear HS3 x1 x2 x3
     go_wp2
     have HS5 := zh HS4.out
     go_ret
     rw [R.out]
     exact ⟨rfl, HS5.out.below⟩
    have R := zh (A4 rfl A0 ho hn)
    clear ho hn A0 A1 A2 A3 A4 A5
    go_enter Tryz.func78, Tryz.ntmps78
    have HS := zh (St.start w)
    go_wp2_with fail
    have HS2 := aL HS #[.bool n, .string (bs a), .string (bs b)] 34 w.heap.size
    refine cL (HC.out _ HS2.out.below) HS2 fun w3 HS3 => ?_
    clear HS HS2
    go_wp2_with fail
    refine (HD1.out _).mono ?_
    rintro e w' ⟨rfl, rfl⟩
    go_wp2_with fail
    refine (HD2.out _).mono ?_
    rintro e w' ⟨rfl, rfl⟩
    have x1 := cC HS3 0 0
    have x2 := cC HS3 0 1
    have x3 := cC HS3 0 2
    go_wp2_with fail
    refine cL (HG.out _) HS3 fun w4 HS4 => ?_
    clear HS3 x1 x2 x3
    go_wp2
    have HS5 := zh HS4.out
    go_ret
    rw [R.out]
    exact ⟨rfl, HS5.out.below⟩
   have hn2 : decide (sg < 0) = false := decide_eq_false hn
   rcases hb with rfl | rfl
   ·have R := zh (A5 rfl A0 ho hn)
    clear ho hn A0 A1 A2 A3 A4 A5
    go_enter Tryz.func78, Tryz.ntmps78
    have HS := zh (St.start w)
    go_wp2_with fail
    have HS2 := aL HS #[.bool n, .string (bs a), .string (bs b)] 34 w.heap.size
    refine cL (HC.out _ HS2.out.below) HS2 fun w3 HS3 => ?_
    clear HS HS2
    go_wp2_with fail
    refine (HD1.out _).mono ?_
    rintro e w' ⟨rfl, rfl⟩
    go_wp2_with fail
    refine (HD2.out _).mono ?_
    rintro e w' ⟨rfl, rfl⟩
    have x1 := cC HS3 0 0
    have x2 := cC HS3 0 1
    have x3 := cC HS3 0 2
    go_wp2_with fail
    refine cL (HG.out _) HS3 fun w4 HS4 => ?_
    clear HS3 x1 x2 x3
    go_wp2
    have HS5 := zh HS4.out
    go_ret
    rw [R.out]
    exact ⟨rfl, HS5.out.below⟩
   have R := zh (A5 rfl A0 ho hn)
   clear ho hn A0 A1 A2 A3 A4 A5
   go_enter Tryz.func78, Tryz.ntmps78
   have HS := zh (St.start w)
   go_wp2_with fail
   have HS2 := aL HS #[.bool n, .string (bs a), .string (bs b)] 34 w.heap.size
   refine cL (HC.out _ HS2.out.below) HS2 fun w3 HS3 => ?_
   clear HS HS2
   go_wp2_with fail
   refine (HD1.out _).mono ?_
   rintro e w' ⟨rfl, rfl⟩
   go_wp2_with fail
   refine (HD2.out _).mono ?_
   rintro e w' ⟨rfl, rfl⟩
   have x1 := cC HS3 0 0
   have x2 := cC HS3 0 1
   have x3 := cC HS3 0 2
   go_wp2_with fail
   refine cL (HG.out _) HS3 fun w4 HS4 => ?_
   clear HS3 x1 x2 x3
   go_wp2
   have HS5 := zh HS4.out
   go_ret
   rw [R.out]
   exact ⟨rfl, HS5.out.below⟩
  have b1 : (base == 360) = false := by rw [beq_eq_false_iff_ne]; omega
  have b2 : (base != 360) = true := by rw [bne, b1]; rfl
  have b3 : (base == 365) = false := by rw [beq_eq_false_iff_ne]; omega
  have b4 : (base != 365) = true := by rw [bne, b3]; rfl
  have R := zh (A2 rfl (.inr (.inr (.inl (by omega)))))
  clear hb A0 A1 A2 A3 A4 A5
  go_enter Tryz.func78, Tryz.ntmps78
  have HS := zh (St.start w)
  go_wp2_with fail
  have HS2 := aL HS #[.bool n, .string (bs a), .string (bs b)] 34 w.heap.size
  refine cL (HC.out _ HS2.out.below) HS2 fun w3 HS3 => ?_
  clear HS HS2
  go_wp2_with fail
  refine (HD1.out _).mono ?_
  rintro e w' ⟨rfl, rfl⟩
  go_wp2_with fail
  refine (HD2.out _).mono ?_
  rintro e w' ⟨rfl, rfl⟩
  go_wp2
  have HS4 := zh HS3.out
  go_ret
  rw [R.out]
  exact ⟨rfl, HS4.out.below⟩
 have R := zh (A1 rfl h0)
 have hn0 : (m == 0) = false := by rw [beq_eq_false_iff_ne]; exact h0
 have hn1 : (m != 0) = true := by rw [bne, hn0]; rfl
 clear A0 A1 A2 A3 A4 A5
 go_enter Tryz.func78, Tryz.ntmps78
 have HS := zh (St.start w)
 go_wp2_with fail
 have HS2 := aL HS #[.bool n, .string (bs a), .string (bs b)] 34 w.heap.size
 refine cL (HC.out _ HS2.out.below) HS2 fun w3 HS3 => ?_
 clear HS HS2
 go_wp2
 have HS4 := zh HS3.out
 go_ret
 rw [R.out]
 exact ⟨rfl, HS4.out.below⟩
end Go.Proofs.YtlkhoommpkndpaaGreatDoor
