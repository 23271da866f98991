/-
Part 30 of the base.
-/
import Derived.Test.YtlkhoommpkndpaaGreatDoorKj27
namespace Go.Proofs.YtlkhoommpkndpaaGreatDoor
open Go.RowKit
def outP (x : Six) : Prf := { a0y x with id := [97], code := [69, 85, 82], inc := 3 }
def midR (n : Nat) (a b : Rat) : Rat := a + (b - a) * mkRat ((n % 11 : Nat) : Int) 10
def outC (x : Six) : Rat := (a0w (outP x) 50 []).1
theorem conv_eur (p : Rat) : (a2m [] p [69, 85, 82] eur 50).2 = 0 := by
 have h : a2e [] eur 50 = (oneT, 0) := b6x rfl rfl rfl
 have h2 : a2e [] [69, 85, 82] 50 = (oneT, 0) := h
 rw [b7v (by rw [h2]) (by rw [h])]
theorem outP_err (x : Six) : a0z (outP x) = 0 := by
 have ha : ¬ sgn (a1w x.d).num < 0 := a7t (b4c x.d)
 have hr : ¬ sgn (a4t x).num < 0 := a7t (b0n x)
 have ea : (outP x).amount = a1w x.d := a3x _
 have er : (outP x).rate = a4t x := a3x _
 rw [c2x (show a5j [97] = true by decide) ?_ (show a1y [69, 85, 82] = true by decide) (by rw [ea]; exact ha) ?_ (by rw [er]; exact hr)]
 ·rw [if_neg]
  rw [er]
  rintro (h | ⟨h, h2⟩ | h)
  ·have hd : dayB (outP x).rf = true := by
    unfold dayB outP a0y
    dsimp only
    split
    ·rw [decide_eq_true (show (0 : Int) <= ((x.e / 50 % 60 : Nat) : Int) by omega), decide_eq_true (show ((x.e / 50 % 60 : Nat) : Int) <= 1048576 by omega)]; rfl
    rfl
   rw [hd] at h; cases h
  ·apply h2
   unfold outP a0y
   dsimp only
   split
   ·rename_i hc
    exfalso
    have hp : 0 < a4t x := by
     unfold a4t
     rw [if_pos hc]
     refine Rat.not_le.1 fun hle => ?_
     have h3 := Rat.num_nonneg.2 (show (0 : Rat) <= -mkRat (1 + (x.c : Int) / 4 % 9) 100 by grind)
     have h4 : mkRat (1 + (x.c : Int) / 4 % 9) 100 = 0 := Rat.le_antisymm hle (by have := b0n x; unfold a4t at this; rwa [if_pos hc] at this)
     rw [Rat.mkRat_eq_zero (by decide)] at h4
     omega
    have h5 : (a4t x).num ≠ 0 := fun h6 => by rw [Rat.num_eq_zero.1 h6] at hp; exact absurd hp (by decide)
    rcases a3d (a4t x).num with h6 | h6 | h6 <;> omega
   rfl
  apply h
  show -1 <= ((x.f / 5 % 4 : Nat) : Int) - 1 /\ ((x.f / 5 % 4 : Nat) : Int) - 1 < 8
  omega
 ·show (0 <= ((x.b % 4 : Nat) : Int) /\ ((x.b % 4 : Nat) : Int) <= 7) /\ 0 <= ((x.b / 4 % 9 : Nat) : Int) /\ ((x.b / 4 % 9 : Nat) : Int) <= 31
  omega
 refine ⟨rfl, ?_⟩
 show 0 <= ((x.f % 5 : Nat) : Int) /\ ((x.f % 5 : Nat) : Int) <= 7
 omega
theorem outP_ok (x : Six) : (a0w (outP x) 50 []).2 = 0 := by
 have h := outP_err x
 have hc := conv_eur (outP x).amount
 have h3 : ¬ (50 : Int) < (outP x).inc := by show ¬ (50 : Int) < 3; decide
 by_cases h5 : sgn (outP x).rate.num = 0 \/ (50 : Int) < (outP x).rf
 ·rw [c2a h rfl h3 hc h5]
 rw [c1z h rfl h3 hc h5]
theorem b2f (x : Six) : 0 <= outC x := b6h _ _ _
theorem c0h {x : Six} (h : x.ok) : (outP x).mid := by
 obtain ⟨⟨⟨q1, q2, q3⟩, q4, q5, _, q8⟩, q9⟩ := b8s h
 exact ⟨⟨⟨show [97].length <= 9223372036854775807 by decide, show [69, 85, 82].length <= 9223372036854775807 by decide, q3⟩, q4, q5, show (Lit.int .i64 3).wf = true by decide, q8⟩, q9⟩
theorem a7v {x : Six} (h : x.ok) : Sized 10000 (outC x) := b3j (c0h h).2 (by simp)
theorem ten_pos (n : Nat) : 0 <= mkRat ((n % 11 : Nat) : Int) 10 := by
 rw [<- Rat.num_nonneg, <- Rat.normalize_eq_mkRat (by omega), Rat.num_normalize]
 exact Int.ediv_nonneg (by omega) (by omega)
theorem ten_one (n : Nat) : mkRat ((n % 11 : Nat) : Int) 10 <= 1 := by
 have h : mkRat ((n % 11 : Nat) : Int) 10 + mkRat (10 - (n % 11 : Nat) : Int) 10 = 1 := by
  rw [Rat.mkRat_add_mkRat _ _ (by decide) (by decide)]
  rw [show (((n % 11 : Nat) : Int) * ((10 : Nat) : Int) + (10 - ((n % 11 : Nat) : Int)) * ((10 : Nat) : Int)) = 100 by omega]
  decide +kernel
 have h2 : 0 <= mkRat (10 - (n % 11 : Nat) : Int) 10 := by
  rw [<- Rat.num_nonneg, <- Rat.normalize_eq_mkRat (by omega), Rat.num_normalize]
  exact Int.ediv_nonneg (by omega) (by omega)
 grind
theorem b1p (n : Nat) : Sized 8 (mkRat ((n % 11 : Nat) : Int) 10) := by
 have hp : (256 : Nat) ^ 8 = 18446744073709551616 := by decide
 exact a5c (by omega) (a0g _ _ (by omega)) (a0g _ _ (by omega))
theorem b1q {M N : Nat} {p q : Rat} (hp : Sized M p) (hq : Sized N q) : Sized (M + N + 1) (p - q) := by
 rw [Rat.sub_eq_add_neg]; exact hp.add hq.neg
theorem c3m {n : Nat} {a b : Rat} (h : a <= b) : a <= midR n a b := by
 unfold midR
 have := Rat.mul_nonneg (show 0 <= b - a by grind) (ten_pos n)
 grind
theorem c3n {n : Nat} {a b : Rat} (h : a <= b) : midR n a b <= b := by
 unfold midR
 have h1 := ten_one n
 have := Rat.mul_nonneg (show 0 <= b - a by grind) (show 0 <= 1 - mkRat ((n % 11 : Nat) : Int) 10 by grind)
 grind
def outF (x : Six) (n : Nat) : Rat := midR n 0 (outC x)
def outM (x : Six) (n m : Nat) : Rat := midR m (outF x n) (outC x)
theorem b8u (x : Six) (n : Nat) : 0 <= outF x n /\ outF x n <= outC x := ⟨c3m (b2f x), c3n (b2f x)⟩
theorem c2z (x : Six) (n m : Nat) : outF x n <= outM x n m /\ outM x n m <= outC x := ⟨c3m (b8u x n).2, c3n (b8u x n).2⟩
theorem b4q {x : Six} (h : x.ok) (n : Nat) : Sized 20020 (outF x n) := by
 have hc := a7v h
 have h1 := (sized_zero.add (((b1q hc sized_zero).mul (b1p n))))
 exact h1.mono (by decide)
theorem b4p {x : Six} (h : x.ok) (n m : Nat) : Sized 60000 (outM x n m) := by
 have hc := a7v h
 have hf := b4q h n
 have h1 := hf.add (((b1q hc hf).mul (b1p m)))
 exact h1.mono (by decide)
def outX (x : Six) (f d v : Rat) (ap : Bool) (k : Nat) : Ent :=
 if k = 0 then newE (outP x) 51 60 (outC x)
 else if k = 1 then ⟨outP x, 3, false, enc3 (outC x), enc3 f, enc3 f, enc3 (outC x), 3, 52⟩
 else if k = 2 then ⟨outP x, 4, false, enc3 (outC x), enc3 f, enc3 d, enc3 (outC x), 3, 53⟩
 else if k = 3 then (if ap then ⟨outP x, 5, false, enc3 (outC x), enc3 f, enc3 d, enc3 (outC x), 3, 54⟩ else ⟨outP x, 6, false, enc3 (outC x), enc3 d, enc3 d, enc3 d, 3, 54⟩)
 else ⟨outP x, 6, false, enc3 (outC x), enc3 v, enc3 v, enc3 v, 3, 55⟩
def evO (kind day : Int) (am : Raw3) : Evt := ⟨kind, day, [97], am, 0, prf0⟩
def outE (f d v : Rat) (ap : Bool) : List Evt := evO 3 52 (enc3 f) :: evO 4 53 (enc3 d) :: if ap then [evO 5 54 zero3, evO 6 55 (enc3 v)] else [evO 9 54 zero3]
def outR (x : Six) (f d v : Rat) (ap : Bool) (k : Nat) : Rgs := ⟨50, 60, ((51 + k : Nat) : Int), [outX x f d v ap k]⟩
theorem b5c {x : Ent} {cut bar day : Int} {e : Evt} (hx : x.p.id = e.id) (h1 : 2 <= e.kind /\ e.kind <= 9) (h2 : day <= e.day) (h3 : dayB e.day = true) :
  a2c ⟨cut, bar, day, [x]⟩ e [] = if (a0n x e).2 ≠ 0 then (rgs0, (a0n x e).2) else (⟨cut, bar, e.day, [{ (a0n x e).1 with chg := e.day }]⟩, 0) := by
 have hf : a5f [x] e.id = some 0 := by
  unfold a5f
  rw [List.findIdx?_cons, hx]
  simp
 unfold a2c
 rw [if_neg (by rw [h3]; rintro (h | h | h) <;> first | omega | cases h), if_neg (by dsimp only; omega), if_neg (by omega)]
 dsimp only
 rw [hf]
 rfl
theorem c2y (x : Six) (f d v : Rat) (ap : Bool) (k : Nat) : (outX x f d v ap k).p.id = [97] := by
 unfold outX
 split
 ·rfl
 split
 ·rfl
 split
 ·rfl
 split
 ·split <;> rfl
 rfl
theorem out_step {x : Six} {f d v : Rat} {ap : Bool} (hf : 0 <= f /\ f <= outC x) (hd : f <= d /\ d <= outC x) (hv : f <= v /\ v <= outC x) {k : Nat} {e : Evt} (h : (outE f d v ap)[k]? = some e) :
  a2c (outR x f d v ap k) e [] = (outR x f d v ap (k + 1), 0) := by
 have z : (zero3 : Raw3).val = 0 := c1w
 have key : ∀ {e : Evt} {y z : Ent}, outX x f d v ap k = y -> outX x f d v ap (k + 1) = z -> e.id = [97] -> (2 <= e.kind /\ e.kind <= 9) -> e.day = ((51 + (k + 1) : Nat) : Int) -> dayB e.day = true -> a0n y e = ({ z with chg := y.chg }, 0) -> z.chg = e.day -> a2c (outR x f d v ap k) e [] = (outR x f d v ap (k + 1), 0) := by
  intro e y z hy hz h0 h1 h2 h3 h4 h5
  have hid : y.p.id = e.id := by rw [<- hy, c2y, h0]
  unfold outR
  rw [hy, hz, b5c hid h1 (by omega) h3, h4, if_neg (by simp), h2]
  dsimp only
  rw [<- h2, <- h5]
 have i1 : inB f 0 (outC x) = true := inB_iff.2 hf
 have i2 : inB d f (outC x) = true := inB_iff.2 hd
 have i3 : inB v f (outC x) = true := inB_iff.2 hv
 unfold outE at h
 match k, h with
 | 0, h =>
  obtain rfl : evO 3 52 (enc3 f) = e := Option.some.inj h
  refine key (y := ⟨outP x, 1, false, enc3 (outC x), zero3, zero3, enc3 (outC x), 3, 51⟩) (z := ⟨outP x, 3, false, enc3 (outC x), enc3 f, enc3 f, enc3 (outC x), 3, 52⟩) rfl rfl rfl ⟨by unfold evO; dsimp only; omega, by unfold evO; dsimp only; omega⟩ rfl rfl ?_ rfl
  unfold a0n evO
  dsimp only
  rw [if_neg (by decide), if_neg (by decide), if_pos rfl, a7z, a7z, if_pos i1]
 | 1, h =>
  obtain rfl : evO 4 53 (enc3 d) = e := Option.some.inj h
  refine key (y := ⟨outP x, 3, false, enc3 (outC x), enc3 f, enc3 f, enc3 (outC x), 3, 52⟩) (z := ⟨outP x, 4, false, enc3 (outC x), enc3 f, enc3 d, enc3 (outC x), 3, 53⟩) rfl rfl rfl ⟨by unfold evO; dsimp only; omega, by unfold evO; dsimp only; omega⟩ rfl rfl ?_ rfl
  unfold a0n evO
  dsimp only
  rw [if_neg (by decide), if_neg (by decide), if_neg (by decide), if_pos rfl]
  simp only [a7z]
  rw [if_pos i2]
 | 2, h =>
  cases ap with
  | true =>
   obtain rfl : evO 5 54 zero3 = e := Option.some.inj h
   refine key (y := ⟨outP x, 4, false, enc3 (outC x), enc3 f, enc3 d, enc3 (outC x), 3, 53⟩) (z := ⟨outP x, 5, false, enc3 (outC x), enc3 f, enc3 d, enc3 (outC x), 3, 54⟩) rfl rfl rfl ⟨by unfold evO; dsimp only; omega, by unfold evO; dsimp only; omega⟩ rfl rfl ?_ rfl
   unfold a0n evO
   dsimp only
   rw [if_neg (by decide), if_neg (by decide), if_neg (by decide), if_neg (by decide), if_pos rfl]
  | false =>
   obtain rfl : evO 9 54 zero3 = e := Option.some.inj h
   refine key (y := ⟨outP x, 4, false, enc3 (outC x), enc3 f, enc3 d, enc3 (outC x), 3, 53⟩) (z := ⟨outP x, 6, false, enc3 (outC x), enc3 d, enc3 d, enc3 d, 3, 54⟩) rfl rfl rfl ⟨by unfold evO; dsimp only; omega, by unfold evO; dsimp only; omega⟩ rfl rfl ?_ rfl
   unfold a0n evO
   dsimp only
   rw [if_neg (by decide), if_neg (by decide), if_neg (by decide), if_neg (by decide), if_neg (by decide), if_neg (by decide), if_pos rfl]
   simp only [a7z]
 | 3, h =>
  cases ap with
  | true =>
   obtain rfl : evO 6 55 (enc3 v) = e := Option.some.inj h
   refine key (y := ⟨outP x, 5, false, enc3 (outC x), enc3 f, enc3 d, enc3 (outC x), 3, 54⟩) (z := ⟨outP x, 6, false, enc3 (outC x), enc3 v, enc3 v, enc3 v, 3, 55⟩) rfl rfl rfl ⟨by unfold evO; dsimp only; omega, by unfold evO; dsimp only; omega⟩ rfl rfl ?_ rfl
   unfold a0n evO
   dsimp only
   rw [if_neg (by decide), if_neg (by decide), if_neg (by decide), if_neg (by decide), if_neg (by decide), if_pos rfl]
   simp only [a7z]
   rw [if_pos i3]
  | false => cases h
 | n + 4, h =>
  cases ap with
  | true => cases h
  | false => cases h
theorem out_file (x : Six) (f d v : Rat) (ap : Bool) : a2c ⟨50, 60, 0, []⟩ ⟨1, 51, [], zero3, 0, outP x⟩ [] = (outR x f d v ap 0, 0) := by
 unfold a2c
 rw [if_neg (show ¬ ((1 : Int) < 1 \/ 9 < (1 : Int) \/ dayB 51 = false) by decide), if_neg (show ¬ (51 : Int) < 0 by decide), if_pos rfl]
 dsimp only
 rw [outP_ok x, if_neg (by simp), if_neg (by simp [a5f]), if_neg (by decide)]
 rfl
theorem out_last (x : Six) (f d v : Rat) (ap : Bool) : (a2c (outR x f d v ap (if ap then 4 else 3)) (evO 5 60 zero3) []).2 = 13 := by
 unfold outR
 have hl : (((51 + (if ap then 4 else 3) : Nat)) : Int) <= 60 := by cases ap <;> decide
 rw [b5c (by rw [c2y]; rfl) (by decide) hl rfl]
 cases ap <;> rfl
theorem out_mid {x : Six} {f d v : Rat} {ap : Bool} (h : x.ok) (hf : Sized 60000 f) (hd : Sized 60000 d) (hv : Sized 60000 v) (k : Nat) : ∀ y ∈ (outR x f d v ap k).es, (y.fl.a.length <= 1000000 /\ y.fl.b.length <= 1000000) /\ (y.ad.a.length <= 1000000 /\ y.ad.b.length <= 1000000) /\ (y.ce.a.length <= 1000000 /\ y.ce.b.length <= 1000000) := by
 intro y hy
 obtain rfl : y = outX x f d v ap k := by simpa [outR] using hy
 have hc := (a7v h).mono (show 10000 <= 1000000 by decide)
 have zc : (numB (0 : Rat)).length <= 1000000 := by decide +kernel
 have c1 := hc.num
 have c2 := hc.denom
 have f1 := (hf.mono (show 60000 <= 1000000 by decide)).num
 have f2 := (hf.mono (show 60000 <= 1000000 by decide)).denom
 have d1 := (hd.mono (show 60000 <= 1000000 by decide)).num
 have d2 := (hd.mono (show 60000 <= 1000000 by decide)).denom
 have v1 := (hv.mono (show 60000 <= 1000000 by decide)).num
 have v2 := (hv.mono (show 60000 <= 1000000 by decide)).denom
 unfold outX
 split
 ·exact ⟨⟨Nat.zero_le _, Nat.zero_le _⟩, ⟨Nat.zero_le _, Nat.zero_le _⟩, c1, c2⟩
 split
 ·exact ⟨⟨f1, f2⟩, ⟨f1, f2⟩, c1, c2⟩
 split
 ·exact ⟨⟨f1, f2⟩, ⟨d1, d2⟩, c1, c2⟩
 split
 ·split
  ·exact ⟨⟨f1, f2⟩, ⟨d1, d2⟩, c1, c2⟩
  exact ⟨⟨d1, d2⟩, ⟨d1, d2⟩, d1, d2⟩
 exact ⟨⟨v1, v2⟩, ⟨v1, v2⟩, v1, v2⟩
theorem out_am {f d v : Rat} {ap : Bool} (hf : Sized 60000 f) (hd : Sized 60000 d) (hv : Sized 60000 v) : ∀ e ∈ outE f d v ap, e.am.a.length <= 1000000 /\ e.am.b.length <= 1000000 := by
 have f1 := (hf.mono (show 60000 <= 1000000 by decide)).num
 have f2 := (hf.mono (show 60000 <= 1000000 by decide)).denom
 have d1 := (hd.mono (show 60000 <= 1000000 by decide)).num
 have d2 := (hd.mono (show 60000 <= 1000000 by decide)).denom
 have v1 := (hv.mono (show 60000 <= 1000000 by decide)).num
 have v2 := (hv.mono (show 60000 <= 1000000 by decide)).denom
 intro e he
 unfold outE at he
 cases ap
 ·rcases List.mem_cons.1 he with rfl | he
  ·exact ⟨f1, f2⟩
  rcases List.mem_cons.1 he with rfl | he
  ·exact ⟨d1, d2⟩
  obtain rfl : e = _ := by simpa using he
  exact ⟨Nat.zero_le _, Nat.zero_le _⟩
 rcases List.mem_cons.1 he with rfl | he
 ·exact ⟨f1, f2⟩
 rcases List.mem_cons.1 he with rfl | he
 ·exact ⟨d1, d2⟩
 rcases List.mem_cons.1 he with rfl | he
 ·exact ⟨Nat.zero_le _, Nat.zero_le _⟩
 obtain rfl : e = _ := by simpa using he
 exact ⟨v1, v2⟩
end Go.Proofs.YtlkhoommpkndpaaGreatDoor
