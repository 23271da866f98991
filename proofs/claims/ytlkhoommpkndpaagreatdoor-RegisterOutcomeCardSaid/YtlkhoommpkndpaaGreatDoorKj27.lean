/-
Part 27 of the base.
-/
import Derived.Test.YtlkhoommpkndpaaGreatDoorKj26
import Derived.Test.YtlkhoommpkndpaaGreatDoorKj29
namespace Go.Proofs.YtlkhoommpkndpaaGreatDoor
open Go.RowKit
theorem le_sgnR {a b : Rat} : (sgn (a - b).num <= 0) ↔ a <= b := by
 rcases a3d (a - b).num with h | h | h
 ·have h0 : ¬ 0 <= a - b := fun k => by have := Rat.num_nonneg.2 k; omega
  constructor
  ·intro _; grind
  intro _; omega
 ·have h0 : a - b = 0 := Rat.num_eq_zero.1 h.1
  constructor
  ·intro _; grind
  intro _; omega
 have h0 : ¬ a - b <= 0 := fun k => by
  have k2 : 0 <= -(a - b) := by grind
  have := Rat.num_nonneg.2 k2
  rw [Rat.neg_num] at this
  omega
 constructor
 ·intro _; omega
 intro k; exact absurd (by grind) h0
theorem ge_sgnR {a b : Rat} : (0 <= sgn (a - b).num) ↔ b <= a := by
 constructor
 ·intro h
  have := b1s h
  grind
 intro h
 have := a7t (q := a - b) (by grind)
 omega
theorem inB_iff {r lo hi : Rat} : inB r lo hi = true ↔ lo <= r /\ r <= hi := by
 unfold inB
 rw [Bool.and_eq_true, decide_eq_true_iff, decide_eq_true_iff, le_sgnR, ge_sgnR]
theorem c1w : zero3.val = 0 := b2u
theorem b6n {a : Rat} {p : Prf} {cut : Int} (ha : 0 <= a) (h1 : dayB p.rf = true) (h2 : ¬ sgn p.rate.num < 0) : 0 <= (a6v a [p.step] p.rf cut 365).1 := by
 unfold a6v
 split
 ·exact Rat.le_refl
 exact Rat.mul_nonneg ha (b6p (a4w (a9q (s := p.step) h1 h2)) (by decide))
theorem b6h (p : Prf) (cut : Int) (qs : List Quo) : 0 <= (a0w p cut qs).1 := by
 unfold a0w
 split
 ·exact Rat.le_refl
 rename_i h1
 obtain ⟨_, _, z3, _, z5, z6⟩ := a6n (Classical.not_not.1 h1)
 have hc : 0 <= (a2m qs p.amount p.code eur cut).1 := b2y (b1s z3)
 split
 ·exact Rat.le_refl
 split
 ·exact Rat.le_refl
 split
 ·exact Rat.le_refl
 split
 ·exact hc
 have := b6n (cut := cut) hc z6 (show ¬ sgn p.rate.num < 0 by omega)
 show 0 <= (a2m qs p.amount p.code eur cut).1 + _
 grind
structure Six where
 a : Nat
 b : Nat
 c : Nat
 d : Nat
 e : Nat
 f : Nat
def Six.enc (x : Six) : List Value := [.int .u16 (x.a : Nat), .int .u16 (x.b : Nat), .int .u16 (x.c : Nat), .int .u16 (x.d : Nat), .int .u16 (x.e : Nat), .int .u16 (x.f : Nat)]
def Six.ok (x : Six) : Prop := x.a <= 65535 /\ x.b <= 65535 /\ x.c <= 65535 /\ x.d <= 65535 /\ x.e <= 65535 /\ x.f <= 65535
structure ActN where
 kind : Nat
 pass : Nat
 claim : Nat
 am : Nat
 p : Six
def ActN.enc (a : ActN) : List Value := [.int .u8 (a.kind : Nat), .int .u8 (a.pass : Nat), .int .u8 (a.claim : Nat), .int .u16 (a.am : Nat)] ++ a.p.enc
def ActN.ok (a : ActN) : Prop := (a.kind <= 255 /\ a.pass <= 255 /\ a.claim <= 255 /\ a.am <= 65535) /\ a.p.ok
def b8z (k : Nat) : List UInt8 := if k = 0 then [97] else if k = 1 then [98] else if k = 2 then [99] else if k = 3 then [100] else if k = 4 then [101] else if k = 5 then [102] else if k = 6 then [103] else if k = 7 then [104] else if k = 8 then [115, 49] else if k = 9 then [115, 45, 50] else if k = 10 then [116, 95, 51] else [117]
theorem c3h (k : Nat) : (b8z k).length <= 3 := by
 unfold b8z
 repeat' (split <;> try decide)
def b9n (k : Nat) : List UInt8 := if k <= 1 then eurL else if k = 2 then usdL else gbpL
theorem c4d (k : Nat) : (b9n k).length = 3 := by
 unfold b9n
 repeat' (split <;> try rfl)
def a4t (x : Six) : Rat := if x.c % 3 = 0 then mkRat (1 + (x.c : Int) / 4 % 9) 100 else 0
def a0y (x : Six) : Prf := ⟨b8z (x.a % 12), (x.b % 4 : Nat), (x.b / 4 % 9 : Nat), b9n (x.c % 4), negB (a1w x.d), numB (a1w x.d), a0a (a1w x.d), (x.e % 50 : Nat), (x.f % 5 : Nat), negB (a4t x), numB (a4t x), a0a (a4t x), if x.c % 3 = 0 then ((x.e / 50 % 60 : Nat) : Int) else 0, ((x.f / 5 % 4 : Nat) : Int) - 1⟩
def prf0 : Prf := ⟨[], 0, 0, [], false, [], [], 0, 0, false, [], [], 0, 0⟩
def Raw3.le (t : Raw3) (n : Nat) : Prop := t.a.length <= n /\ t.b.length <= n
def Prf.mid (p : Prf) : Prop := p.fit /\ (p.aa.length <= 100 /\ p.ab.length <= 100) /\ p.ra.length <= 100 /\ p.rb.length <= 100
def Ent.mid (x : Ent) : Prop := x.fit /\ x.fl.le 10000 /\ x.ad.le 10000 /\ x.ce.le 10000
def Evt.mid (e : Evt) : Prop := e.am.le 10000 /\ e.p.mid
def Quo.low (q : Quo) : Prop := q.num.length <= 100 /\ q.den.length <= 100
theorem Raw3.le.fit {t : Raw3} {n : Nat} (h : t.le n) (hn : n <= 9223372036854775807) : t.fit := ⟨Nat.le_trans h.1 hn, Nat.le_trans h.2 hn⟩
theorem c0r {a : Int} (h : -9223372036854775808 <= a /\ a <= 9223372036854775807) : (Lit.int .i64 a).wf = true := WalkArith.wf_i64 h
theorem b9s {x : Nat} (h : x <= 65535) : Sized 8 (a1w x) := b6d h
theorem b8n {x : Six} (h : x.ok) : Sized 8 (a4t x) := by
 have hp : (256 : Nat) ^ 8 = 18446744073709551616 := by decide
 unfold a4t
 split
 ·exact a5c (by omega) (a0g _ _ (by have := h.2.2.1; omega)) (a0g _ _ (by omega))
 exact sized_zero.mono (by decide)
theorem b0n (x : Six) : 0 <= a4t x := by
 unfold a4t
 split
 ·rw [<- Rat.num_nonneg, <- Rat.normalize_eq_mkRat (by omega), Rat.num_normalize]
  exact Int.ediv_nonneg (by omega) (by omega)
 exact Rat.le_refl
theorem b8s {x : Six} (h : x.ok) : (a0y x).mid := by
 have ha := b9s h.2.2.2.1
 have hr := b8n h
 have n1 := c3h (x.a % 12)
 have n2 := c4d (x.c % 4)
 obtain ⟨a1, a2⟩ : (numB (a1w x.d)).length <= 8 /\ (a0a (a1w x.d)).length <= 8 := ⟨ha.num, ha.denom⟩
 obtain ⟨r1, r2⟩ : (numB (a4t x)).length <= 8 /\ (a0a (a4t x)).length <= 8 := ⟨hr.num, hr.denom⟩
 unfold Prf.mid Prf.fit a0y
 dsimp only
 refine ⟨⟨⟨by omega, by omega, by omega, by omega, by omega, by omega⟩, c0r (by omega), c0r (by omega), c0r (by omega), c0r (by omega), c0r ?_, c0r (by omega)⟩, ⟨by omega, by omega⟩, by omega, by omega⟩
 split <;> omega
end Go.Proofs.YtlkhoommpkndpaaGreatDoor
