/-
Part 19 of the base.
-/
import Derived.Test.YtlkhoommpkndpaaGreatDoorKd17
import Derived.Test.YtlkhoommpkndpaaGreatDoorKd18
import Derived.Test.YtlkhoommpkndpaaGreatDoorKd14
set_option maxRecDepth 100000
set_option maxHeartbeats 1000000
namespace Go.Proofs.YtlkhoommpkndpaaGreatDoor
open Go.RowKit
structure Quo where
 code : List UInt8
 day : Int
 neg : Bool
 num : List UInt8
 den : List UInt8
def Quo.enc (q : Quo) : List Value := [.string (bs q.code), .int .i64 q.day, .bool q.neg, .string (bs q.num), .string (bs q.den)]
abbrev Quotes (w : World) (v : Value) (qs : List Quo) : Prop := Slc Quo.enc 5 w v qs
end Go.Proofs.YtlkhoommpkndpaaGreatDoor
/-
Days and currency codes: the program's and the document's tests.
-/
namespace Go.Proofs.YtlkhoommpkndpaaGreatDoor
open Go.RowKit
def letB (x : UInt8) : Bool := decide (65 ≤ x.toNat) && decide (x.toNat ≤ 90)
def isCodeB (l : List UInt8) : Bool := l.all letB && decide (l.length = 3)
theorem day_any (f : FuncId) (d : Int) (w : World) (h : f = 119 ∨ f = 42) :
  Calls Tryz.prog f #[.int .i64 d] w fun e w' => e = .returned (.bool (dayB d)) ∧ w = w' := by
 unfold dayB
 have d1 : ∃ x, x = decide (0 ≤ d) := ⟨_, rfl⟩
 obtain ⟨x, hx⟩ := d1
 obtain ⟨y, hy⟩ : ∃ y, y = decide (d ≤ 1048576) := ⟨_, rfl⟩
 rw [← hx, ← hy]
 have hx' := hx.symm
 have hy' := hy.symm
 clear hx hy
 rcases h with rfl | rfl
 ·cases x <;> cases y
  all_goals
   go_enter Tryz.func119, Tryz.ntmps119
   go_wp2
   go_ret
   exact ⟨rfl, rfl⟩
 ·cases x <;> cases y
  all_goals
   go_enter Tryz.func42, Tryz.ntmps42
   go_wp2
   go_ret
   exact ⟨rfl, rfl⟩
theorem currency_isDay (d : Int) (w : World) : Calls Tryz.prog 119 #[.int .i64 d] w fun e w' => e = .returned (.bool (dayB d)) ∧ w = w' := day_any _ d w (.inl rfl)
theorem code_step {l : List UInt8} {i : Nat} (hi : i < l.length) : (l.take (i + 1)).all letB = ((l.take i).all letB && letB (l.getD i 0)) := by
 have : l[i]? = some (l.getD i 0) := by rw [List.getD_eq_getElem?_getD, List.getElem?_eq_getElem hi]; rfl
 exact take_all this
theorem code_false {l : List UInt8} {i : Nat} (hi : i < l.length) (h : letB (l.getD i 0) = false) : isCodeB l = false := by
 unfold isCodeB
 rw [Bool.and_eq_false_iff]; left
 rw [List.all_eq_false]
 refine ⟨l.getD i 0, ?_, by rw [h]; decide⟩
 rw [List.getD_eq_getElem?_getD, List.getElem?_eq_getElem hi]
 exact List.getElem_mem hi
theorem currency_isCode (s : ByteArray) (w : World) (hs : s.size ≤ 9223372036854775807) :
  Calls Tryz.prog 143 #[.string s] w fun e w' => e = .returned (.bool (isCodeB s.data.toList)) ∧ w = w' := by
 go_enter Tryz.func143, Tryz.ntmps143
 go_wp2
 go_loop [6] (fun i => ∃ k : Nat, k ≤ s.size ∧ i = .int .i64 k ∧ Hid ((s.data.toList.take k).all letB = true)) (fun i => s.size - (intOf i).toNat)
 case atStart => exact ⟨0, Nat.zero_le _, rfl, rfl⟩
 case round =>
  obtain ⟨k, hk, rfl, ha⟩ := hrel
  by_cases hlt : k < s.size
  ·obtain ⟨b, hbs, hidx⟩ := str_index 9 Tryz.underlying9 s (k : Int) k rfl hlt
   have hlt' : k < s.data.toList.length := by rw [size_list]; exact hlt
   have hst := code_step hlt'
   obtain ⟨x, hx⟩ : ∃ x, x = decide (65 ≤ b) := ⟨_, rfl⟩
   obtain ⟨y, hy⟩ : ∃ y, y = decide (b ≤ 90) := ⟨_, rfl⟩
   have hl : letB (s.data.toList.getD k 0) = (x && y) := by unfold letB; rw [← hbs, hx, hy]
   have e1 : decide ((b : Int) < 65) = !x := by rw [hx, ← decide_not]; exact decide_eq_decide.2 (by omega)
   have e2 : decide ((90 : Int) < (b : Int)) = !y := by rw [hy, ← decide_not]; exact decide_eq_decide.2 (by omega)
   have HL := Lib.hid hl
   have HST := Lib.hid hst
   have HLT := Lib.hid hlt'
   clear hl hst hbs hx hy hlt'
   cases x <;> cases y <;> simp only [Bool.not_true, Bool.not_false] at e1 e2
   all_goals go_wp2
   case roundEnd =>
    go_round
    case rel => exact ⟨k + 1, by omega, by go_num, by show _ = _; rw [HST.out, HL.out, ha.out]; rfl⟩
    case measure => simp [intOf]; omega
   all_goals
    go_ret
    rw [code_false HLT.out HL.out]
    exact ⟨rfl, rfl⟩
  ·have hk' : k = s.size := by omega
   subst hk'
   obtain ⟨x, hx⟩ : ∃ x, x = ((s.size : Int) == 3) := ⟨_, rfl⟩
   have e : isCodeB s.data.toList = x := by
    unfold isCodeB
    have := ha.out
    rw [List.take_of_length_le (by rw [size_list]; exact Nat.le_refl _)] at this
    rw [this, Bool.true_and, hx, size_list]
    rw [Bool.eq_iff_iff]; simp; omega
   have E := Lib.hid e
   have hx' := hx.symm
   clear hx e
   cases x
   all_goals
    go_wp2
    go_ret
    rw [E.out]
    exact ⟨rfl, rfl⟩
end Go.Proofs.YtlkhoommpkndpaaGreatDoor
/-
Quotes, in plain Lean: the first error of a list; the latest quote that is not after a day.
-/
namespace Go.Proofs.YtlkhoommpkndpaaGreatDoor
def eur : List UInt8 := [69, 85, 82]
def Quo.rat (q : Quo) : Rat := decR q.neg q.num q.den
def posQ (q : Quo) : Bool := decide (0 < q.rat.num)
def sameQ (q p : Quo) : Bool := p.code == q.code && p.day == q.day
def Quo.ok (q : Quo) : Prop := q.code.length ≤ 9223372036854775807 ∧ q.num.length ≤ 17179869184 ∧ q.den.length ≤ 17179869184 ∧ -9223372036854775808 ≤ q.day ∧ q.day ≤ 9223372036854775807
def qErr (pre : List Quo) (q : Quo) : Int :=
 if !isCodeB q.code || q.code == eur then 8 else if !dayB q.day || !posQ q then 1 else if pre.any (sameQ q) then 12 else 0
def checkFrom : List Quo → List Quo → Int
 | _, [] => 0
 | pre, q :: rest => if qErr pre q = 0 then checkFrom (pre ++ [q]) rest else qErr pre q
def checkQ (qs : List Quo) : Int := if 256 < qs.length then 2 else checkFrom [] qs
theorem check_step {qs : List Quo} {i : Nat} {q : Quo} (h : qs[i]? = some q) :
  checkFrom (qs.take i) (qs.drop i) = if qErr (qs.take i) q = 0 then checkFrom (qs.take (i + 1)) (qs.drop (i + 1)) else qErr (qs.take i) q := by
 rw [drop_at h, take_at h]; rfl
theorem check_end {qs : List Quo} {i : Nat} (h : qs.length ≤ i) : checkFrom (qs.take i) (qs.drop i) = 0 := by
 rw [List.drop_of_length_le h]; rfl
theorem qErr_code {pre : List Quo} {q : Quo} (h : isCodeB q.code = false) : qErr pre q = 8 := by unfold qErr; rw [h]; rfl
theorem qErr_base {pre : List Quo} {q : Quo} (h : (q.code == eur) = true) : qErr pre q = 8 := by unfold qErr; rw [h, Bool.or_true]; rfl
theorem qErr_day {pre : List Quo} {q : Quo} (h : isCodeB q.code = true) (h2 : (q.code == eur) = false) (h3 : dayB q.day = false) : qErr pre q = 1 := by
 unfold qErr; rw [h, h2, h3]; rfl
theorem qErr_sign {pre : List Quo} {q : Quo} (h : isCodeB q.code = true) (h2 : (q.code == eur) = false) (h3 : posQ q = false) : qErr pre q = 1 := by
 unfold qErr; rw [h, h2, h3, Bool.not_false, Bool.or_true]; rfl
theorem qErr_twice {pre : List Quo} {q : Quo} (h : isCodeB q.code = true) (h2 : (q.code == eur) = false) (h3 : dayB q.day = true) (h4 : posQ q = true) (h5 : pre.any (sameQ q) = true) : qErr pre q = 12 := by
 unfold qErr; rw [h, h2, h3, h4, h5]; rfl
theorem qErr_none {pre : List Quo} {q : Quo} (h : isCodeB q.code = true) (h2 : (q.code == eur) = false) (h3 : dayB q.day = true) (h4 : posQ q = true) (h5 : pre.any (sameQ q) = false) : qErr pre q = 0 := by
 unfold qErr; rw [h, h2, h3, h4, h5]; rfl
theorem check_err {qs : List Quo} {i : Nat} {q : Quo} {n : Int} (hl : qs.length ≤ 256) (h : checkFrom [] qs = checkFrom (qs.take i) (qs.drop i)) (hq : qs[i]? = some q) (he : qErr (qs.take i) q = n) (hn : n ≠ 0) : checkQ qs = n := by
 unfold checkQ
 rw [if_neg (by omega), h, check_step hq, he, if_neg hn]
theorem check_ok {qs : List Quo} {i : Nat} (hl : qs.length ≤ 256) (h : checkFrom [] qs = checkFrom (qs.take i) (qs.drop i)) (hi : qs.length ≤ i) : checkQ qs = 0 := by
 unfold checkQ
 rw [if_neg (by omega), h, check_end hi]
theorem check_go {qs : List Quo} {i : Nat} {q : Quo} (h : checkFrom [] qs = checkFrom (qs.take i) (qs.drop i)) (hq : qs[i]? = some q) (he : qErr (qs.take i) q = 0) : checkFrom [] qs = checkFrom (qs.take (i + 1)) (qs.drop (i + 1)) := by
 rw [h, check_step hq, if_pos he]
theorem sgn_le {n : Int} : decide (sgn n ≤ 0) = !decide (0 < n) := by
 rw [← decide_not]
 apply decide_eq_decide.2
 rcases Int.lt_trichotomy n 0 with h | h | h
 ·rw [sgn_neg h]; omega
 ·rw [h, sgn_zero]; omega
 ·rw [sgn_pos h]; omega
end Go.Proofs.YtlkhoommpkndpaaGreatDoor
/-
The document's CheckQuotes.
-/
namespace Go.Proofs.YtlkhoommpkndpaaGreatDoor
open Go.RowKit
end Go.Proofs.YtlkhoommpkndpaaGreatDoor
