/-
Part 19 of the base.
-/
import Derived.Test.YtlkhoommpkndpaaGreatDoorKb17
import Derived.Test.YtlkhoommpkndpaaGreatDoorKb18
import Derived.Test.YtlkhoommpkndpaaGreatDoorKb14
set_option maxRecDepth 100000
set_option maxHeartbeats 2000000
namespace Go.Proofs.YtlkhoommpkndpaaGreatDoor
open Go.RowKit
structure Quo where
 code : List UInt8
 day : Int
 neg : Bool
 num : List UInt8
 den : List UInt8
def Quo.enc (q : Quo) : List Value := [.string (bs q.code), .int .i64 q.day, .bool q.neg, .string (bs q.num), .string (bs q.den)]
abbrev Quotes (w : World) (v : Value) (qs : List Quo) : Prop := Slc Quo.enc 5 w v qs
end Go.Proofs.YtlkhoommpkndpaaGreatDoor
/-
Days and currency codes: the program's and the document's tests.
-/
namespace Go.Proofs.YtlkhoommpkndpaaGreatDoor
open Go.RowKit
def letB (x : UInt8) : Bool := decide (65 ≤ x.toNat) && decide (x.toNat ≤ 90)
def isCodeB (l : List UInt8) : Bool := l.all letB && decide (l.length = 3)
theorem day_any (f : FuncId) (d : Int) (w : World) (h : f = 119 ∨ f = 42) :
  Calls Tryz.prog f #[.int .i64 d] w fun e w' => e = .returned (.bool (dayB d)) ∧ w = w' := by
 unfold dayB
 have d1 : ∃ x, x = decide (0 ≤ d) := ⟨_, rfl⟩
 obtain ⟨x, hx⟩ := d1
 obtain ⟨y, hy⟩ : ∃ y, y = decide (d ≤ 1048576) := ⟨_, rfl⟩
 rw [← hx, ← hy]
 have hx' := hx.symm
 have hy' := hy.symm
 clear hx hy
 rcases h with rfl | rfl
 ·cases x <;> cases y
  all_goals
   go_enter Tryz.func119, Tryz.ntmps119
   go_wp2
   go_ret
   exact ⟨rfl, rfl⟩
 ·cases x <;> cases y
  all_goals
   go_enter Tryz.func42, Tryz.ntmps42
   go_wp2
   go_ret
   exact ⟨rfl, rfl⟩
theorem currency_isDay (d : Int) (w : World) : Calls Tryz.prog 119 #[.int .i64 d] w fun e w' => e = .returned (.bool (dayB d)) ∧ w = w' := day_any _ d w (.inl rfl)
theorem code_step {l : List UInt8} {i : Nat} (hi : i < l.length) : (l.take (i + 1)).all letB = ((l.take i).all letB && letB (l.getD i 0)) := by
 have : l[i]? = some (l.getD i 0) := by rw [List.getD_eq_getElem?_getD, List.getElem?_eq_getElem hi]; rfl
 exact take_all this
theorem code_false {l : List UInt8} {i : Nat} (hi : i < l.length) (h : letB (l.getD i 0) = false) : isCodeB l = false := by
 unfold isCodeB
 rw [Bool.and_eq_false_iff]; left
 rw [List.all_eq_false]
 refine ⟨l.getD i 0, ?_, by rw [h]; decide⟩
 rw [List.getD_eq_getElem?_getD, List.getElem?_eq_getElem hi]
 exact List.getElem_mem hi
theorem ref_IsCode (s : ByteArray) (w : World) (hs : s.size ≤ 9223372036854775807) :
  Calls Tryz.prog 82 #[.string s] w fun e w' => e = .returned (.bool (isCodeB s.data.toList)) ∧ w = w' := by
 go_enter Tryz.func82, Tryz.ntmps82
 go_wp2
 go_loop [3] (fun i => ∃ k : Nat, k ≤ s.size ∧ i = .int .i64 k ∧ Hid ((s.data.toList.take k).all letB = true)) (fun i => s.size - (intOf i).toNat)
 case atStart => exact ⟨0, Nat.zero_le _, rfl, rfl⟩
 case round =>
  obtain ⟨k, hk, rfl, ha⟩ := hrel
  by_cases hlt : k < s.size
  ·obtain ⟨b, hbs, hidx⟩ := str_index 9 Tryz.underlying9 s (k : Int) k rfl hlt
   have hlt' : k < s.data.toList.length := by rw [size_list]; exact hlt
   have hst := code_step hlt'
   obtain ⟨x, hx⟩ : ∃ x, x = decide (65 ≤ b) := ⟨_, rfl⟩
   obtain ⟨y, hy⟩ : ∃ y, y = decide (b ≤ 90) := ⟨_, rfl⟩
   have hl : letB (s.data.toList.getD k 0) = (x && y) := by unfold letB; rw [← hbs, hx, hy]
   have e1 : decide ((b : Int) < 65) = !x := by rw [hx, ← decide_not]; exact decide_eq_decide.2 (by omega)
   have e2 : decide ((90 : Int) < (b : Int)) = !y := by rw [hy, ← decide_not]; exact decide_eq_decide.2 (by omega)
   have HL := Lib.hid hl
   have HST := Lib.hid hst
   have HLT := Lib.hid hlt'
   clear hl hst hbs hx hy hlt'
   cases x <;> cases y <;> simp only [Bool.not_true, Bool.not_false] at e1 e2
   all_goals go_wp2
   case roundEnd =>
    go_round
    case rel => exact ⟨k + 1, by omega, by go_num, by show _ = _; rw [HST.out, HL.out, ha.out]; rfl⟩
    case measure => simp [intOf]; omega
   all_goals
    go_ret
    rw [code_false HLT.out HL.out]
    exact ⟨rfl, rfl⟩
  ·have hk' : k = s.size := by omega
   subst hk'
   obtain ⟨x, hx⟩ : ∃ x, x = ((s.size : Int) == 3) := ⟨_, rfl⟩
   have e : isCodeB s.data.toList = x := by
    unfold isCodeB
    have := ha.out
    rw [List.take_of_length_le (by rw [size_list]; exact Nat.le_refl _)] at this
    rw [this, Bool.true_and, hx, size_list]
    rw [Bool.eq_iff_iff]; simp; omega
   have E := Lib.hid e
   have hx' := hx.symm
   clear hx e
   cases x
   all_goals
    go_wp2
    go_ret
    rw [E.out]
    exact ⟨rfl, rfl⟩
theorem currency_isCode (s : ByteArray) (w : World) (hs : s.size ≤ 9223372036854775807) :
  Calls Tryz.prog 143 #[.string s] w fun e w' => e = .returned (.bool (isCodeB s.data.toList)) ∧ w = w' := by
 go_enter Tryz.func143, Tryz.ntmps143
 go_wp2
 go_loop [6] (fun i => ∃ k : Nat, k ≤ s.size ∧ i = .int .i64 k ∧ Hid ((s.data.toList.take k).all letB = true)) (fun i => s.size - (intOf i).toNat)
 case atStart => exact ⟨0, Nat.zero_le _, rfl, rfl⟩
 case round =>
  obtain ⟨k, hk, rfl, ha⟩ := hrel
  by_cases hlt : k < s.size
  ·obtain ⟨b, hbs, hidx⟩ := str_index 9 Tryz.underlying9 s (k : Int) k rfl hlt
   have hlt' : k < s.data.toList.length := by rw [size_list]; exact hlt
   have hst := code_step hlt'
   obtain ⟨x, hx⟩ : ∃ x, x = decide (65 ≤ b) := ⟨_, rfl⟩
   obtain ⟨y, hy⟩ : ∃ y, y = decide (b ≤ 90) := ⟨_, rfl⟩
   have hl : letB (s.data.toList.getD k 0) = (x && y) := by unfold letB; rw [← hbs, hx, hy]
   have e1 : decide ((b : Int) < 65) = !x := by rw [hx, ← decide_not]; exact decide_eq_decide.2 (by omega)
   have e2 : decide ((90 : Int) < (b : Int)) = !y := by rw [hy, ← decide_not]; exact decide_eq_decide.2 (by omega)
   have HL := Lib.hid hl
   have HST := Lib.hid hst
   have HLT := Lib.hid hlt'
   clear hl hst hbs hx hy hlt'
   cases x <;> cases y <;> simp only [Bool.not_true, Bool.not_false] at e1 e2
   all_goals go_wp2
   case roundEnd =>
    go_round
    case rel => exact ⟨k + 1, by omega, by go_num, by show _ = _; rw [HST.out, HL.out, ha.out]; rfl⟩
    case measure => simp [intOf]; omega
   all_goals
    go_ret
    rw [code_false HLT.out HL.out]
    exact ⟨rfl, rfl⟩
  ·have hk' : k = s.size := by omega
   subst hk'
   obtain ⟨x, hx⟩ : ∃ x, x = ((s.size : Int) == 3) := ⟨_, rfl⟩
   have e : isCodeB s.data.toList = x := by
    unfold isCodeB
    have := ha.out
    rw [List.take_of_length_le (by rw [size_list]; exact Nat.le_refl _)] at this
    rw [this, Bool.true_and, hx, size_list]
    rw [Bool.eq_iff_iff]; simp; omega
   have E := Lib.hid e
   have hx' := hx.symm
   clear hx e
   cases x
   all_goals
    go_wp2
    go_ret
    rw [E.out]
    exact ⟨rfl, rfl⟩
end Go.Proofs.YtlkhoommpkndpaaGreatDoor
/-
Quotes, in plain Lean: the first error of a list; the latest quote that is not after a day.
-/
namespace Go.Proofs.YtlkhoommpkndpaaGreatDoor
def eur : List UInt8 := [69, 85, 82]
def Quo.rat (q : Quo) : Rat := decR q.neg q.num q.den
def posQ (q : Quo) : Bool := decide (0 < q.rat.num)
def sameQ (q p : Quo) : Bool := p.code == q.code && p.day == q.day
def Quo.ok (q : Quo) : Prop := q.code.length ≤ 9223372036854775807 ∧ q.num.length ≤ 17179869184 ∧ q.den.length ≤ 17179869184 ∧ -9223372036854775808 ≤ q.day ∧ q.day ≤ 9223372036854775807
def qErr (pre : List Quo) (q : Quo) : Int :=
 if !isCodeB q.code || q.code == eur then 8 else if !dayB q.day || !posQ q then 1 else if pre.any (sameQ q) then 12 else 0
def checkFrom : List Quo → List Quo → Int
 | _, [] => 0
 | pre, q :: rest => if qErr pre q = 0 then checkFrom (pre ++ [q]) rest else qErr pre q
def checkQ (qs : List Quo) : Int := if 256 < qs.length then 2 else checkFrom [] qs
theorem check_step {qs : List Quo} {i : Nat} {q : Quo} (h : qs[i]? = some q) :
  checkFrom (qs.take i) (qs.drop i) = if qErr (qs.take i) q = 0 then checkFrom (qs.take (i + 1)) (qs.drop (i + 1)) else qErr (qs.take i) q := by
 rw [drop_at h, take_at h]; rfl
theorem check_end {qs : List Quo} {i : Nat} (h : qs.length ≤ i) : checkFrom (qs.take i) (qs.drop i) = 0 := by
 rw [List.drop_of_length_le h]; rfl
theorem qErr_code {pre : List Quo} {q : Quo} (h : isCodeB q.code = false) : qErr pre q = 8 := by unfold qErr; rw [h]; rfl
theorem qErr_base {pre : List Quo} {q : Quo} (h : (q.code == eur) = true) : qErr pre q = 8 := by unfold qErr; rw [h, Bool.or_true]; rfl
theorem qErr_day {pre : List Quo} {q : Quo} (h : isCodeB q.code = true) (h2 : (q.code == eur) = false) (h3 : dayB q.day = false) : qErr pre q = 1 := by
 unfold qErr; rw [h, h2, h3]; rfl
theorem qErr_sign {pre : List Quo} {q : Quo} (h : isCodeB q.code = true) (h2 : (q.code == eur) = false) (h3 : posQ q = false) : qErr pre q = 1 := by
 unfold qErr; rw [h, h2, h3, Bool.not_false, Bool.or_true]; rfl
theorem qErr_twice {pre : List Quo} {q : Quo} (h : isCodeB q.code = true) (h2 : (q.code == eur) = false) (h3 : dayB q.day = true) (h4 : posQ q = true) (h5 : pre.any (sameQ q) = true) : qErr pre q = 12 := by
 unfold qErr; rw [h, h2, h3, h4, h5]; rfl
theorem qErr_none {pre : List Quo} {q : Quo} (h : isCodeB q.code = true) (h2 : (q.code == eur) = false) (h3 : dayB q.day = true) (h4 : posQ q = true) (h5 : pre.any (sameQ q) = false) : qErr pre q = 0 := by
 unfold qErr; rw [h, h2, h3, h4, h5]; rfl
theorem check_err {qs : List Quo} {i : Nat} {q : Quo} {n : Int} (hl : qs.length ≤ 256) (h : checkFrom [] qs = checkFrom (qs.take i) (qs.drop i)) (hq : qs[i]? = some q) (he : qErr (qs.take i) q = n) (hn : n ≠ 0) : checkQ qs = n := by
 unfold checkQ
 rw [if_neg (by omega), h, check_step hq, he, if_neg hn]
theorem check_ok {qs : List Quo} {i : Nat} (hl : qs.length ≤ 256) (h : checkFrom [] qs = checkFrom (qs.take i) (qs.drop i)) (hi : qs.length ≤ i) : checkQ qs = 0 := by
 unfold checkQ
 rw [if_neg (by omega), h, check_end hi]
theorem check_go {qs : List Quo} {i : Nat} {q : Quo} (h : checkFrom [] qs = checkFrom (qs.take i) (qs.drop i)) (hq : qs[i]? = some q) (he : qErr (qs.take i) q = 0) : checkFrom [] qs = checkFrom (qs.take (i + 1)) (qs.drop (i + 1)) := by
 rw [h, check_step hq, if_pos he]
theorem sgn_le {n : Int} : decide (sgn n ≤ 0) = !decide (0 < n) := by
 rw [← decide_not]
 apply decide_eq_decide.2
 rcases Int.lt_trichotomy n 0 with h | h | h
 ·rw [sgn_neg h]; omega
 ·rw [h, sgn_zero]; omega
 ·rw [sgn_pos h]; omega
end Go.Proofs.YtlkhoommpkndpaaGreatDoor
/-
The document's CheckQuotes.
-/
namespace Go.Proofs.YtlkhoommpkndpaaGreatDoor
open Go.RowKit
theorem ref_CheckQuotes (v : Value) (qs : List Quo) (w : World) (h : Quotes w v qs) (hok : ∀ q ∈ qs, q.ok) :
  Calls Tryz.prog 127 #[v] w fun e w' => e = .returned (.int .i64 (checkQ qs)) ∧ Below w.heap.size w w' := by
 have H := Lib.hid h
 have HOK := Lib.hid hok
 obtain ⟨A, c, rfl, hl, hc⟩ := h.slice
 clear h hok
 by_cases hlen : qs.length ≤ 256
 ·have hd : decide ((256 : Int) < (qs.length : Int)) = false := decide_eq_false (by omega)
  go_enter Tryz.func127, Tryz.ntmps127
  go_wp2
  go_loopw [3] (fun i wr => ∃ i' : Nat, i' ≤ qs.length ∧ i = .int .i64 i' ∧ Hid (checkFrom [] qs = checkFrom (qs.take i') (qs.drop i')) ∧ Below w.heap.size w wr) (fun i _ => qs.length - (intOf i).toNat)
  case atStart => exact ⟨0, Nat.zero_le _, rfl, rfl, Below.refl _ _⟩
  case round =>
   obtain ⟨i, hi, rfl, ha, hb⟩ := hrel
   obtain ⟨wo, hwo⟩ : ∃ wo : World, wo = wr := ⟨_, rfl⟩
   subst hwo
   by_cases hlt : i < qs.length
   ·obtain ⟨b, o, q, rfl, hbb, hq, hx⟩ := H.out.at_ hlt
    have x0 := hx wo hb 0 _ rfl
    rw [Nat.add_zero] at x0
    have x1 := hx wo hb 1 _ rfl
    have x2 := hx wo hb 2 _ rfl
    have x3 := hx wo hb 3 _ rfl
    have x4 := hx wo hb 4 _ rfl
    obtain ⟨o1, o2, o3, _, _⟩ := HOK.out q (List.mem_of_getElem? hq)
    have hC := fun W => ref_IsCode (bs q.code) W (by rw [bs_size]; exact o1)
    have hD := fun W => ref_IsDay q.day W
    have hS := fun W => ref_Sign q.neg q.num q.den W (by omega) (by omega)
    rw [bs_list] at hC
    unfold raw at hS
    obtain ⟨cB, hcB⟩ : ∃ x, x = isCodeB q.code := ⟨_, rfl⟩
    obtain ⟨eB, heB⟩ : ∃ x, x = (q.code == eur) := ⟨_, rfl⟩
    obtain ⟨dB, hdB⟩ : ∃ x, x = dayB q.day := ⟨_, rfl⟩
    obtain ⟨pB, hpB⟩ : ∃ x, x = posQ q := ⟨_, rfl⟩
    rw [← hcB] at hC
    rw [← hdB] at hD
    have fe : ((bs q.code).toList == [69, 85, 82]) = eB := by rw [bs_toList]; exact heB.symm
    obtain ⟨sg, hsg⟩ : ∃ s, s = sgn (decR q.neg q.num q.den).num := ⟨_, rfl⟩
    rw [← hsg] at hS
    have fp : decide (sg ≤ 0) = !pB := by rw [hsg, hpB]; exact sgn_le
    have HC := Lib.hid hC
    have HD := Lib.hid hD
    have HS := Lib.hid hS
    have HQ := Lib.hid hq
    have HX := Lib.hid hx
    have HCB := Lib.hid hcB.symm
    have HEB := Lib.hid heB.symm
    have HDB := Lib.hid hdB.symm
    have HPB := Lib.hid hpB.symm
    clear hC hD hS hq hx hcB heB hdB hpB hsg o1 o2 o3
    cases cB
    ·clear fe fp
     go_wp2_with (go_at_call 82; with_reducible refine (HC.out _).mono ?_; rintro e w' ⟨rfl, rfl⟩)
     go_ret
     rw [check_err hlen ha.out HQ.out (qErr_code HCB.out) (by decide)]
     exact ⟨rfl, hb⟩
    cases eB
    rotate_left
    ·clear fp
     go_wp2_with (go_at_call 82; with_reducible refine (HC.out _).mono ?_; rintro e w' ⟨rfl, rfl⟩)
     go_ret
     rw [check_err hlen ha.out HQ.out (qErr_base HEB.out) (by decide)]
     exact ⟨rfl, hb⟩
    cases dB
    ·clear fp
     go_wp2_with (first
      | (go_at_call 82; with_reducible refine (HC.out _).mono ?_; rintro e w' ⟨rfl, rfl⟩)
      | (go_at_call 42; with_reducible refine (HD.out _).mono ?_; rintro e w' ⟨rfl, rfl⟩))
     go_ret
     rw [check_err hlen ha.out HQ.out (qErr_day HCB.out HEB.out HDB.out) (by decide)]
     exact ⟨rfl, hb⟩
    cases pB
    ·simp only [Bool.not_false] at fp
     go_wp2_with (first
      | (go_at_call 82; with_reducible refine (HC.out _).mono ?_; rintro e w' ⟨rfl, rfl⟩)
      | (go_at_call 42; with_reducible refine (HD.out _).mono ?_; rintro e w' ⟨rfl, rfl⟩)
      | (go_at_call 49; with_reducible refine (HS.out _).mono ?_; rintro e w1 ⟨rfl, hb1⟩))
     go_ret
     rw [check_err hlen ha.out HQ.out (qErr_sign HCB.out HEB.out HPB.out) (by decide)]
     exact ⟨rfl, Ext.trans hb hb1⟩
    ·simp only [Bool.not_true] at fp
     go_wp2_with (first
      | (go_at_call 82; with_reducible refine (HC.out _).mono ?_; rintro e w' ⟨rfl, rfl⟩)
      | (go_at_call 42; with_reducible refine (HD.out _).mono ?_; rintro e w' ⟨rfl, rfl⟩)
      | (go_at_call 49; with_reducible refine (HS.out _).mono ?_; rintro e w1 ⟨rfl, hb1⟩))
     have hb01 := Ext.trans hb hb1
     have HB1 := Lib.hid hb01
     clear hb1 hb hb01 x0 x1 x2 x3 x4 fe fp
     go_loopw [4] (fun k wr => ∃ k' : Nat, k' ≤ i ∧ k = .int .i64 k' ∧ Hid ((qs.take k').any (sameQ q) = false) ∧ Below w.heap.size w wr) (fun k _ => i - (intOf k).toNat)
     case atStart => exact ⟨0, Nat.zero_le _, rfl, rfl, HB1.out⟩
     case round =>
      obtain ⟨k, hk, rfl, hn, hb⟩ := hrel
      by_cases hlt2 : k < i
      ·obtain ⟨b', o', p, e, _, hp, hy⟩ := H.out.at_ (show k < qs.length by omega)
       injection e with e
       injection e with e1 e2
       subst e1
       subst e2
       have x0 := HX.out wr hb 0 _ rfl
       have x1 := HX.out wr hb 1 _ rfl
       have y0 := hy wr hb 0 _ rfl
       have y1 := hy wr hb 1 _ rfl
       rw [Nat.add_zero] at x0 y0
       obtain ⟨sc, hsc⟩ : ∃ s, s = (p.code == q.code) := ⟨_, rfl⟩
       obtain ⟨sd, hsd⟩ : ∃ s, s = (p.day == q.day) := ⟨_, rfl⟩
       have fc : ((bs p.code).toList == (bs q.code).toList) = sc := by rw [bs_toList, bs_toList]; exact hsc.symm
       have fd : (p.day == q.day) = sd := hsd.symm
       have hsame : sameQ q p = (sc && sd) := by unfold sameQ; rw [hsc, hsd]
       have hta := take_any (f := sameQ q) hp
       have HTA := Lib.hid hta
       have HSM := Lib.hid hsame
       have HP := Lib.hid hp
       clear hsc hsd hy hp hta hsame
       cases sc
       ·clear fd
        go_wp2
        go_quiet (fail)
        go_wp2
        go_roundw
        case rel => exact ⟨k + 1, by omega, by go_num, by show _ = _; rw [HTA.out, hn.out, HSM.out]; rfl, below_drewN hb _⟩
        case measure => simp [intOf]; omega
       ·cases sd
        ·go_wp2
         go_quiet (fail)
         go_wp2
         go_roundw
         case rel => exact ⟨k + 1, by omega, by go_num, by show _ = _; rw [HTA.out, hn.out, HSM.out]; rfl, below_drewN hb _⟩
         case measure => simp [intOf]; omega
        ·go_wp2
         go_quiet (fail)
         go_wp2
         go_ret
         rw [check_err hlen ha.out HQ.out (qErr_twice HCB.out HEB.out HDB.out HPB.out (any_at HP.out hlt2 HSM.out)) (by decide)]
         exact ⟨rfl, below_drewN hb _⟩
      ·have hk' : k = i := by omega
       subst hk'
       go_wp2
       go_roundw
       case rel => exact ⟨k + 1, by omega, by go_num, check_go ha.out HQ.out (qErr_none HCB.out HEB.out HDB.out HPB.out hn.out), hb⟩
       case measure => simp [intOf]; omega
   ·go_wp2
    go_ret
    rw [check_ok hlen ha.out (by omega)]
    exact ⟨rfl, hb⟩
 ·have hd : decide ((256 : Int) < (qs.length : Int)) = true := decide_eq_true (by omega)
  have hf : checkQ qs = 2 := by unfold checkQ; rw [if_pos (by omega)]
  rw [hf]
  clear hf
  go_enter Tryz.func127, Tryz.ntmps127
  go_wp2
  go_ret
  exact ⟨rfl, Below.refl _ _⟩
end Go.Proofs.YtlkhoommpkndpaaGreatDoor
