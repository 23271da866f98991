/-
Part 17 of the base.
-/
import Derived.Test.YtoighiepglclkaaGreatDoorKf16
import Derived.DeepKeys4
import Derived.Maps.OwnSet
import Derived.Maps.OwnOps
import Derived.Maps.Views
set_option maxRecDepth 100000
set_option maxHeartbeats 2000000
namespace Go.Proofs.YtoighiepglclkaaGreatDoor
open Go.RowKit
structure Quo where
 code : List UInt8
 day : Int
 neg : Bool
 num : List UInt8
 den : List UInt8
def Quo.enc (q : Quo) : List Value := [.string (bs q.code), .int .i64 q.day, .bool q.neg, .string (bs q.num), .string (bs q.den)]
abbrev a3f (w : World) (v : Value) (qs : List Quo) : Prop := Slc Quo.enc 5 w v qs
def letB (x : UInt8) : Bool := decide (65 <= x.toNat) && decide (x.toNat <= 90)
def a1u (l : List UInt8) : Bool := l.all letB && decide (l.length = 3)
theorem day_any (f : FuncId) (d : Int) (w : World) (h : f = 114 \/ f = 23) :
  Calls Tryz.prog f #[.int .i64 d] w fun e w' => e = .returned (.bool (dayB d)) /\ w = w' := by
 unfold dayB
 have d1 : ∃ x, x = decide (0 <= d) := ⟨_, rfl⟩
 obtain ⟨x, hx⟩ := d1
 obtain ⟨y, hy⟩ : ∃ y, y = decide (d <= 1048576) := ⟨_, rfl⟩
 rw [<- hx, <- hy]
 have hx' := hx.symm
 have hy' := hy.symm
 clear hx hy
 rcases h with rfl | rfl
 ·cases x <;> cases y
  all_goals
   go_enter Tryz.func114, Tryz.ntmps114
   go_wp2
   go_ret
   exact ⟨rfl, rfl⟩
 cases x <;> cases y
 all_goals
  go_enter Tryz.func23, Tryz.ntmps23
  go_wp2
  go_ret
  exact ⟨rfl, rfl⟩
theorem b0x (d : Int) (w : World) : Calls Tryz.prog 114 #[.int .i64 d] w fun e w' => e = .returned (.bool (dayB d)) /\ w = w' := day_any _ d w (.inl rfl)
theorem b2f {l : List UInt8} {i : Nat} (hi : i < l.length) : (l.take (i + 1)).all letB = ((l.take i).all letB && letB (l.getD i 0)) := by
 have : l[i]? = some (l.getD i 0) := by rw [List.getD_eq_getElem?_getD, List.getElem?_eq_getElem hi]; rfl
 exact c5k this
theorem b0k {l : List UInt8} {i : Nat} (hi : i < l.length) (h : letB (l.getD i 0) = false) : a1u l = false := by
 unfold a1u
 rw [Bool.and_eq_false_iff]; left
 rw [List.all_eq_false]
 refine ⟨l.getD i 0, ?_, by rw [h]; decide⟩
 rw [List.getD_eq_getElem?_getD, List.getElem?_eq_getElem hi]
 exact List.getElem_mem hi
theorem c7j (s : ByteArray) (w : World) (hs : s.size <= 9223372036854775807) :
  Calls Tryz.prog 82 #[.string s] w fun e w' => e = .returned (.bool (a1u s.data.toList)) /\ w = w' := by
 go_enter Tryz.func82, Tryz.ntmps82
 go_wp2
 go_loop [3] (fun i => ∃ k : Nat, k <= s.size /\ i = .int .i64 k /\ Hid ((s.data.toList.take k).all letB = true)) (fun i => s.size - (intOf i).toNat)
 case atStart => exact ⟨0, Nat.zero_le _, rfl, rfl⟩
 case round =>
  obtain ⟨k, hk, rfl, ha⟩ := hrel
  by_cases hlt : k < s.size
  ·obtain ⟨b, hbs, hidx⟩ := a3v 9 Tryz.underlying9 s (k : Int) k rfl hlt
   have hlt' : k < s.data.toList.length := by rw [a1a]; exact hlt
   have hst := b2f hlt'
   obtain ⟨x, hx⟩ : ∃ x, x = decide (65 <= b) := ⟨_, rfl⟩
   obtain ⟨y, hy⟩ : ∃ y, y = decide (b <= 90) := ⟨_, rfl⟩
   have hl : letB (s.data.toList.getD k 0) = (x && y) := by unfold letB; rw [<- hbs, hx, hy]
   have e1 : decide ((b : Int) < 65) = !x := by rw [hx, <- decide_not]; exact decide_eq_decide.2 (by omega)
   have e2 : decide ((90 : Int) < (b : Int)) = !y := by rw [hy, <- decide_not]; exact decide_eq_decide.2 (by omega)
   have HL := zh hl
   have HST := zh hst
   have HLT := zh hlt'
   clear hl hst hbs hx hy hlt'
   cases x <;> cases y <;> simp only [Bool.not_true, Bool.not_false] at e1 e2
   all_goals go_wp2
   case roundEnd =>
    go_round
    case rel => exact ⟨k + 1, by omega, by go_num, by show _ = _; rw [HST.out, HL.out, ha.out]; rfl⟩
    case measure => simp [intOf]; omega
   all_goals
    go_ret
    rw [b0k HLT.out HL.out]
    exact ⟨rfl, rfl⟩
  have hk' : k = s.size := by omega
  subst hk'
  obtain ⟨x, hx⟩ : ∃ x, x = ((s.size : Int) == 3) := ⟨_, rfl⟩
  have e : a1u s.data.toList = x := by
   unfold a1u
   have := ha.out
   rw [List.take_of_length_le (by rw [a1a]; exact Nat.le_refl _)] at this
   rw [this, Bool.true_and, hx, a1a]
   rw [Bool.eq_iff_iff]; simp; omega
  have E := zh e
  have hx' := hx.symm
  clear hx e
  cases x
  all_goals
   go_wp2
   go_ret
   rw [E.out]
   exact ⟨rfl, rfl⟩
theorem b6v (s : ByteArray) (w : World) (hs : s.size <= 9223372036854775807) :
  Calls Tryz.prog 139 #[.string s] w fun e w' => e = .returned (.bool (a1u s.data.toList)) /\ w = w' := by
 go_enter Tryz.func139, Tryz.ntmps139
 go_wp2
 go_loop [6] (fun i => ∃ k : Nat, k <= s.size /\ i = .int .i64 k /\ Hid ((s.data.toList.take k).all letB = true)) (fun i => s.size - (intOf i).toNat)
 case atStart => exact ⟨0, Nat.zero_le _, rfl, rfl⟩
 case round =>
  obtain ⟨k, hk, rfl, ha⟩ := hrel
  by_cases hlt : k < s.size
  ·obtain ⟨b, hbs, hidx⟩ := a3v 9 Tryz.underlying9 s (k : Int) k rfl hlt
   have hlt' : k < s.data.toList.length := by rw [a1a]; exact hlt
   have hst := b2f hlt'
   obtain ⟨x, hx⟩ : ∃ x, x = decide (65 <= b) := ⟨_, rfl⟩
   obtain ⟨y, hy⟩ : ∃ y, y = decide (b <= 90) := ⟨_, rfl⟩
   have hl : letB (s.data.toList.getD k 0) = (x && y) := by unfold letB; rw [<- hbs, hx, hy]
   have e1 : decide ((b : Int) < 65) = !x := by rw [hx, <- decide_not]; exact decide_eq_decide.2 (by omega)
   have e2 : decide ((90 : Int) < (b : Int)) = !y := by rw [hy, <- decide_not]; exact decide_eq_decide.2 (by omega)
   have HL := zh hl
   have HST := zh hst
   have HLT := zh hlt'
   clear hl hst hbs hx hy hlt'
   cases x <;> cases y <;> simp only [Bool.not_true, Bool.not_false] at e1 e2
   all_goals go_wp2
   case roundEnd =>
    go_round
    case rel => exact ⟨k + 1, by omega, by go_num, by show _ = _; rw [HST.out, HL.out, ha.out]; rfl⟩
    case measure => simp [intOf]; omega
   all_goals
    go_ret
    rw [b0k HLT.out HL.out]
    exact ⟨rfl, rfl⟩
  have hk' : k = s.size := by omega
  subst hk'
  obtain ⟨x, hx⟩ : ∃ x, x = ((s.size : Int) == 3) := ⟨_, rfl⟩
  have e : a1u s.data.toList = x := by
   unfold a1u
   have := ha.out
   rw [List.take_of_length_le (by rw [a1a]; exact Nat.le_refl _)] at this
   rw [this, Bool.true_and, hx, a1a]
   rw [Bool.eq_iff_iff]; simp; omega
  have E := zh e
  have hx' := hx.symm
  clear hx e
  cases x
  all_goals
   go_wp2
   go_ret
   rw [E.out]
   exact ⟨rfl, rfl⟩
def eur : List UInt8 := [69, 85, 82]
def Quo.rat (q : Quo) : Rat := decR q.neg q.num q.den
def posQ (q : Quo) : Bool := decide (0 < q.rat.num)
def a7b (q p : Quo) : Bool := p.code == q.code && p.day == q.day
def Quo.ok (q : Quo) : Prop := q.code.length <= 9223372036854775807 /\ q.num.length <= 17179869184 /\ q.den.length <= 17179869184 /\ -9223372036854775808 <= q.day /\ q.day <= 9223372036854775807
def qErr (pre : List Quo) (q : Quo) : Int :=
 if !a1u q.code || q.code == eur then 8 else if !dayB q.day || !posQ q then 1 else if pre.any (a7b q) then 12 else 0
def a1j : List Quo -> List Quo -> Int
 | _, [] => 0
 | pre, q :: rest => if qErr pre q = 0 then a1j (pre ++ [q]) rest else qErr pre q
def a3t (qs : List Quo) : Int := if 256 < qs.length then 2 else a1j [] qs
theorem b9j {qs : List Quo} {i : Nat} {q : Quo} (h : qs[i]? = some q) :
  a1j (qs.take i) (qs.drop i) = if qErr (qs.take i) q = 0 then a1j (qs.take (i + 1)) (qs.drop (i + 1)) else qErr (qs.take i) q := by
 rw [b3f h, b2p h]; rfl
theorem d1d {qs : List Quo} {i : Nat} (h : qs.length <= i) : a1j (qs.take i) (qs.drop i) = 0 := by
 rw [List.drop_of_length_le h]; rfl
theorem c2b {pre : List Quo} {q : Quo} (h : a1u q.code = false) : qErr pre q = 8 := by unfold qErr; rw [h]; rfl
theorem c2c {pre : List Quo} {q : Quo} (h : (q.code == eur) = true) : qErr pre q = 8 := by unfold qErr; rw [h, Bool.or_true]; rfl
theorem c6a {pre : List Quo} {q : Quo} (h : a1u q.code = true) (h2 : (q.code == eur) = false) (h3 : dayB q.day = false) : qErr pre q = 1 := by
 unfold qErr; rw [h, h2, h3]; rfl
theorem c2a {pre : List Quo} {q : Quo} (h : a1u q.code = true) (h2 : (q.code == eur) = false) (h3 : posQ q = false) : qErr pre q = 1 := by
 unfold qErr; rw [h, h2, h3, Bool.not_false, Bool.or_true]; rfl
theorem b8u {pre : List Quo} {q : Quo} (h : a1u q.code = true) (h2 : (q.code == eur) = false) (h3 : dayB q.day = true) (h4 : posQ q = true) (h5 : pre.any (a7b q) = true) : qErr pre q = 12 := by
 unfold qErr; rw [h, h2, h3, h4, h5]; rfl
theorem b6b {pre : List Quo} {q : Quo} (h : a1u q.code = true) (h2 : (q.code == eur) = false) (h3 : dayB q.day = true) (h4 : posQ q = true) (h5 : pre.any (a7b q) = false) : qErr pre q = 0 := by
 unfold qErr; rw [h, h2, h3, h4, h5]; rfl
theorem a4p {qs : List Quo} {i : Nat} {q : Quo} {n : Int} (hl : qs.length <= 256) (h : a1j [] qs = a1j (qs.take i) (qs.drop i)) (hq : qs[i]? = some q) (he : qErr (qs.take i) q = n) (hn : n ≠ 0) : a3t qs = n := by
 unfold a3t
 rw [if_neg (by omega), h, b9j hq, he, if_neg hn]
theorem c6u {qs : List Quo} {i : Nat} (hl : qs.length <= 256) (h : a1j [] qs = a1j (qs.take i) (qs.drop i)) (hi : qs.length <= i) : a3t qs = 0 := by
 unfold a3t
 rw [if_neg (by omega), h, d1d hi]
theorem c6v {qs : List Quo} {i : Nat} {q : Quo} (h : a1j [] qs = a1j (qs.take i) (qs.drop i)) (hq : qs[i]? = some q) (he : qErr (qs.take i) q = 0) : a1j [] qs = a1j (qs.take (i + 1)) (qs.drop (i + 1)) := by
 rw [h, b9j hq, if_pos he]
theorem sgn_le {n : Int} : decide (sgn n <= 0) = !decide (0 < n) := by
 rw [<- decide_not]
 apply decide_eq_decide.2
 rcases Int.lt_trichotomy n 0 with h | h | h
 ·rw [a2p h]; omega
 ·rw [h, a9z]; omega
 rw [a3b h]; omega
theorem b5u (v : Value) (qs : List Quo) (w : World) (h : a3f w v qs) (hok : ∀ q ∈ qs, q.ok) :
   Calls Tryz.prog 125 #[v] w fun e w' => e = .returned (.int .i64 (a3t qs)) /\ Below w.heap.size w w' := by
 have H := zh h
 have HOK := zh hok
 obtain ⟨A, c, rfl, hl, hc⟩ := h.slice
 clear h hok
 by_cases hlen : qs.length <= 256
 have hd : decide ((256 : Int) < (qs.length : Int)) = false := decide_eq_false (by omega)
 rotate_left
 have hd : decide ((256 : Int) < (qs.length : Int)) = true := decide_eq_true (by omega)
 have hf : a3t qs = 2 := by unfold a3t; rw [if_pos (by omega)]
 rw [hf]
 clear hf
 rotate_left
 all_goals
   go_enter Tryz.func125, Tryz.ntmps125
   go_wp2
 ·go_loopw [3] (fun i wr => ∃ i' : Nat, i' <= qs.length /\ i = .int .i64 i' /\ Hid (a1j [] qs = a1j (qs.take i') (qs.drop i')) /\ Below w.heap.size w wr) (fun i _ => qs.length - (intOf i).toNat)
  case atStart => exact ⟨0, Nat.zero_le _, rfl, rfl, Below.refl _ _⟩
  case round =>
    obtain ⟨i, hi, rfl, ha, hb⟩ := hrel
    obtain ⟨wo, hwo⟩ : ∃ wo : World, wo = wr := ⟨_, rfl⟩
    subst hwo
    by_cases hlt : i < qs.length
    ·obtain ⟨b, o, q, rfl, hbb, hq, hx⟩ := H.out.at_ hlt
     have x0 := hx wo hb 0 _ rfl
     rw [Nat.add_zero] at x0
     have x1 := hx wo hb 1 _ rfl
     have x2 := hx wo hb 2 _ rfl
     have x3 := hx wo hb 3 _ rfl
     have x4 := hx wo hb 4 _ rfl
     obtain ⟨o1, o2, o3, _, _⟩ := HOK.out q (List.mem_of_getElem? hq)
     have hC := fun W => c7j (bs q.code) W (by rw [a2b]; exact o1)
     have hD := fun W => a3p q.day W
     have hS := fun W => b0a q.neg q.num q.den W (by omega) (by omega)
     rw [a2n] at hC
     unfold raw at hS
     obtain ⟨cB, hcB⟩ : ∃ x, x = a1u q.code := ⟨_, rfl⟩
     obtain ⟨eB, heB⟩ : ∃ x, x = (q.code == eur) := ⟨_, rfl⟩
     obtain ⟨dB, hdB⟩ : ∃ x, x = dayB q.day := ⟨_, rfl⟩
     obtain ⟨pB, hpB⟩ : ∃ x, x = posQ q := ⟨_, rfl⟩
     rw [<- hcB] at hC
     rw [<- hdB] at hD
     have fe : ((bs q.code).toList == [69, 85, 82]) = eB := by rw [a1q]; exact heB.symm
     obtain ⟨sg, hsg⟩ : ∃ s, s = sgn (decR q.neg q.num q.den).num := ⟨_, rfl⟩
     rw [<- hsg] at hS
     have fp : decide (sg <= 0) = !pB := by rw [hsg, hpB]; exact sgn_le
     have HC := zh hC
     have HD := zh hD
     have HS := zh hS
     have HQ := zh hq
     have HX := zh hx
     have HCB := zh hcB.symm
     have HEB := zh heB.symm
     have HDB := zh hdB.symm
     have HPB := zh hpB.symm
     clear hC hD hS hq hx hcB heB hdB hpB hsg o1 o2 o3
     cases cB
     ·clear fe fp
      go_wp2_with (go_at_call 82; with_reducible refine (HC.out _).mono ?_; rintro e w' ⟨rfl, rfl⟩)
      go_ret
      rw [a4p hlen ha.out HQ.out (c2b HCB.out) (by decide)]
      exact ⟨rfl, hb⟩
     cases eB
     rotate_left
     ·clear fp
      go_wp2_with (go_at_call 82; with_reducible refine (HC.out _).mono ?_; rintro e w' ⟨rfl, rfl⟩)
      go_ret
      rw [a4p hlen ha.out HQ.out (c2c HEB.out) (by decide)]
      exact ⟨rfl, hb⟩
     cases dB
     ·clear fp
      go_wp2_with (first
       | (go_at_call 82; with_reducible refine (HC.out _).mono ?_; rintro e w' ⟨rfl, rfl⟩)
       | (go_at_call 23; with_reducible refine (HD.out _).mono ?_; rintro e w' ⟨rfl, rfl⟩))
      go_ret
      rw [a4p hlen ha.out HQ.out (c6a HCB.out HEB.out HDB.out) (by decide)]
      exact ⟨rfl, hb⟩
     cases pB
     ·simp only [Bool.not_false] at fp
      go_wp2_with (first
       | (go_at_call 82; with_reducible refine (HC.out _).mono ?_; rintro e w' ⟨rfl, rfl⟩)
       | (go_at_call 23; with_reducible refine (HD.out _).mono ?_; rintro e w' ⟨rfl, rfl⟩)
       | (go_at_call 55; with_reducible refine (HS.out _).mono ?_; rintro e w1 ⟨rfl, hb1⟩))
      go_ret
      rw [a4p hlen ha.out HQ.out (c2a HCB.out HEB.out HPB.out) (by decide)]
      exact ⟨rfl, Ext.trans hb hb1⟩
     simp only [Bool.not_true] at fp
     go_wp2_with (first
      | (go_at_call 82; with_reducible refine (HC.out _).mono ?_; rintro e w' ⟨rfl, rfl⟩)
      | (go_at_call 23; with_reducible refine (HD.out _).mono ?_; rintro e w' ⟨rfl, rfl⟩)
      | (go_at_call 55; with_reducible refine (HS.out _).mono ?_; rintro e w1 ⟨rfl, hb1⟩))
     have hb01 := Ext.trans hb hb1
     have HB1 := zh hb01
     clear hb1 hb hb01 x0 x1 x2 x3 x4 fe fp
     go_loopw [4] (fun k wr => ∃ k' : Nat, k' <= i /\ k = .int .i64 k' /\ Hid ((qs.take k').any (a7b q) = false) /\ Below w.heap.size w wr) (fun k _ => i - (intOf k).toNat)
     case atStart => exact ⟨0, Nat.zero_le _, rfl, rfl, HB1.out⟩
     case round =>
      obtain ⟨k, hk, rfl, hn, hb⟩ := hrel
      by_cases hlt2 : k < i
      ·obtain ⟨b', o', p, e, _, hp, hy⟩ := H.out.at_ (show k < qs.length by omega)
       injection e with e
       injection e with e1 e2
       subst e1
       subst e2
       have x0 := HX.out wr hb 0 _ rfl
       have x1 := HX.out wr hb 1 _ rfl
       have y0 := hy wr hb 0 _ rfl
       have y1 := hy wr hb 1 _ rfl
       rw [Nat.add_zero] at x0 y0
       obtain ⟨sc, hsc⟩ : ∃ s, s = (p.code == q.code) := ⟨_, rfl⟩
       obtain ⟨sd, hsd⟩ : ∃ s, s = (p.day == q.day) := ⟨_, rfl⟩
       have fc : ((bs p.code).toList == (bs q.code).toList) = sc := by rw [a1q, a1q]; exact hsc.symm
       have fd : (p.day == q.day) = sd := hsd.symm
       have hsame : a7b q p = (sc && sd) := by unfold a7b; rw [hsc, hsd]
       have hta := c5j (f := a7b q) hp
       have HTA := zh hta
       have HSM := zh hsame
       have HP := zh hp
       clear hsc hsd hy hp hta hsame
       cases sc
       ·clear fd
        go_wp2
        go_quiet (fail)
        go_wp2
        go_roundw
        case rel => exact ⟨k + 1, by omega, by go_num, by show _ = _; rw [HTA.out, hn.out, HSM.out]; rfl, a0h hb _⟩
        case measure => simp [intOf]; omega
       cases sd
       ·go_wp2
        go_quiet (fail)
        go_wp2
        go_roundw
        case rel => exact ⟨k + 1, by omega, by go_num, by show _ = _; rw [HTA.out, hn.out, HSM.out]; rfl, a0h hb _⟩
        case measure => simp [intOf]; omega
       go_wp2
       go_quiet (fail)
       go_wp2
       go_ret
       rw [a4p hlen ha.out HQ.out (b8u HCB.out HEB.out HDB.out HPB.out (any_at HP.out hlt2 HSM.out)) (by decide)]
       exact ⟨rfl, a0h hb _⟩
      have hk' : k = i := by omega
      subst hk'
      go_wp2
      go_roundw
      case rel => exact ⟨k + 1, by omega, by go_num, c6v ha.out HQ.out (b6b HCB.out HEB.out HDB.out HPB.out hn.out), hb⟩
      case measure => simp [intOf]; omega
    go_wp2
    go_ret
    rw [c6u hlen ha.out (by omega)]
    exact ⟨rfl, hb⟩
 go_ret
 exact ⟨rfl, Below.refl _ _⟩
theorem d0p : (170 : TypeId) < Tryz.prog.types.size := of_decide_eq_true (by kernel_rfl)
theorem key_wide : (match Tryz.prog.underlying 170 with | some (.array _ _) | some (.struct _) => true | _ => false) = true := by kernel_rfl
theorem key_law : Maps.Keyed Tryz.prog 170 := Maps.Keyed.of_law (deep_law_laid c4r (m := 3) (by omega) d0p (by kernel_rfl) key_wide)
def klit (code : List UInt8) (day : Int) : Lit := .string (keyBytes [.string code, .int .i64 day])
theorem c3z (code : List UInt8) (day : Int) (hc : code.length <= 9223372036854775807) (hd : -9223372036854775808 <= day) (hd2 : day <= 9223372036854775807) :
  keyOf Tryz.prog 170 (.agg #[.string (bs code), .int .i64 day]) = some (klit code day) := by
 have hu := Tryz.underlying170
 obtain ⟨n, hs⟩ : ∃ n, Tryz.prog.types.size = n + 1 := ⟨Tryz.prog.types.size - 1, (Nat.sub_add_cancel (Nat.lt_of_le_of_lt (Nat.zero_le _) d0p)).symm⟩
 have hkt : Tryz.prog.keyType 170 = true := by kernel_rfl
 have c2 : Tryz.prog.cellsOf 170 = 2 := by kernel_rfl
 have c9 : Tryz.prog.cellsOf 9 = 1 := by kernel_rfl
 have c3 : Tryz.prog.cellsOf 3 = 1 := by kernel_rfl
 have u9 := Tryz.underlying9
 have u3 := Tryz.underlying3
 have hsz : (bs code).size <= maxLen := by rw [a2b]; unfold maxLen; omega
 have hw : (Lit.int .i64 day).wf = true := by
  simp [Lit.wf]
  exact ⟨hd, hd2⟩
 unfold keyOf
 rw [hu]
 have hf : (Value.agg #[Value.string (bs code), Value.int .i64 day]).formed Tryz.prog 170 = true := by
  simp [Value.formed, hu, c2]
 rw [hkt, hf, hs]
 have hl : Tryz.prog.keyLits (n + 1 + 1) 170 [.string (bs code), .int .i64 day] = some [.string code, .int .i64 day] := by
  simp [Program.keyLits, hu, c2, c9, c3, u9, u3, hsz, hw, a2n]
 simp [Value.cells, hl, klit]
def seen (qs : List Quo) : DataW Unit := Maps.setOf (.lit (.bool true)) (qs.map fun q => klit q.code q.day)
theorem b5g (qs : List Quo) (q : Quo) : seen (qs ++ [q]) = (seen qs).put (klit q.code q.day) (.lit (.bool true)) := by
 unfold seen
 rw [List.map_append, List.map_singleton, Maps.setOf_snoc]
theorem klit_key (code : List UInt8) (day : Int) : WideAt.IsKeyLit (klit code day) := trivial
theorem seen_map (qs : List Quo) : Maps.IsMap (seen qs) := by
 induction qs using b5m with
 | h0 => exact Maps.isMap_empty
 | h1 l p ih => rw [b5g]; exact ih.put _ _
theorem klit_inj {p q : Quo} (hp : p.ok) (hq : q.ok) (h : klit p.code p.day = klit q.code q.day) : p.code = q.code /\ p.day = q.day := by
 have h1 := c3z p.code p.day hp.1 hp.2.2.2.1 hp.2.2.2.2
 have h2 := c3z q.code q.day hq.1 hq.2.2.2.1 hq.2.2.2.2
 rw [<- h] at h2
 have h3 := key_law.inj h1 h2
 injection h3 with h3
 simp only [Array.mk.injEq, List.cons.injEq, Value.string.injEq, Value.int.injEq, and_true, true_and] at h3
 exact ⟨d1g h3.1, h3.2⟩
theorem seen_at {q : Quo} (hq : q.ok) (qs : List Quo) (h : ∀ p ∈ qs, p.ok) : (seen qs).atKey (klit q.code q.day) (.lit (.bool false)) = .lit (.bool (qs.any (a7b q))) := by
 induction qs using b5m with
 | h0 => rfl
 | h1 l p ih =>
  have ih := ih (fun x hx => h x (List.mem_append.2 (.inl hx)))
  have hp := h p (List.mem_append.2 (.inr (by simp)))
  rw [b5g, List.any_append]
  by_cases hs : a7b q p = true
  ·have e : p.code = q.code /\ p.day = q.day := by unfold a7b at hs; simpa using hs
   rw [e.1, e.2, Maps.atKey_put_same (seen_map l) (klit_key _ _)]
   simp [hs]
  have hf : a7b q p = false := by simpa using hs
  rw [Maps.atKey_put_other, ih]
  ·simp [hf]
  intro e
  obtain ⟨e1, e2⟩ := klit_inj hq hp e
  apply hs
  unfold a7b
  simp [e1, e2]
theorem b8d (v : Value) (qs : List Quo) (w : World) (h : a3f w v qs) (hok : ∀ q ∈ qs, q.ok) :
   Calls Tryz.prog 113 #[v] w fun e w' => e = .returned (.int .i64 (a3t qs)) /\ Below w.heap.size w w' := by
 have H := zh h
 have HOK := zh hok
 obtain ⟨A, c, rfl, hl, hc⟩ := h.slice
 clear h hok
 have hmm := @run_makeMap Tryz.prog
 have zB : ∀ w, (zeroValue 4).run Tryz.prog w = .ok (.bool false) w := fun _ => by kernel_rfl
 have ZB := zh zB
 clear zB
 by_cases hlen : qs.length <= 256
 have hd : decide ((256 : Int) < (qs.length : Int)) = false := decide_eq_false (by omega)
 rotate_left
 have hd : decide ((256 : Int) < (qs.length : Int)) = true := decide_eq_true (by omega)
 have hf : a3t qs = 2 := by unfold a3t; rw [if_pos (by omega)]
 rw [hf]
 clear hf
 rotate_left
 all_goals
   go_enter Tryz.func113, Tryz.ntmps113
   go_wp2
 ·go_loopw [13] (fun i wr => ∃ (i' : Nat) (D : DataW Unit), i' <= qs.length /\ i = .int .i64 i' /\ Hid (a1j [] qs = a1j (qs.take i') (qs.drop i')) /\
     Hid (wr.ownsMap Tryz.prog 170 (plainElem Tryz.prog 4) w.heap.size i' D) /\ Hid (D = seen (qs.take i')) /\ Below w.heap.size w wr) (fun i _ => qs.length - (intOf i).toNat)
  case atStart => exact ⟨0, _, Nat.zero_le _, rfl, rfl, World.ownsMap_made _ _ _ _, rfl, Ext.alloc (Below.refl _ _) _⟩
  case round =>
    obtain ⟨i, D, hi, rfl, ha, hown, hD, hb⟩ := hrel
    by_cases hlt : i < qs.length
    ·obtain ⟨b, o, q, rfl, hbb, hq, hx⟩ := H.out.at_ hlt
     have x0 := hx wr hb 0 _ rfl
     rw [Nat.add_zero] at x0
     have x1 := hx wr hb 1 _ rfl
     have x2 := hx wr hb 2 _ rfl
     have x3 := hx wr hb 3 _ rfl
     have x4 := hx wr hb 4 _ rfl
     have hqok := HOK.out q (List.mem_of_getElem? hq)
     have hqok' := hqok
     obtain ⟨o1, o2, o3, o4, o5⟩ := hqok'
     have hkey := c3z q.code q.day o1 o4 o5
     have hat : D.atKey (klit q.code q.day) (.lit (.bool false)) = .lit (.bool ((qs.take i).any (a7b q))) := by
      rw [hD.out]
      exact seen_at hqok _ (fun p hp => HOK.out p (List.mem_of_mem_take hp))
     have hput : seen (qs.take (i + 1)) = D.put (klit q.code q.day) (.lit (.bool true)) := by rw [b2p hq, b5g, hD.out]
     have hC := fun W => b6v (bs q.code) W (by rw [a2b]; exact o1)
     have hDy := fun W => b0x q.day W
     have hS := fun W => a4d q.neg q.num q.den W (by omega) (by omega)
     rw [a2n] at hC
     unfold raw at hS
     obtain ⟨cB, hcB⟩ : ∃ x, x = a1u q.code := ⟨_, rfl⟩
     obtain ⟨eB, heB⟩ : ∃ x, x = (q.code == eur) := ⟨_, rfl⟩
     obtain ⟨dB, hdB⟩ : ∃ x, x = dayB q.day := ⟨_, rfl⟩
     obtain ⟨pB, hpB⟩ : ∃ x, x = posQ q := ⟨_, rfl⟩
     obtain ⟨tB, htB⟩ : ∃ x, x = (qs.take i).any (a7b q) := ⟨_, rfl⟩
     rw [<- hcB] at hC
     rw [<- hdB] at hDy
     rw [<- htB] at hat
     have fe : ((bs q.code).toList == [69, 85, 82]) = eB := by rw [a1q]; exact heB.symm
     obtain ⟨sg, hsg⟩ : ∃ s, s = sgn (decR q.neg q.num q.den).num := ⟨_, rfl⟩
     rw [<- hsg] at hS
     have fp : decide (sg <= 0) = !pB := by rw [hsg, hpB]; exact sgn_le
     have hkq : Hid (Blk ((wr.alloc (Obj.cells #[.string (bs q.code), .int .i64 q.day, .bool q.neg, .string (bs q.num), .string (bs q.den)] 52)).alloc (Obj.cells #[.string (bs q.code), .int .i64 q.day] 170)) (wr.heap.size + 1) #[.string (bs q.code), .int .i64 q.day] 170) := Blk.new1 wr _ _ _
     have hbw : Hid (Below wr.heap.size wr ((wr.alloc (Obj.cells #[.string (bs q.code), .int .i64 q.day, .bool q.neg, .string (bs q.num), .string (bs q.den)] 52)).alloc (Obj.cells #[.string (bs q.code), .int .i64 q.day] 170))) := Ext.alloc (Ext.alloc (Below.refl _ _) _) _
     have HC := zh hC
     have HDy := zh hDy
     have HS := zh hS
     have HQ := zh hq
     have HKEY := zh hkey
     have HAT := zh hat
     have HPUT := zh hput
     have HCB := zh hcB.symm
     have HEB := zh heB.symm
     have HDB := zh hdB.symm
     have HPB := zh hpB.symm
     have HTB := zh htB.symm
     clear hC hDy hS hq hx hcB heB hdB hpB htB hsg o1 o2 o3 o4 o5 hqok hkey hat hput hD
     cases cB
     ·clear fe fp
      go_wp2_with (go_at_call 139; with_reducible refine (HC.out _).mono ?_; rintro e w' ⟨rfl, rfl⟩)
      go_ret
      rw [a4p hlen ha.out HQ.out (c2b HCB.out) (by decide)]
      exact ⟨rfl, Ext.trans hb hbw.out⟩
     cases eB
     rotate_left
     ·clear fp
      go_wp2_with (go_at_call 139; with_reducible refine (HC.out _).mono ?_; rintro e w' ⟨rfl, rfl⟩)
      go_ret
      rw [a4p hlen ha.out HQ.out (c2c HEB.out) (by decide)]
      exact ⟨rfl, Ext.trans hb hbw.out⟩
     cases dB
     ·clear fp
      go_wp2_with (first
       | (go_at_call 139; with_reducible refine (HC.out _).mono ?_; rintro e w' ⟨rfl, rfl⟩)
       | (go_at_call 114; with_reducible refine (HDy.out _).mono ?_; rintro e w' ⟨rfl, rfl⟩))
      go_ret
      rw [a4p hlen ha.out HQ.out (c6a HCB.out HEB.out HDB.out) (by decide)]
      exact ⟨rfl, Ext.trans hb hbw.out⟩
     cases pB
     ·simp only [Bool.not_false] at fp
      go_wp2_with (first
       | (go_at_call 139; with_reducible refine (HC.out _).mono ?_; rintro e w' ⟨rfl, rfl⟩)
       | (go_at_call 114; with_reducible refine (HDy.out _).mono ?_; rintro e w' ⟨rfl, rfl⟩)
       | (go_at_call 48; with_reducible refine (HS.out _).mono ?_; rintro e w1 ⟨rfl, hb1⟩))
      go_ret
      rw [a4p hlen ha.out HQ.out (c2a HCB.out HEB.out HPB.out) (by decide)]
      exact ⟨rfl, Ext.trans hb (Ext.trans hbw.out hb1)⟩
     simp only [Bool.not_true] at fp
     go_wp2_with (first
      | (go_at_call 139; with_reducible refine (HC.out _).mono ?_; rintro e w' ⟨rfl, rfl⟩)
      | (go_at_call 114; with_reducible refine (HDy.out _).mono ?_; rintro e w' ⟨rfl, rfl⟩)
      | fail)
     with_reducible refine (HS.out _).mono ?_
     rintro e w1 ⟨rfl, hb1⟩
     have k1 := hkq.out.below hb1 (Blk.lt hkq.out)
     have y0 := k1.cell 0 _ rfl
     have y1 := k1.cell 1 _ rfl
     have hb01 := Ext.trans hbw.out hb1
     have hown1 := hown.out.kept (c7t hb01 none) (by simp)
     have HB1 := zh (Ext.trans hb hb01)
     clear hb1 hb01 k1 x0 x1 x2 x3 x4 fe
     cases tB
     ·go_wp2_with (first
       | (at_lookup; refine a5e _ rfl _ _ 168 rfl 170 4 key_law Tryz.underlying168 Tryz.underlying4 (ZB.out _) w.heap.size i D rfl hown1 _ _ rfl HKEY.out false HAT.out ?_)
       | (at_mapUpdate; refine wpList_mapUpdate_own _ rfl _ _ _ 168 rfl 170 4 key_law Tryz.underlying168 _ w.heap.size i D rfl hown1 (by unfold maxLen; omega) _ _ _ rfl rfl HKEY.out _ [] (plainElem_bool Tryz.underlying4 true) ?_; intro w2 hown2 hg2))
      go_roundw
      case rel => exact ⟨i + 1, _, by omega, by go_num, c6v ha.out HQ.out (b6b HCB.out HEB.out HDB.out HPB.out HTB.out), hown2, HPUT.out.symm, HB1.out.grown hg2 HB1.out.size (fun k hk => by injection hk with hk; omega)⟩
      case measure => simp [intOf]; omega
     go_wp2_with (first
      | (at_lookup; refine a5e _ rfl _ _ 168 rfl 170 4 key_law Tryz.underlying168 Tryz.underlying4 (ZB.out _) w.heap.size i D rfl hown1 _ _ rfl HKEY.out true HAT.out ?_))
     go_ret
     rw [a4p hlen ha.out HQ.out (b8u HCB.out HEB.out HDB.out HPB.out HTB.out) (by decide)]
     exact ⟨rfl, HB1.out⟩
    go_wp2
    go_ret
    rw [c6u hlen ha.out (by omega)]
    exact ⟨rfl, hb⟩
 go_ret
 exact ⟨rfl, Below.refl _ _⟩
end Go.Proofs.YtoighiepglclkaaGreatDoor
