/-
Part 17 of the base.
-/
import Derived.Test.YtlkhoommpkndpaaGreatDoorKj16
import Derived.DeepKeys4
import Derived.Maps.OwnSet
import Derived.Maps.OwnOps
import Derived.Maps.Views
set_option maxRecDepth 100000
set_option maxHeartbeats 1000000
namespace Go.Proofs.YtlkhoommpkndpaaGreatDoor
open Go.RowKit
structure Quo where
 code : List UInt8
 day : Int
 neg : Bool
 num : List UInt8
 den : List UInt8
def Quo.enc (q : Quo) : List Value := [.string (bs q.code), .int .i64 q.day, .bool q.neg, .string (bs q.num), .string (bs q.den)]
abbrev a8g (w : World) (v : Value) (qs : List Quo) : Prop := Slc Quo.enc 5 w v qs
def letB (x : UInt8) : Bool := decide (65 <= x.toNat) && decide (x.toNat <= 90)
def a1y (l : List UInt8) : Bool := l.all letB && decide (l.length = 3)
theorem day_any (f : FuncId) (d : Int) (w : World) (h : f = 119 \/ f = 42) :
  Calls Tryz.prog f #[.int .i64 d] w fun e w' => e = .returned (.bool (dayB d)) /\ w = w' := by
 unfold dayB
 have d1 : ∃ x, x = decide (0 <= d) := ⟨_, rfl⟩
 obtain ⟨x, hx⟩ := d1
 obtain ⟨y, hy⟩ : ∃ y, y = decide (d <= 1048576) := ⟨_, rfl⟩
 rw [<- hx, <- hy]
 have hx' := hx.symm
 have hy' := hy.symm
 clear hx hy
 rcases h with rfl | rfl
 ·cases x <;> cases y
  all_goals
   go_enter Tryz.func119, Tryz.ntmps119
   go_wp2
   go_ret
   exact ⟨rfl, rfl⟩
 cases x <;> cases y
 all_goals
  go_enter Tryz.func42, Tryz.ntmps42
  go_wp2
  go_ret
  exact ⟨rfl, rfl⟩
theorem a8f (d : Int) (w : World) : Calls Tryz.prog 119 #[.int .i64 d] w fun e w' => e = .returned (.bool (dayB d)) /\ w = w' := day_any _ d w (.inl rfl)
theorem b7w {l : List UInt8} {i : Nat} (hi : i < l.length) : (l.take (i + 1)).all letB = ((l.take i).all letB && letB (l.getD i 0)) := by
 have : l[i]? = some (l.getD i 0) := by rw [List.getD_eq_getElem?_getD, List.getElem?_eq_getElem hi]; rfl
 exact b9u this
theorem b4z {l : List UInt8} {i : Nat} (hi : i < l.length) (h : letB (l.getD i 0) = false) : a1y l = false := by
 unfold a1y
 rw [Bool.and_eq_false_iff]; left
 rw [List.all_eq_false]
 refine ⟨l.getD i 0, ?_, by rw [h]; decide⟩
 rw [List.getD_eq_getElem?_getD, List.getElem?_eq_getElem hi]
 exact List.getElem_mem hi
theorem b2w (s : ByteArray) (w : World) (hs : s.size <= 9223372036854775807) :
  Calls Tryz.prog 143 #[.string s] w fun e w' => e = .returned (.bool (a1y s.data.toList)) /\ w = w' := by
 go_enter Tryz.func143, Tryz.ntmps143
 go_wp2
 go_loop [6] (fun i => ∃ k : Nat, k <= s.size /\ i = .int .i64 k /\ Hid ((s.data.toList.take k).all letB = true)) (fun i => s.size - (intOf i).toNat)
 case atStart => exact ⟨0, Nat.zero_le _, rfl, rfl⟩
 case round =>
  obtain ⟨k, hk, rfl, ha⟩ := hrel
  by_cases hlt : k < s.size
  ·obtain ⟨b, hbs, hidx⟩ := a5b 9 Tryz.underlying9 s (k : Int) k rfl hlt
   have hlt' : k < s.data.toList.length := by rw [a0x]; exact hlt
   have hst := b7w hlt'
   obtain ⟨x, hx⟩ : ∃ x, x = decide (65 <= b) := ⟨_, rfl⟩
   obtain ⟨y, hy⟩ : ∃ y, y = decide (b <= 90) := ⟨_, rfl⟩
   have hl : letB (s.data.toList.getD k 0) = (x && y) := by unfold letB; rw [<- hbs, hx, hy]
   have e1 : decide ((b : Int) < 65) = !x := by rw [hx, <- decide_not]; exact decide_eq_decide.2 (by omega)
   have e2 : decide ((90 : Int) < (b : Int)) = !y := by rw [hy, <- decide_not]; exact decide_eq_decide.2 (by omega)
   have HL := zh hl
   have HST := zh hst
   have HLT := zh hlt'
   clear hl hst hbs hx hy hlt'
   cases x <;> cases y <;> simp only [Bool.not_true, Bool.not_false] at e1 e2
   all_goals go_wp2
   case roundEnd =>
    go_round
    case rel => exact ⟨k + 1, by omega, by go_num, by show _ = _; rw [HST.out, HL.out, ha.out]; rfl⟩
    case measure => simp [intOf]; omega
   all_goals
    go_ret
    rw [b4z HLT.out HL.out]
    exact ⟨rfl, rfl⟩
  have hk' : k = s.size := by omega
  subst hk'
  obtain ⟨x, hx⟩ : ∃ x, x = ((s.size : Int) == 3) := ⟨_, rfl⟩
  have e : a1y s.data.toList = x := by
   unfold a1y
   have := ha.out
   rw [List.take_of_length_le (by rw [a0x]; exact Nat.le_refl _)] at this
   rw [this, Bool.true_and, hx, a0x]
   rw [Bool.eq_iff_iff]; simp; omega
  have E := zh e
  have hx' := hx.symm
  clear hx e
  cases x
  all_goals
   go_wp2
   go_ret
   rw [E.out]
   exact ⟨rfl, rfl⟩
def eur : List UInt8 := [69, 85, 82]
def Quo.rat (q : Quo) : Rat := decR q.neg q.num q.den
def posQ (q : Quo) : Bool := decide (0 < q.rat.num)
def b3m (q p : Quo) : Bool := p.code == q.code && p.day == q.day
def Quo.ok (q : Quo) : Prop := q.code.length <= 9223372036854775807 /\ q.num.length <= 17179869184 /\ q.den.length <= 17179869184 /\ -9223372036854775808 <= q.day /\ q.day <= 9223372036854775807
def qErr (pre : List Quo) (q : Quo) : Int :=
 if !a1y q.code || q.code == eur then 8 else if !dayB q.day || !posQ q then 1 else if pre.any (b3m q) then 12 else 0
def a1v : List Quo -> List Quo -> Int
 | _, [] => 0
 | pre, q :: rest => if qErr pre q = 0 then a1v (pre ++ [q]) rest else qErr pre q
def a3r (qs : List Quo) : Int := if 256 < qs.length then 2 else a1v [] qs
theorem b5a {qs : List Quo} {i : Nat} {q : Quo} (h : qs[i]? = some q) :
  a1v (qs.take i) (qs.drop i) = if qErr (qs.take i) q = 0 then a1v (qs.take (i + 1)) (qs.drop (i + 1)) else qErr (qs.take i) q := by
 rw [b0f h, b8f h]; rfl
theorem c4e {qs : List Quo} {i : Nat} (h : qs.length <= i) : a1v (qs.take i) (qs.drop i) = 0 := by
 rw [List.drop_of_length_le h]; rfl
theorem c2v {pre : List Quo} {q : Quo} (h : a1y q.code = false) : qErr pre q = 8 := by unfold qErr; rw [h]; rfl
theorem c2w {pre : List Quo} {q : Quo} (h : (q.code == eur) = true) : qErr pre q = 8 := by unfold qErr; rw [h, Bool.or_true]; rfl
theorem qErr_day {pre : List Quo} {q : Quo} (h : a1y q.code = true) (h2 : (q.code == eur) = false) (h3 : dayB q.day = false) : qErr pre q = 1 := by
 unfold qErr; rw [h, h2, h3]; rfl
theorem c2t {pre : List Quo} {q : Quo} (h : a1y q.code = true) (h2 : (q.code == eur) = false) (h3 : posQ q = false) : qErr pre q = 1 := by
 unfold qErr; rw [h, h2, h3, Bool.not_false, Bool.or_true]; rfl
theorem c0z {pre : List Quo} {q : Quo} (h : a1y q.code = true) (h2 : (q.code == eur) = false) (h3 : dayB q.day = true) (h4 : posQ q = true) (h5 : pre.any (b3m q) = true) : qErr pre q = 12 := by
 unfold qErr; rw [h, h2, h3, h4, h5]; rfl
theorem c2u {pre : List Quo} {q : Quo} (h : a1y q.code = true) (h2 : (q.code == eur) = false) (h3 : dayB q.day = true) (h4 : posQ q = true) (h5 : pre.any (b3m q) = false) : qErr pre q = 0 := by
 unfold qErr; rw [h, h2, h3, h4, h5]; rfl
theorem a7n {qs : List Quo} {i : Nat} {q : Quo} {n : Int} (hl : qs.length <= 256) (h : a1v [] qs = a1v (qs.take i) (qs.drop i)) (hq : qs[i]? = some q) (he : qErr (qs.take i) q = n) (hn : n ≠ 0) : a3r qs = n := by
 unfold a3r
 rw [if_neg (by omega), h, b5a hq, he, if_neg hn]
theorem check_ok {qs : List Quo} {i : Nat} (hl : qs.length <= 256) (h : a1v [] qs = a1v (qs.take i) (qs.drop i)) (hi : qs.length <= i) : a3r qs = 0 := by
 unfold a3r
 rw [if_neg (by omega), h, c4e hi]
theorem check_go {qs : List Quo} {i : Nat} {q : Quo} (h : a1v [] qs = a1v (qs.take i) (qs.drop i)) (hq : qs[i]? = some q) (he : qErr (qs.take i) q = 0) : a1v [] qs = a1v (qs.take (i + 1)) (qs.drop (i + 1)) := by
 rw [h, b5a hq, if_pos he]
theorem sgn_le {n : Int} : decide (sgn n <= 0) = !decide (0 < n) := by
 rw [<- decide_not]
 apply decide_eq_decide.2
 rcases Int.lt_trichotomy n 0 with h | h | h
 ·rw [a2d h]; omega
 ·rw [h, a8r]; omega
 rw [a2j h]; omega
set_option maxHeartbeats 2000000
theorem c3t : (166 : TypeId) < Tryz.prog.types.size := of_decide_eq_true (by kernel_rfl)
theorem key_wide : (match Tryz.prog.underlying 166 with | some (.array _ _) | some (.struct _) => true | _ => false) = true := by kernel_rfl
theorem key_law : Maps.Keyed Tryz.prog 166 := Maps.Keyed.of_law (deep_law_laid b9f (m := 3) (by omega) c3t (by kernel_rfl) key_wide)
def klit (code : List UInt8) (day : Int) : Lit := .string (keyBytes [.string code, .int .i64 day])
theorem b8q (code : List UInt8) (day : Int) (hc : code.length <= 9223372036854775807) (hd : -9223372036854775808 <= day) (hd2 : day <= 9223372036854775807) :
  keyOf Tryz.prog 166 (.agg #[.string (bs code), .int .i64 day]) = some (klit code day) := by
 have hu := Tryz.underlying166
 obtain ⟨n, hs⟩ : ∃ n, Tryz.prog.types.size = n + 1 := ⟨Tryz.prog.types.size - 1, (Nat.sub_add_cancel (Nat.lt_of_le_of_lt (Nat.zero_le _) c3t)).symm⟩
 have hkt : Tryz.prog.keyType 166 = true := by kernel_rfl
 have c2 : Tryz.prog.cellsOf 166 = 2 := by kernel_rfl
 have c9 : Tryz.prog.cellsOf 9 = 1 := by kernel_rfl
 have c3 : Tryz.prog.cellsOf 3 = 1 := by kernel_rfl
 have u9 := Tryz.underlying9
 have u3 := Tryz.underlying3
 have hsz : (bs code).size <= maxLen := by rw [a4q]; unfold maxLen; omega
 have hw : (Lit.int .i64 day).wf = true := by
  simp [Lit.wf]
  exact ⟨hd, hd2⟩
 unfold keyOf
 rw [hu]
 have hf : (Value.agg #[Value.string (bs code), Value.int .i64 day]).formed Tryz.prog 166 = true := by
  simp [Value.formed, hu, c2]
 rw [hkt, hf, hs]
 have hl : Tryz.prog.keyLits (n + 1 + 1) 166 [.string (bs code), .int .i64 day] = some [.string code, .int .i64 day] := by
  simp [Program.keyLits, hu, c2, c9, c3, u9, u3, hsz, hw, a4f]
 simp [Value.cells, hl, klit]
def seen (qs : List Quo) : DataW Unit := Maps.setOf (.lit (.bool true)) (qs.map fun q => klit q.code q.day)
theorem b1w (qs : List Quo) (q : Quo) : seen (qs ++ [q]) = (seen qs).put (klit q.code q.day) (.lit (.bool true)) := by
 unfold seen
 rw [List.map_append, List.map_singleton, Maps.setOf_snoc]
theorem klit_key (code : List UInt8) (day : Int) : WideAt.IsKeyLit (klit code day) := trivial
theorem seen_map (qs : List Quo) : Maps.IsMap (seen qs) := by
 induction qs using b8j with
 | h0 => exact Maps.isMap_empty
 | h1 l p ih => rw [b1w]; exact ih.put _ _
theorem klit_inj {p q : Quo} (hp : p.ok) (hq : q.ok) (h : klit p.code p.day = klit q.code q.day) : p.code = q.code /\ p.day = q.day := by
 have h1 := b8q p.code p.day hp.1 hp.2.2.2.1 hp.2.2.2.2
 have h2 := b8q q.code q.day hq.1 hq.2.2.2.1 hq.2.2.2.2
 rw [<- h] at h2
 have h3 := key_law.inj h1 h2
 injection h3 with h3
 simp only [Array.mk.injEq, List.cons.injEq, Value.string.injEq, Value.int.injEq, and_true, true_and] at h3
 exact ⟨c4k h3.1, h3.2⟩
theorem seen_at {q : Quo} (hq : q.ok) (qs : List Quo) (h : ∀ p ∈ qs, p.ok) : (seen qs).atKey (klit q.code q.day) (.lit (.bool false)) = .lit (.bool (qs.any (b3m q))) := by
 induction qs using b8j with
 | h0 => rfl
 | h1 l p ih =>
  have ih := ih (fun x hx => h x (List.mem_append.2 (.inl hx)))
  have hp := h p (List.mem_append.2 (.inr (by simp)))
  rw [b1w, List.any_append]
  by_cases hs : b3m q p = true
  ·have e : p.code = q.code /\ p.day = q.day := by unfold b3m at hs; simpa using hs
   rw [e.1, e.2, Maps.atKey_put_same (seen_map l) (klit_key _ _)]
   simp [hs]
  have hf : b3m q p = false := by simpa using hs
  rw [Maps.atKey_put_other, ih]
  ·simp [hf]
  intro e
  obtain ⟨e1, e2⟩ := klit_inj hq hp e
  apply hs
  unfold b3m
  simp [e1, e2]
theorem b4b (v : Value) (qs : List Quo) (w : World) (h : a8g w v qs) (hok : ∀ q ∈ qs, q.ok) :
   Calls Tryz.prog 118 #[v] w fun e w' => e = .returned (.int .i64 (a3r qs)) /\ Below w.heap.size w w' := by
 have H := zh h
 have HOK := zh hok
 obtain ⟨A, c, rfl, hl, hc⟩ := h.slice
 clear h hok
 have hmm := @run_makeMap Tryz.prog
 have zB : ∀ w, (zeroValue 4).run Tryz.prog w = .ok (.bool false) w := fun _ => by kernel_rfl
 have ZB := zh zB
 clear zB
 by_cases hlen : qs.length <= 256
 have hd : decide ((256 : Int) < (qs.length : Int)) = false := decide_eq_false (by omega)
 rotate_left
 have hd : decide ((256 : Int) < (qs.length : Int)) = true := decide_eq_true (by omega)
 have hf : a3r qs = 2 := by unfold a3r; rw [if_pos (by omega)]
 rw [hf]
 clear hf
 rotate_left
 all_goals
   go_enter Tryz.func118, Tryz.ntmps118
   go_wp2
 ·go_loopw [13] (fun i wr => ∃ (i' : Nat) (D : DataW Unit), i' <= qs.length /\ i = .int .i64 i' /\ Hid (a1v [] qs = a1v (qs.take i') (qs.drop i')) /\
     Hid (wr.ownsMap Tryz.prog 166 (plainElem Tryz.prog 4) w.heap.size i' D) /\ Hid (D = seen (qs.take i')) /\ Below w.heap.size w wr) (fun i _ => qs.length - (intOf i).toNat)
  case atStart => exact ⟨0, _, Nat.zero_le _, rfl, rfl, World.ownsMap_made _ _ _ _, rfl, Ext.alloc (Below.refl _ _) _⟩
  case round =>
    obtain ⟨i, D, hi, rfl, ha, hown, hD, hb⟩ := hrel
    by_cases hlt : i < qs.length
    ·obtain ⟨b, o, q, rfl, hbb, hq, hx⟩ := H.out.at_ hlt
     have x0 := hx wr hb 0 _ rfl
     rw [Nat.add_zero] at x0
     have x1 := hx wr hb 1 _ rfl
     have x2 := hx wr hb 2 _ rfl
     have x3 := hx wr hb 3 _ rfl
     have x4 := hx wr hb 4 _ rfl
     have hqok := HOK.out q (List.mem_of_getElem? hq)
     have hqok' := hqok
     obtain ⟨o1, o2, o3, o4, o5⟩ := hqok'
     have hkey := b8q q.code q.day o1 o4 o5
     have hat : D.atKey (klit q.code q.day) (.lit (.bool false)) = .lit (.bool ((qs.take i).any (b3m q))) := by
      rw [hD.out]
      exact seen_at hqok _ (fun p hp => HOK.out p (List.mem_of_mem_take hp))
     have hput : seen (qs.take (i + 1)) = D.put (klit q.code q.day) (.lit (.bool true)) := by rw [b8f hq, b1w, hD.out]
     have hC := fun W => b2w (bs q.code) W (by rw [a4q]; exact o1)
     have hDy := fun W => a8f q.day W
     have hS := fun W => a2z q.neg q.num q.den W (by omega) (by omega)
     rw [a4f] at hC
     unfold raw at hS
     obtain ⟨cB, hcB⟩ : ∃ x, x = a1y q.code := ⟨_, rfl⟩
     obtain ⟨eB, heB⟩ : ∃ x, x = (q.code == eur) := ⟨_, rfl⟩
     obtain ⟨dB, hdB⟩ : ∃ x, x = dayB q.day := ⟨_, rfl⟩
     obtain ⟨pB, hpB⟩ : ∃ x, x = posQ q := ⟨_, rfl⟩
     obtain ⟨tB, htB⟩ : ∃ x, x = (qs.take i).any (b3m q) := ⟨_, rfl⟩
     rw [<- hcB] at hC
     rw [<- hdB] at hDy
     rw [<- htB] at hat
     have fe : ((bs q.code).toList == [69, 85, 82]) = eB := by rw [a2f]; exact heB.symm
     obtain ⟨sg, hsg⟩ : ∃ s, s = sgn (decR q.neg q.num q.den).num := ⟨_, rfl⟩
     rw [<- hsg] at hS
     have fp : decide (sg <= 0) = !pB := by rw [hsg, hpB]; exact sgn_le
     have hkq : Hid (Blk ((wr.alloc (Obj.cells #[.string (bs q.code), .int .i64 q.day, .bool q.neg, .string (bs q.num), .string (bs q.den)] 40)).alloc (Obj.cells #[.string (bs q.code), .int .i64 q.day] 166)) (wr.heap.size + 1) #[.string (bs q.code), .int .i64 q.day] 166) := Blk.new1 wr _ _ _
     have hbw : Hid (Below wr.heap.size wr ((wr.alloc (Obj.cells #[.string (bs q.code), .int .i64 q.day, .bool q.neg, .string (bs q.num), .string (bs q.den)] 40)).alloc (Obj.cells #[.string (bs q.code), .int .i64 q.day] 166))) := Ext.alloc (Ext.alloc (Below.refl _ _) _) _
     have HC := zh hC
     have HDy := zh hDy
     have HS := zh hS
     have HQ := zh hq
     have HKEY := zh hkey
     have HAT := zh hat
     have HPUT := zh hput
     have HCB := zh hcB.symm
     have HEB := zh heB.symm
     have HDB := zh hdB.symm
     have HPB := zh hpB.symm
     have HTB := zh htB.symm
     clear hC hDy hS hq hx hcB heB hdB hpB htB hsg o1 o2 o3 o4 o5 hqok hkey hat hput hD
     cases cB
     ·clear fe fp
      go_wp2_with (go_at_call 143; with_reducible refine (HC.out _).mono ?_; rintro e w' ⟨rfl, rfl⟩)
      go_ret
      rw [a7n hlen ha.out HQ.out (c2v HCB.out) (by decide)]
      exact ⟨rfl, Ext.trans hb hbw.out⟩
     cases eB
     rotate_left
     ·clear fp
      go_wp2_with (go_at_call 143; with_reducible refine (HC.out _).mono ?_; rintro e w' ⟨rfl, rfl⟩)
      go_ret
      rw [a7n hlen ha.out HQ.out (c2w HEB.out) (by decide)]
      exact ⟨rfl, Ext.trans hb hbw.out⟩
     cases dB
     ·clear fp
      go_wp2_with (first
       | (go_at_call 143; with_reducible refine (HC.out _).mono ?_; rintro e w' ⟨rfl, rfl⟩)
       | (go_at_call 119; with_reducible refine (HDy.out _).mono ?_; rintro e w' ⟨rfl, rfl⟩))
      go_ret
      rw [a7n hlen ha.out HQ.out (qErr_day HCB.out HEB.out HDB.out) (by decide)]
      exact ⟨rfl, Ext.trans hb hbw.out⟩
     cases pB
     ·simp only [Bool.not_false] at fp
      go_wp2_with (first
       | (go_at_call 143; with_reducible refine (HC.out _).mono ?_; rintro e w' ⟨rfl, rfl⟩)
       | (go_at_call 119; with_reducible refine (HDy.out _).mono ?_; rintro e w' ⟨rfl, rfl⟩)
       | (go_at_call 27; with_reducible refine (HS.out _).mono ?_; rintro e w1 ⟨rfl, hb1⟩))
      go_ret
      rw [a7n hlen ha.out HQ.out (c2t HCB.out HEB.out HPB.out) (by decide)]
      exact ⟨rfl, Ext.trans hb (Ext.trans hbw.out hb1)⟩
     simp only [Bool.not_true] at fp
     go_wp2_with (first
      | (go_at_call 143; with_reducible refine (HC.out _).mono ?_; rintro e w' ⟨rfl, rfl⟩)
      | (go_at_call 119; with_reducible refine (HDy.out _).mono ?_; rintro e w' ⟨rfl, rfl⟩)
      | fail)
     with_reducible refine (HS.out _).mono ?_
     rintro e w1 ⟨rfl, hb1⟩
     have k1 := hkq.out.below hb1 (Blk.lt hkq.out)
     have y0 := k1.cell 0 _ rfl
     have y1 := k1.cell 1 _ rfl
     have hb01 := Ext.trans hbw.out hb1
     have hown1 := hown.out.kept (c1a hb01 none) (by simp)
     have HB1 := zh (Ext.trans hb hb01)
     clear hb1 hb01 k1 x0 x1 x2 x3 x4 fe
     cases tB
     ·go_wp2_with (first
       | (at_lookup; refine a4b _ rfl _ _ 164 rfl 166 4 key_law Tryz.underlying164 Tryz.underlying4 (ZB.out _) w.heap.size i D rfl hown1 _ _ rfl HKEY.out false HAT.out ?_)
       | (at_mapUpdate; refine wpList_mapUpdate_own _ rfl _ _ _ 164 rfl 166 4 key_law Tryz.underlying164 _ w.heap.size i D rfl hown1 (by unfold maxLen; omega) _ _ _ rfl rfl HKEY.out _ [] (plainElem_bool Tryz.underlying4 true) ?_; intro w2 hown2 hg2))
      go_roundw
      case rel => exact ⟨i + 1, _, by omega, by go_num, check_go ha.out HQ.out (c2u HCB.out HEB.out HDB.out HPB.out HTB.out), hown2, HPUT.out.symm, HB1.out.grown hg2 HB1.out.size (fun k hk => by injection hk with hk; omega)⟩
      case measure => simp [intOf]; omega
     go_wp2_with (first
      | (at_lookup; refine a4b _ rfl _ _ 164 rfl 166 4 key_law Tryz.underlying164 Tryz.underlying4 (ZB.out _) w.heap.size i D rfl hown1 _ _ rfl HKEY.out true HAT.out ?_))
     go_ret
     rw [a7n hlen ha.out HQ.out (c0z HCB.out HEB.out HDB.out HPB.out HTB.out) (by decide)]
     exact ⟨rfl, HB1.out⟩
    go_wp2
    go_ret
    rw [check_ok hlen ha.out (by omega)]
    exact ⟨rfl, hb⟩
 go_ret
 exact ⟨rfl, Below.refl _ _⟩
end Go.Proofs.YtlkhoommpkndpaaGreatDoor
