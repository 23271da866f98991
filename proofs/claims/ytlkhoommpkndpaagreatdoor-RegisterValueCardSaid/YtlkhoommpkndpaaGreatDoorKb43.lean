/-
Part 43 of the base.
-/
import Derived.Test.YtlkhoommpkndpaaGreatDoorKb39
import Derived.Test.YtlkhoommpkndpaaGreatDoorKb41
import Derived.Test.YtlkhoommpkndpaaGreatDoorKb42
import Derived.Test.YtlkhoommpkndpaaGreatDoorKb49
import Derived.Test.YtlkhoommpkndpaaGreatDoorKb50
set_option maxRecDepth 100000
set_option maxHeartbeats 4000000
namespace Go.Proofs.YtlkhoommpkndpaaGreatDoor
open Go.RowKit
theorem few_low {q : Quo} (h : fewR q.num q.den = true) (hd : QuoAny q) : q.ok ∧ q.num.length ≤ 100 ∧ q.den.length ≤ 100 := by
 unfold fewR at h
 rw [Bool.and_eq_true, decide_eq_true_eq, decide_eq_true_eq] at h
 exact ⟨⟨hd.1, by omega, by omega, hd.2.1, hd.2.2⟩, by omega, by omega⟩
theorem fewR_le {a b : List UInt8} (h : fewR a b = true) : a.length ≤ 100 ∧ b.length ≤ 100 := by
 unfold fewR at h
 rw [Bool.and_eq_true, decide_eq_true_eq, decide_eq_true_eq] at h
 omega
theorem law_RegisterValue (p : Prf) (cut : Int) (v : Value) (qs : List Quo) (w : World) (hp : p.fit) (_ : -9223372036854775808 ≤ cut ∧ cut ≤ 9223372036854775807) (h : Quotes w v qs) (hd : ∀ q ∈ qs, QuoAny q) :
  Calls Tryz.prog 4 #[.agg #[.string (bs p.id), .int .i64 p.est, .int .i64 p.cre, .string (bs p.code), .bool p.an, .string (bs p.aa), .string (bs p.ab), .int .i64 p.inc, .int .i64 p.rank, .bool p.rn, .string (bs p.ra), .string (bs p.rb), .int .i64 p.rf, .int .i64 p.sec], .int .i64 cut, v] w fun e w' => e = .returned (.bool true) ∧ Below w.heap.size w w' := by
 obtain ⟨⟨p1, p2, _⟩, _, _, _, _, _, p6⟩ := hp
 have p6 := int_range p6
 have hW := fun W => law10_awake W
 have hF1 := fun W => law0_Few p.an p.aa p.ab W
 have hF2 := fun W => law0_Few p.rn p.ra p.rb W
 have hF3 := fun (y : Quo) W => law0_Few y.neg y.num y.den W
 have hV := fun (k1 : fewR p.aa p.ab = true) (k2 : fewR p.ra p.rb = true) (k3 : qs.all (fun q => fewR q.num q.den) = true) W (hb : Below w.heap.size w W) => register_Value p cut v qs W ⟨p1, p2⟩ ⟨fewR_le k1, fewR_le k2⟩ p6 (h.below hb) (fun q hq => (few_low (List.all_eq_true.1 k3 q hq) (hd q hq)).1) (fun q hq => (few_low (List.all_eq_true.1 k3 q hq) (hd q hq)).2)
 have hR := fun (k1 : fewR p.aa p.ab = true) (k2 : fewR p.ra p.rb = true) (k3 : qs.all (fun q => fewR q.num q.den) = true) W (hb : Below w.heap.size w W) => ref9_Value p cut v qs W ⟨p1, p2⟩ ⟨fewR_le k1, fewR_le k2⟩ (h.below hb) (fun q hq => (few_low (List.all_eq_true.1 k3 q hq) (hd q hq)).1) (fun q hq => (few_low (List.all_eq_true.1 k3 q hq) (hd q hq)).2)
 have hz := fun (k1 : fewR p.aa p.ab = true) (k2 : fewR p.ra p.rb = true) (k3 : qs.all (fun q => fewR q.num q.den) = true) W => eql_same (valueOfP_sized (p := p) (cut := cut) (qs := qs) ⟨fewR_le k1, fewR_le k2⟩ (fun q hq => (few_low (List.all_eq_true.1 k3 q hq) (hd q hq)).2)) (by decide) W
 have H := Lib.hid h
 obtain ⟨A, c, rfl, hl, hc⟩ := h.slice
 generalize (valueOfP p cut qs).1 = q at *
 generalize (valueOfP p cut qs).2 = n at *
 have q1 : (n == n) = true := by simp
 obtain ⟨f1, hf1⟩ : ∃ y, y = fewR p.aa p.ab := ⟨_, rfl⟩
 obtain ⟨f2, hf2⟩ : ∃ y, y = fewR p.ra p.rb := ⟨_, rfl⟩
 rw [← hf1] at hF1 hV hR hz
 rw [← hf2] at hF2 hV hR hz
 unfold rat raw at hV hR hz
 unfold raw at hF1 hF2 hF3
 have hsz : (bs p.id).size = p.id.length := bs_size p.id
 have HWx := Lib.hid hW
 have HF1x := Lib.hid hF1
 have HF2x := Lib.hid hF2
 have HF3x := Lib.hid hF3
 have HVx := Lib.hid hV
 have HRx := Lib.hid hR
 have HZx := Lib.hid hz
 have HSZx := Lib.hid hsz
 clear h hd p1 p2 p6 hf1 hf2 hW hF1 hF2 hF3 hV hR hz hsz
 cases f1
 ·go_enter Tryz.func4, Tryz.ntmps4
  have HS := Lib.hid (St.start w)
  go_wp2_with fail
  have HS2 := Lib.hid (St.alloc (HS.out) (prfC p) 36 (w.heap.size) (by simp))
  refine cL (HF1x.out _) HS2 fun w3 HS3 => ?_
  clear HS HS2
  go_wp2_with fail
  refine cL (HWx.out _) HS3 fun w4 HS4 => ?_
  clear HS3
  go_wp2
  go_ret
  have HS5 := Lib.hid HS4.out
  exact ⟨rfl, HS5.out.below⟩
 cases f2
 ·go_enter Tryz.func4, Tryz.ntmps4
  have HS := Lib.hid (St.start w)
  go_wp2_with fail
  have HS2 := Lib.hid (St.alloc (HS.out) (prfC p) 36 (w.heap.size) (by simp))
  refine cL (HF1x.out _) HS2 fun w3 HS3 => ?_
  clear HS HS2
  have x1 := cC HS3 0 9
  have x2 := cC HS3 0 10
  have x3 := cC HS3 0 11
  go_wp2_with fail
  refine cL (HF2x.out _) HS3 fun w4 HS4 => ?_
  clear HS3 x1 x2 x3
  go_wp2_with fail
  refine cL (HWx.out _) HS4 fun w5 HS5 => ?_
  clear HS4
  go_wp2
  go_ret
  have HS6 := Lib.hid HS5.out
  exact ⟨rfl, HS6.out.below⟩
 by_cases h3 : 60 < p.id.length
 ·have d3 : decide ((60 : Int) < ((bs p.id).size : Int)) = true := decide_eq_true (by rw [HSZx.out]; omega)
  have d3' : decide (60 < (bs p.id).size) = true := decide_eq_true (by rw [HSZx.out]; omega)
  clear h3
  go_enter Tryz.func4, Tryz.ntmps4
  have HS := Lib.hid (St.start w)
  go_wp2_with fail
  have HS2 := Lib.hid (St.alloc (HS.out) (prfC p) 36 (w.heap.size) (by simp))
  refine cL (HF1x.out _) HS2 fun w3 HS3 => ?_
  clear HS HS2
  have x1 := cC HS3 0 9
  have x2 := cC HS3 0 10
  have x3 := cC HS3 0 11
  go_wp2_with fail
  refine cL (HF2x.out _) HS3 fun w4 HS4 => ?_
  clear HS3 x1 x2 x3
  have x4 := cC HS4 0 0
  go_wp2_with fail
  refine cL (HWx.out _) HS4 fun w5 HS5 => ?_
  clear HS4 x4
  go_wp2
  go_ret
  have HS6 := Lib.hid HS5.out
  exact ⟨rfl, HS6.out.below⟩
 have d3 : decide ((60 : Int) < ((bs p.id).size : Int)) = false := decide_eq_false (by rw [HSZx.out]; omega)
 have d3' : decide (60 < (bs p.id).size) = false := decide_eq_false (by rw [HSZx.out]; omega)
 clear h3
 by_cases h4 : 10 < qs.length
 ·have d4 : decide ((10 : Int) < (qs.length : Int)) = true := decide_eq_true (by omega)
  have d4' : decide (10 < qs.length) = true := decide_eq_true h4
  clear h4
  go_enter Tryz.func4, Tryz.ntmps4
  have HS := Lib.hid (St.start w)
  go_wp2_with fail
  have HS2 := Lib.hid (St.alloc (HS.out) (prfC p) 36 (w.heap.size) (by simp))
  refine cL (HF1x.out _) HS2 fun w3 HS3 => ?_
  clear HS HS2
  have x1 := cC HS3 0 9
  have x2 := cC HS3 0 10
  have x3 := cC HS3 0 11
  go_wp2_with fail
  refine cL (HF2x.out _) HS3 fun w4 HS4 => ?_
  clear HS3 x1 x2 x3
  have x4 := cC HS4 0 0
  go_wp2_with fail
  refine cL (HWx.out _) HS4 fun w5 HS5 => ?_
  clear HS4 x4
  go_wp2
  go_ret
  have HS6 := Lib.hid HS5.out
  exact ⟨rfl, HS6.out.below⟩
 have d4 : decide ((10 : Int) < (qs.length : Int)) = false := decide_eq_false (by omega)
 have d4' : decide (10 < qs.length) = false := decide_eq_false h4
 clear h4
 go_enter Tryz.func4, Tryz.ntmps4
 have HS := Lib.hid (St.start w)
 go_wp2_with fail
 have HS2 := Lib.hid (St.alloc (HS.out) (prfC p) 36 (w.heap.size) (by simp))
 refine cL (HF1x.out _) HS2 fun w3 HS3 => ?_
 clear HS HS2
 have x1 := cC HS3 0 9
 have x2 := cC HS3 0 10
 have x3 := cC HS3 0 11
 go_wp2_with fail
 refine cL (HF2x.out _) HS3 fun w4 HS4 => ?_
 clear HS3 x1 x2 x3
 have x4 := cC HS4 0 0
 go_wp2
 go_loopw [37] (fun i wr => ∃ k : Nat, k ≤ qs.length ∧ i = .int .i64 k ∧ Hid ((qs.take k).all (fun q => fewR q.num q.den) = true) ∧ Hid (St w [⟨w.heap.size, (prfC p), 36⟩] wr)) (fun i _ => qs.length - (intOf i).toNat)
 case atStart => exact ⟨0, Nat.zero_le _, rfl, rfl, HS4.out⟩
 case round =>
  obtain ⟨k, hk, rfl, HN, HS⟩ := hrel
  by_cases hlt : k < qs.length
  ·obtain ⟨b, o, y, rfl, hbb, hq, hx⟩ := H.out.at_ hlt
   have HX := Lib.hid hx
   have hta := take_all (f := fun q : Quo => fewR q.num q.den) hq
   have hF := HF3x.out y
   obtain ⟨fy, hfy⟩ : ∃ z, z = fewR y.num y.den := ⟨_, rfl⟩
   rw [← hfy] at hF hta
   have HTA := Lib.hid hta
   have HFy := Lib.hid hF
   have e0 : (0 : Int) ≤ ((k : Nat) : Int) := by omega
   have e1 : ((k : Nat) : Int) < (qs.length : Int) := by omega
   have e2 : decide (((k : Nat) : Int) < (qs.length : Int)) = true := decide_eq_true e1
   clear hx hq hta hF hfy
   cases fy
   ·have x5 : b < wr.heap.size := Nat.lt_of_lt_of_le hbb HS.out.below.size
    have x6 : ¬ b = wr.heap.size := by omega
    obtain ⟨x7, x8, x9⟩ := kE0 (HX.out _ HS.out.below) rfl rfl rfl
    have x10 := HX.out _ HS.out.below 3 _ rfl
    have x11 := HX.out _ HS.out.below 4 _ rfl
    go_wp2_with fail
    have HS5 := Lib.hid (St.alloc (HS.out) #[.string (bs y.code), .int .i64 y.day, .bool y.neg, .string (bs y.num), .string (bs y.den)] 40 (wr.heap.size) (by simp))
    refine cL (HFy.out _) HS5 fun w6 HS6 => ?_
    clear HS HS5 x5 x6 x7 x8 x9 x10 x11
    go_wp2_with fail
    refine cL (HWx.out _) HS6 fun w7 HS7 => ?_
    clear HS6
    go_wp2
    go_ret
    have HS8 := Lib.hid HS7.out
    exact ⟨rfl, HS8.out.below⟩
   ·have x5 : b < wr.heap.size := Nat.lt_of_lt_of_le hbb HS.out.below.size
    have x6 : ¬ b = wr.heap.size := by omega
    obtain ⟨x7, x8, x9⟩ := kE0 (HX.out _ HS.out.below) rfl rfl rfl
    have x10 := HX.out _ HS.out.below 3 _ rfl
    have x11 := HX.out _ HS.out.below 4 _ rfl
    go_wp2_with fail
    have HS5 := Lib.hid (St.alloc (HS.out) #[.string (bs y.code), .int .i64 y.day, .bool y.neg, .string (bs y.num), .string (bs y.den)] 40 (wr.heap.size) (by simp))
    refine cL (HFy.out _) HS5 fun w6 HS6 => ?_
    clear HS HS5 x5 x6 x7 x8 x9 x10 x11
    go_wp2
    have HS7 := Lib.hid HS6.out
    go_roundw
    case rel => exact ⟨k + 1, by omega, by go_num, by show _ = _; rw [HTA.out, HN.out]; rfl, HS7.out.sub (List.Sublist.cons _ (List.Sublist.refl _))⟩
    case measure => simp [intOf]; omega
  ·obtain rfl : k = qs.length := by omega
   have k3 := HN.out
   rw [List.take_length] at k3
   have HV2 := Lib.hid (fun W hb => HVx.out (by first | rfl | trivial) (by first | rfl | trivial) k3 W hb)
   have HR2 := Lib.hid (fun W hb => HRx.out (by first | rfl | trivial) (by first | rfl | trivial) k3 W hb)
   have hz2 := fun W => HZx.out (by first | rfl | trivial) (by first | rfl | trivial) k3 W
   have e2 : decide (((qs.length : Nat) : Int) < (qs.length : Int)) = false := decide_eq_false (by omega)
   clear k3 HN HZx HVx HRx
   obtain ⟨x5, x6, x7, x8, x9, x10, x11, x12, x13, x14, x15⟩ := HS.out.kA 0 rfl rfl rfl rfl rfl rfl rfl rfl rfl rfl rfl rfl
   have x16 := cC HS 0 11
   have x17 := cC HS 0 12
   have x18 := cC HS 0 13
   go_wp2_with fail
   refine cL (HV2.out _ HS.out.below) HS fun w5 HS5 => ?_
   clear HS x5 x6 x7 x8 x9 x10 x11 x12 x13 x14 x15 x16 x17 x18
   obtain ⟨x19, x20, x21, x22, x23, x24, x25, x26, x27, x28, x29⟩ := HS5.out.kA 0 rfl rfl rfl rfl rfl rfl rfl rfl rfl rfl rfl rfl
   have x30 := cC HS5 0 11
   have x31 := cC HS5 0 12
   have x32 := cC HS5 0 13
   have x33 := HS5.out.lt 0 rfl
   have x34 : ¬ w.heap.size = w5.heap.size := by omega
   have x35 : ¬ w5.heap.size = w.heap.size := by omega
   go_wp2_with fail
   have HS6 := Lib.hid (St.alloc (HS5.out) #[.bool (negB (q)), .string (bs (numB (q))), .string (bs (denomB (q)))] 34 (w5.heap.size) (by simp))
   refine cL (HR2.out _ HS6.out.below) HS6 fun w7 HS7 => ?_
   clear HS5 HS6 x19 x20 x21 x22 x23 x24 x25 x26 x27 x28 x29 x30 x31 x32 x33 x34 x35
   go_wp2_with fail
   have HS8 := Lib.hid (St.alloc (HS7.out) #[.bool (negB (q)), .string (bs (numB (q))), .string (bs (denomB (q)))] 34 (w7.heap.size) (by simp))
   refine cL (HWx.out _) HS8 fun w9 HS9 => ?_
   clear HS7 HS8
   obtain ⟨x36, x37, x38⟩ := HS9.out.k0 1 rfl rfl rfl rfl
   obtain ⟨x39, x40, x41⟩ := HS9.out.k0 0 rfl rfl rfl rfl
   go_wp2
   go_ret
   have HS10 := Lib.hid HS9.out
   exact ⟨rfl, HS10.out.below⟩
theorem law_RegisterValues (x : Six) (cut : Int) (v : Value) (ts : List Tri) (w : World) (hx : x.ok) (hc : 0 ≤ cut ∧ cut ≤ 255) (h : Tris w v ts) (hok : ∀ t ∈ ts, t.ok) :
  Calls Tryz.prog 5 #[.agg #[.int .u16 (x.a : Nat), .int .u16 (x.b : Nat), .int .u16 (x.c : Nat), .int .u16 (x.d : Nat), .int .u16 (x.e : Nat), .int .u16 (x.f : Nat)], .int .u8 cut, v] w fun e w' => e = .returned (.bool true) ∧ Below w.heap.size w w' := by
 have hm := proofOf_mid hx
 obtain ⟨⟨⟨p1, p2, _⟩, _, _, _, _, _, p6⟩, pz⟩ := hm
 have p6 := int_range p6
 have hW := fun W => law10_awake W
 have hP := fun W => law0_Proof x W hx
 have hQ := fun W (hb : Below w.heap.size w W) => law10_quotes v ts W (h.below hb) hok
 have lo := quotesR_low hok
 have ok := quotesR_ok hok
 have hV := fun (v2 : Value) W (hq : Quotes W v2 (quotesR ts)) => register_Value (proofOf x) cut v2 (quotesR ts) W ⟨p1, p2⟩ pz p6 hq ok lo
 have hR := fun (v2 : Value) W (hq : Quotes W v2 (quotesR ts)) => ref9_Value (proofOf x) cut v2 (quotesR ts) W ⟨p1, p2⟩ pz hq ok lo
 have hz := fun W => eql_same (valueOfP_sized (p := proofOf x) (cut := cut) (qs := quotesR ts) pz lo) (by decide) W
 generalize (valueOfP (proofOf x) cut (quotesR ts)).1 = q at *
 generalize (valueOfP (proofOf x) cut (quotesR ts)).2 = n at *
 generalize proofOf x = pp at *
 generalize quotesR ts = qs at *
 have q1 : (n == n) = true := by simp
 have i1 : IntKind.i64.wrap cut = cut := IntWalk.i64_in _ (by omega)
 unfold Prf.enc at hP
 unfold rat raw at hV hR hz
 have HW := Lib.hid hW
 have HP := Lib.hid hP
 have HQ := Lib.hid hQ
 have HV := Lib.hid hV
 have HR := Lib.hid hR
 clear hW hP hQ hV hR h hok hx hc lo ok p1 p2 p6 pz
 go_enter Tryz.func5, Tryz.ntmps5
 have HS := Lib.hid (St.start w)
 go_wp2_with fail
 have HS2 := Lib.hid (St.alloc (HS.out) #[.int .u16 (x.a : Nat), .int .u16 (x.b : Nat), .int .u16 (x.c : Nat), .int .u16 (x.d : Nat), .int .u16 (x.e : Nat), .int .u16 (x.f : Nat)] 47 (w.heap.size) (by simp))
 refine cL (HP.out _) HS2 fun w3 HS3 => ?_
 clear HS HS2
 go_wp2_with fail
 refine (HQ.out _ HS3.out.below).mono ?_
 rintro e w4 ⟨v4, rfl, hl4, hb4⟩
 have HS4 := Lib.hid (HS3.out.call hb4)
 have Q_4 := Lib.hid hl4
 clear hl4 hb4 HS3
 go_wp2_with fail
 have HS5 := Lib.hid (St.alloc (HS4.out) (prfC pp) 36 (w4.heap.size) (by simp))
 refine (HV.out _ _ (Q_4.out.below (Ext.alloc (Below.refl w4.heap.size w4) (Obj.cells #[.string (bs pp.id), .int .i64 pp.est, .int .i64 pp.cre, .string (bs pp.code), .bool pp.an, .string (bs pp.aa), .string (bs pp.ab), .int .i64 pp.inc, .int .i64 pp.rank, .bool pp.rn, .string (bs pp.ra), .string (bs pp.rb), .int .i64 pp.rf, .int .i64 pp.sec] 36)))).mono ?_
 rintro e w6 ⟨rfl, hb6⟩
 have HS6 := Lib.hid (HS5.out.call hb6)
 have Q_6 := Lib.hid (Q_4.out.below (Ext.trans (Ext.alloc (Below.refl w4.heap.size w4) (Obj.cells #[.string (bs pp.id), .int .i64 pp.est, .int .i64 pp.cre, .string (bs pp.code), .bool pp.an, .string (bs pp.aa), .string (bs pp.ab), .int .i64 pp.inc, .int .i64 pp.rank, .bool pp.rn, .string (bs pp.ra), .string (bs pp.rb), .int .i64 pp.rf, .int .i64 pp.sec] 36)) hb6))
 clear Q_4 hb6 HS4 HS5
 obtain ⟨x1, x2, x3, x4, x5, x6, x7, x8, x9, x10, x11⟩ := HS6.out.kA 0 rfl rfl rfl rfl rfl rfl rfl rfl rfl rfl rfl rfl
 have x12 := cC HS6 0 11
 have x13 := cC HS6 0 12
 have x14 := cC HS6 0 13
 have x15 := HS6.out.lt 0 rfl
 have x16 : ¬ w4.heap.size = w6.heap.size := by omega
 have x17 : ¬ w6.heap.size = w4.heap.size := by omega
 go_wp2_with fail
 have HS7 := Lib.hid (St.alloc (HS6.out) #[.bool (negB (q)), .string (bs (numB (q))), .string (bs (denomB (q)))] 34 (w6.heap.size) (by simp))
 refine (HR.out _ _ (Q_6.out.below (Ext.alloc (Below.refl w6.heap.size w6) (Obj.cells #[.bool (negB (q)), .string (bs (numB (q))), .string (bs (denomB (q)))] 34)))).mono ?_
 rintro e w8 ⟨rfl, hb8⟩
 have HS8 := Lib.hid (HS7.out.call hb8)
 have Q_8 := Lib.hid (Q_6.out.below (Ext.trans (Ext.alloc (Below.refl w6.heap.size w6) (Obj.cells #[.bool (negB (q)), .string (bs (numB (q))), .string (bs (denomB (q)))] 34)) hb8))
 clear Q_6 hb8 HS6 HS7 x1 x2 x3 x4 x5 x6 x7 x8 x9 x10 x11 x12 x13 x14 x15 x16 x17
 go_wp2_with fail
 have HS9 := Lib.hid (St.alloc (HS8.out) #[.bool (negB (q)), .string (bs (numB (q))), .string (bs (denomB (q)))] 34 (w8.heap.size) (by simp))
 refine (HW.out _).mono ?_
 rintro e w10 ⟨rfl, hb10⟩
 have HS10 := Lib.hid (HS9.out.call hb10)
 have Q_10 := Lib.hid (Q_8.out.below (Ext.trans (Ext.alloc (Below.refl w8.heap.size w8) (Obj.cells #[.bool (negB (q)), .string (bs (numB (q))), .string (bs (denomB (q)))] 34)) hb10))
 clear Q_8 hb10 HS8 HS9
 obtain ⟨x18, x19, x20⟩ := HS10.out.k0 1 rfl rfl rfl rfl
 obtain ⟨x21, x22, x23⟩ := HS10.out.k0 0 rfl rfl rfl rfl
 go_wp2
 go_ret
 have HS11 := Lib.hid HS10.out
 exact ⟨rfl, HS11.out.below⟩
end Go.Proofs.YtlkhoommpkndpaaGreatDoor
