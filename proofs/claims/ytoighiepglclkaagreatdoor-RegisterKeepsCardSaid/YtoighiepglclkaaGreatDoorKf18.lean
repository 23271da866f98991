/-
Part 18 of the base.
-/
import Derived.Test.YtoighiepglclkaaGreatDoorKf17
set_option maxRecDepth 100000
set_option maxHeartbeats 2000000
namespace Go.Proofs.YtoighiepglclkaaGreatDoor
structure Trip where
 neg : Bool
 num : List UInt8
 den : List UInt8
def Trip.val (t : Trip) : Value := raw t.neg t.num t.den
def Trip.rat (t : Trip) : Rat := decR t.neg t.num t.den
def b4b : Trip := ⟨false, [], []⟩
def oneT : Trip := ⟨false, [1], []⟩
def Quo.trip (q : Quo) : Trip := ⟨q.neg, q.num, q.den⟩
def c0w (qs : List Quo) (b : Nat) : Int := match qs[b]? with | some q => q.day | none => 0
def a4x (qs : List Quo) (code : List UInt8) (day : Int) : Nat -> Bool × Option Nat
 | 0 => (false, none)
 | i + 1 => match qs[i]? with
  | none => a4x qs code day i
  | some q => if q.code == code then (true, if decide (q.day <= day) && (match (a4x qs code day i).2 with | none => true | some b => decide (c0w qs b < q.day)) then some i else (a4x qs code day i).2)
   else a4x qs code day i
theorem ite_some {c : Bool} {i b : Nat} {o : Option Nat} (h : (if c = true then some i else o) = some b) : b = i \/ o = some b := by
 cases c
 ·right; simpa using h
 left; injection h with h; exact h.symm
theorem a9v (qs : List Quo) (code : List UInt8) (day : Int) : ∀ (i b : Nat), (a4x qs code day i).2 = some b -> b < i /\ b < qs.length
 | 0, b, h => by simp [a4x] at h
 | i + 1, b, h => by
  unfold a4x at h
  have ih := a9v qs code day i b
  split at h
  ·have := ih h; omega
  rename_i q hq
  have hi := (List.getElem?_eq_some_iff.1 hq).1
  split at h
  ·rcases ite_some h with h | h
   ·omega
   have := ih h; omega
  have := ih h; omega
theorem b9p {qs : List Quo} {code : List UInt8} {day : Int} {i : Nat} {q : Quo} (hq : qs[i]? = some q) (h : (q.code == code) = false) : a4x qs code day (i + 1) = a4x qs code day i := by
 rw [a4x, hq]; simp [h]
theorem b2j {qs : List Quo} {code : List UInt8} {day : Int} {i : Nat} {q : Quo} (hq : qs[i]? = some q) (h : (q.code == code) = true) (h2 : decide (q.day <= day) = false) : a4x qs code day (i + 1) = (true, (a4x qs code day i).2) := by
 rw [a4x, hq]; simp only [h, h2, Bool.false_and]; rfl
theorem b9q {qs : List Quo} {code : List UInt8} {day : Int} {i : Nat} {q : Quo} (hq : qs[i]? = some q) (h : (q.code == code) = true) (h2 : decide (q.day <= day) = true) (h3 : (a4x qs code day i).2 = none) : a4x qs code day (i + 1) = (true, some i) := by
 rw [a4x, hq]; simp only [h, h2, h3]; rfl
theorem c3j {qs : List Quo} {code : List UInt8} {day : Int} {i b : Nat} {q : Quo} (hq : qs[i]? = some q) (h : (q.code == code) = true) (h2 : decide (q.day <= day) = true) (h3 : (a4x qs code day i).2 = some b) (h4 : decide (c0w qs b < q.day) = true) :
  a4x qs code day (i + 1) = (true, some i) := by
 rw [a4x, hq]; simp only [h, h2, h3, h4]; rfl
theorem c3h {qs : List Quo} {code : List UInt8} {day : Int} {i b : Nat} {q : Quo} (hq : qs[i]? = some q) (h : (q.code == code) = true) (h2 : decide (q.day <= day) = true) (h3 : (a4x qs code day i).2 = some b) (h4 : decide (c0w qs b < q.day) = false) :
  a4x qs code day (i + 1) = (true, some b) := by
 rw [a4x, hq]; simp only [h, h2, h3, h4]; rfl
def a2z (qs : List Quo) (code : List UInt8) (day : Int) : Trip × Int :=
 if a3t qs ≠ 0 then (b4b, a3t qs) else if !dayB day then (b4b, 1) else if code == eur then (oneT, 0) else
  match a4x qs code day qs.length with
  | (false, _) => (b4b, 8)
  | (true, none) => (b4b, 9)
  | (true, some b) => (match qs[b]? with | some q => q.trip | none => b4b, 0)
theorem b8t {qs : List Quo} {code : List UInt8} {day n : Int} (h : a3t qs = n) (hn : n ≠ 0) : a2z qs code day = (b4b, n) := by
 unfold a2z; rw [h, if_pos hn]
theorem c5x {qs : List Quo} {code : List UInt8} {day : Int} (h : a3t qs = 0) (h2 : dayB day = false) : a2z qs code day = (b4b, 1) := by
 unfold a2z; rw [h, if_neg (by decide), h2]; rfl
theorem c1w {qs : List Quo} {code : List UInt8} {day : Int} (h : a3t qs = 0) (h2 : dayB day = true) (h3 : (code == eur) = true) : a2z qs code day = (oneT, 0) := by
 unfold a2z; rw [h, if_neg (by decide), h2, h3]; rfl
theorem b6a {qs : List Quo} {code : List UInt8} {day : Int} (h : a3t qs = 0) (h2 : dayB day = true) (h3 : (code == eur) = false) : a2z qs code day = match a4x qs code day qs.length with
  | (false, _) => (b4b, 8)
  | (true, none) => (b4b, 9)
  | (true, some b) => (match qs[b]? with | some q => q.trip | none => b4b, 0) := by
 unfold a2z; rw [h, if_neg (by decide), h2, h3]; rfl
theorem b3s {qs : List Quo} {code : List UInt8} {day : Int} {o : Option Nat} (h : a3t qs = 0) (h2 : dayB day = true) (h3 : (code == eur) = false) (h4 : a4x qs code day qs.length = (false, o)) : a2z qs code day = (b4b, 8) := by
 rw [b6a h h2 h3, h4]
theorem c1v {qs : List Quo} {code : List UInt8} {day : Int} (h : a3t qs = 0) (h2 : dayB day = true) (h3 : (code == eur) = false) (h4 : a4x qs code day qs.length = (true, none)) : a2z qs code day = (b4b, 9) := by
 rw [b6a h h2 h3, h4]
theorem c1u {qs : List Quo} {code : List UInt8} {day : Int} {b : Nat} {q : Quo} (h : a3t qs = 0) (h2 : dayB day = true) (h3 : (code == eur) = false) (h4 : a4x qs code day qs.length = (true, some b)) (hq : qs[b]? = some q) : a2z qs code day = (q.trip, 0) := by
 rw [b6a h h2 h3, h4]; simp only [hq]
open Go.RowKit
theorem Raw.drewN {w : World} {g : Nat} {neg : Bool} {num den : List UInt8} (h : Raw w g neg num den) (n : Nat) : Raw (w.drewN n) g neg num den := h
def a8w (o : Option Nat) (v : Value) : Prop := match o with | none => v = .int .i64 (-1) | some b => v = .int .i64 (b : Nat)
theorem c3x : rat ((1 : Int) : Rat) = raw false [1] [] := c4c
theorem c1t (w : World) : Calls Tryz.prog 13 #[.int .i64 1] w fun e w' => e = .returned (raw false [1] []) /\ Below w.heap.size w w' := by
 rw [<- c3x]; exact a4z 1 w (by decide) (by decide)
theorem ref_One' (w : World) : Calls Tryz.prog 126 #[] w fun e w' => e = .returned (raw false [1] []) /\ Below w.heap.size w w' := by
 rw [<- c4c]; exact ref_One w
theorem b2e (v : Value) (qs : List Quo) (code : List UInt8) (day : Int) (w : World) (h : a3f w v qs) (hok : ∀ q ∈ qs, q.ok) :
  Calls Tryz.prog 70 #[v, .string (bs code), .int .i64 day] w fun e w' => e = .returned (.tuple #[(a2z qs code day).1.val, .int .i64 (a2z qs code day).2]) /\ Below w.heap.size w w' := by
 have k0 : Raw (w.alloc (Obj.cells #[.bool false, .string (bs []), .string (bs [])] 40)) w.heap.size false [] [] := Blk.new w _ _
 have hbw : Hid (Below w.heap.size w (w.alloc (Obj.cells #[.bool false, .string (bs []), .string (bs [])] 40))) := Ext.alloc (Below.refl _ _) _
 have H := zh h
 have hC := fun W (hb : Below w.heap.size w W) => b8d v qs W (h.below hb) hok
 have hD := fun W => b0x day W
 obtain ⟨A, c, rfl, hl, hc⟩ := h.slice
 obtain ⟨n, hn⟩ : ∃ n, n = a3t qs := ⟨_, rfl⟩
 obtain ⟨dB, hdB⟩ : ∃ x, x = dayB day := ⟨_, rfl⟩
 obtain ⟨eB, heB⟩ : ∃ x, x = (code == eur) := ⟨_, rfl⟩
 have fe : ((bs code).toList == [69, 85, 82]) = eB := by rw [a1q]; exact heB.symm
 rw [<- hn] at hC
 rw [<- hdB] at hD
 have HC := zh hC
 have HD := zh hD
 have HDB := zh hdB.symm
 have HEB := zh heB.symm
 have HN := zh hn.symm
 have K0 := zh k0
 clear h hok hC hD hn hdB heB k0
 by_cases h0 : n = 0
 ·subst h0
  cases dB
  ·have HR := zh (c5x (code := code) HN.out HDB.out)
   clear fe
   go_enter Tryz.func70, Tryz.ntmps70
   go_wp2_with fail
   refine (HC.out _ hbw.out).mono ?_
   rintro e w1 ⟨rfl, hb1⟩
   have k1 := K0.out.below hb1 (Raw.lt K0.out)
   have z0 := k1.frozen 0
   have z1 := k1.frozen 1
   have z2 := k1.frozen 2
   have d0 := k1.c0
   have d1 := k1.c1
   have d2 := k1.c2
   have K1 := zh k1
   have HB := zh (Ext.trans hbw.out hb1)
   clear k1 hb1
   go_wp2_with (go_at_call 114; with_reducible refine (HD.out _).mono ?_; rintro e w' ⟨rfl, rfl⟩)
   refine bodyPost_ret (a0k rfl _ _ _ _ _ _ rfl (K1.out.put _ _ _)) rfl ?_
   rw [HR.out]
   exact ⟨rfl, a0p HB.out (Nat.le_refl _) _ _ _⟩
  cases eB
  rotate_left
  ·have HR := zh (c1w HN.out HDB.out HEB.out)
   go_enter Tryz.func70, Tryz.ntmps70
   go_wp2_with fail
   refine (HC.out _ hbw.out).mono ?_
   rintro e w1 ⟨rfl, hb1⟩
   go_wp2_with (go_at_call 114; with_reducible refine (HD.out _).mono ?_; rintro e w' ⟨rfl, rfl⟩)
   refine (c1t _).mono ?_
   rintro e w2 ⟨rfl, hb2⟩
   have hb12 := Ext.trans hb1 hb2
   have k1 := K0.out.below hb12 (Raw.lt K0.out)
   have z0 := k1.frozen 0
   have z1 := k1.frozen 1
   have z2 := k1.frozen 2
   have d0 := k1.c0
   have d1 := k1.c1
   have d2 := k1.c2
   have K1 := zh k1
   have HB := zh (Ext.trans hbw.out hb12)
   clear k1 hb1 hb2 hb12
   unfold raw
   go_wp2
   refine bodyPost_ret (a0k rfl _ _ _ _ _ _ rfl (K1.out.put _ _ _)) rfl ?_
   rw [HR.out]
   exact ⟨rfl, a0p HB.out (Nat.le_refl _) _ _ _⟩
  go_enter Tryz.func70, Tryz.ntmps70
  go_wp2_with fail
  refine (HC.out _ hbw.out).mono ?_
  rintro e w1 ⟨rfl, hb1⟩
  have K1 := zh (K0.out.below hb1 (Raw.lt K0.out))
  have HB := zh (Ext.trans hbw.out hb1)
  clear hb1
  go_wp2_with (go_at_call 114; with_reducible refine (HD.out _).mono ?_; rintro e w' ⟨rfl, rfl⟩)
  clear fe
  go_loopw [9, 10, 28] (fun kn be ct wr => ∃ (i' : Nat) (k : Bool) (o : Option Nat), i' <= qs.length /\ ct = .int .i64 i' /\ kn = .bool k /\ a8w o be /\ Hid (a4x qs code day i' = (k, o)) /\ Hid (Raw wr w.heap.size false [] []) /\ Below w.heap.size w wr) (fun _ _ ct _ => qs.length - (intOf ct).toNat)
  case atStart => exact ⟨0, false, none, Nat.zero_le _, rfl, rfl, rfl, rfl, K1.out, HB.out⟩
  case round =>
   obtain ⟨i, k, o, hi, rfl, rfl, ho, hbest, HRW, hb⟩ := hrel
   by_cases hlt : i < qs.length
   ·obtain ⟨b, o0, q, rfl, hbb, hq, hx⟩ := H.out.at_ hlt
    have x0 := hx wr hb 0 _ rfl
    rw [Nat.add_zero] at x0
    have x1 := hx wr hb 1 _ rfl
    have x2 := hx wr hb 2 _ rfl
    have x3 := hx wr hb 3 _ rfl
    have x4 := hx wr hb 4 _ rfl
    obtain ⟨cB, hcB⟩ : ∃ x, x = (q.code == code) := ⟨_, rfl⟩
    have fc : ((bs q.code).toList == (bs code).toList) = cB := by rw [a1q, a1q]; exact hcB.symm
    obtain ⟨lB, hlB⟩ : ∃ x, x = decide (q.day <= day) := ⟨_, rfl⟩
    have fl : decide (q.day <= day) = lB := hlB.symm
    have hk2 : (a4x qs code day i).2 = o := by rw [hbest.out]
    have HQ := zh hq
    have HCB := zh hcB.symm
    have HLB := zh hlB.symm
    have HK2 := zh hk2
    clear hx hq hcB hlB hk2
    cases cB
    ·clear fl
     go_wp2
     go_roundw
     case rel => exact ⟨i + 1, _, _, by omega, by go_num, rfl, ho, by show _ = _; rw [b9p HQ.out HCB.out]; exact hbest.out, (HRW.out.alloc _), (hb.alloc hb.size _)⟩
     case measure => simp [intOf]; omega
    cases lB
    ·rcases o with _ | bi
     ·have hv : _ = Value.int .i64 (-1) := ho
      subst hv
      go_wp2
      go_quiet (fail)
      go_wp2
      go_roundw
      case rel => exact ⟨i + 1, _, _, by omega, by go_num, rfl, (show a8w none _ from rfl), by show _ = _; rw [b2j HQ.out HCB.out HLB.out, HK2.out], (Raw.drewN (HRW.out.alloc _) _), (a0h (hb.alloc hb.size _) _)⟩
      case measure => simp [intOf]; omega
     have hv : _ = Value.int .i64 (bi : Nat) := ho
     subst hv
     have hbl := a9v qs code day i bi HK2.out
     go_wp2
     go_quiet (fail)
     go_wp2
     go_roundw
     case rel => exact ⟨i + 1, _, _, by omega, by go_num, rfl, (show a8w (some bi) _ from rfl), by show _ = _; rw [b2j HQ.out HCB.out HLB.out, HK2.out], (Raw.drewN (HRW.out.alloc _) _), (a0h (hb.alloc hb.size _) _)⟩
     case measure => simp [intOf]; omega
    rcases o with _ | bi
    ·have hv : _ = Value.int .i64 (-1) := ho
     subst hv
     go_wp2
     go_quiet (fail)
     go_wp2
     go_roundw
     case rel => exact ⟨i + 1, _, _, by omega, by go_num, rfl, (show a8w (some i) _ from rfl), by show _ = _; rw [b9q HQ.out HCB.out HLB.out HK2.out], (Raw.drewN (HRW.out.alloc _) _), (a0h (hb.alloc hb.size _) _)⟩
     case measure => simp [intOf]; omega
    have hv : _ = Value.int .i64 (bi : Nat) := ho
    subst hv
    have hbl := a9v qs code day i bi HK2.out
    have hbi := hbl.2
    obtain ⟨b', o', p, e, _, hp, hy⟩ := H.out.at_ hbi
    injection e with e
    injection e with e1 e2
    subst e1
    subst e2
    have y1 := hy wr hb 1 _ rfl
    have y1' := hy (wr.alloc (Obj.cells #[.string (bs q.code), .int .i64 q.day, .bool q.neg, .string (bs q.num), .string (bs q.den)] 52)) (hb.alloc hb.size _) 1 _ rfl
    have hbI : ((bi : Nat) : Int) < (qs.length : Int) := by omega
    have hb0 : (0 : Int) <= ((bi : Nat) : Int) := by omega
    have hneg : decide (((bi : Nat) : Int) < 0) = false := decide_eq_false (by omega)
    have hda : c0w qs bi = p.day := by unfold c0w; rw [hp]
    obtain ⟨gB, hgB⟩ : ∃ x, x = decide (p.day < q.day) := ⟨_, rfl⟩
    have fg : decide (p.day < q.day) = gB := hgB.symm
    have HG : Hid (decide (c0w qs bi < q.day) = gB) := by show _ = _; rw [hda]; exact fg
    clear hgB hda hp hy hbl
    cases gB
    ·go_wp2
     go_quiet (fail)
     go_wp2
     go_roundw
     case rel => exact ⟨i + 1, _, _, by omega, by go_num, rfl, (show a8w (some bi) _ from rfl), by show _ = _; rw [c3h HQ.out HCB.out HLB.out HK2.out HG.out], (Raw.drewN (HRW.out.alloc _) _), (a0h (hb.alloc hb.size _) _)⟩
     case measure => simp [intOf]; omega
    go_wp2
    go_quiet (fail)
    go_wp2
    go_roundw
    case rel => exact ⟨i + 1, _, _, by omega, by go_num, rfl, (show a8w (some i) _ from rfl), by show _ = _; rw [c3j HQ.out HCB.out HLB.out HK2.out HG.out], (Raw.drewN (HRW.out.alloc _) _), (a0h (hb.alloc hb.size _) _)⟩
    case measure => simp [intOf]; omega
   have hi' : i = qs.length := by omega
   subst hi'
   have z0 := HRW.out.frozen 0
   have z1 := HRW.out.frozen 1
   have z2 := HRW.out.frozen 2
   have d0 := HRW.out.c0
   have d1 := HRW.out.c1
   have d2 := HRW.out.c2
   cases k
   ·have HR := zh (b3s HN.out HDB.out HEB.out hbest.out)
    go_wp2
    refine bodyPost_ret (a0k rfl _ _ _ _ _ _ rfl (HRW.out.put _ _ _)) rfl ?_
    rw [HR.out]
    exact ⟨rfl, a0p hb (Nat.le_refl _) _ _ _⟩
   rcases o with _ | bi
   ·have hv : _ = Value.int .i64 (-1) := ho
    subst hv
    have HR := zh (c1v HN.out HDB.out HEB.out hbest.out)
    go_wp2
    refine bodyPost_ret (a0k rfl _ _ _ _ _ _ rfl (HRW.out.put _ _ _)) rfl ?_
    rw [HR.out]
    exact ⟨rfl, a0p hb (Nat.le_refl _) _ _ _⟩
   have hv : _ = Value.int .i64 (bi : Nat) := ho
   subst hv
   have hbl := a9v qs code day qs.length bi (by rw [hbest.out])
   have hbi := hbl.2
   obtain ⟨b', o', p, rfl, _, hp, hy⟩ := H.out.at_ hbi
   have y2 := hy wr hb 2 _ rfl
   have y3 := hy wr hb 3 _ rfl
   have y4 := hy wr hb 4 _ rfl
   have hneg : decide (((bi : Nat) : Int) < 0) = false := decide_eq_false (by omega)
   have HR := zh (c1u HN.out HDB.out HEB.out hbest.out hp)
   clear hp hy hbl
   go_wp2
   refine bodyPost_ret (a0k rfl _ _ _ _ _ _ rfl (HRW.out.put _ _ _)) rfl ?_
   rw [HR.out]
   exact ⟨rfl, a0p hb (Nat.le_refl _) _ _ _⟩
 have HR := zh (b8t (code := code) (day := day) HN.out h0)
 have hn0 : (n == 0) = false := by rw [beq_eq_false_iff_ne]; exact h0
 have hn1 : (n != 0) = true := by rw [bne, hn0]; rfl
 clear fe
 go_enter Tryz.func70, Tryz.ntmps70
 go_wp2_with fail
 refine (HC.out _ hbw.out).mono ?_
 rintro e w1 ⟨rfl, hb1⟩
 have k1 := K0.out.below hb1 (Raw.lt K0.out)
 have z0 := k1.frozen 0
 have z1 := k1.frozen 1
 have z2 := k1.frozen 2
 have d0 := k1.c0
 have d1 := k1.c1
 have d2 := k1.c2
 have K1 := zh k1
 have HB := zh (Ext.trans hbw.out hb1)
 clear k1 hb1
 go_wp2
 refine bodyPost_ret (a0k rfl _ _ _ _ _ _ rfl (K1.out.put _ _ _)) rfl ?_
 rw [HR.out]
 exact ⟨rfl, a0p HB.out (Nat.le_refl _) _ _ _⟩
theorem a8u (v : Value) (qs : List Quo) (code : List UInt8) (day : Int) (w : World) (h : a3f w v qs) (hok : ∀ q ∈ qs, q.ok) :
  Calls Tryz.prog 83 #[v, .string (bs code), .int .i64 day] w fun e w' => e = .returned (.tuple #[(a2z qs code day).1.val, .int .i64 (a2z qs code day).2]) /\ Below w.heap.size w w' := by
 have k0 : Raw (w.alloc (Obj.cells #[.bool false, .string (bs []), .string (bs [])] 40)) w.heap.size false [] [] := Blk.new w _ _
 have hbw : Hid (Below w.heap.size w (w.alloc (Obj.cells #[.bool false, .string (bs []), .string (bs [])] 40))) := Ext.alloc (Below.refl _ _) _
 have H := zh h
 have hC := fun W (hb : Below w.heap.size w W) => b5u v qs W (h.below hb) hok
 have hD := fun W => a3p day W
 obtain ⟨A, c, rfl, hl, hc⟩ := h.slice
 obtain ⟨n, hn⟩ : ∃ n, n = a3t qs := ⟨_, rfl⟩
 obtain ⟨dB, hdB⟩ : ∃ x, x = dayB day := ⟨_, rfl⟩
 obtain ⟨eB, heB⟩ : ∃ x, x = (code == eur) := ⟨_, rfl⟩
 have fe : ((bs code).toList == [69, 85, 82]) = eB := by rw [a1q]; exact heB.symm
 rw [<- hn] at hC
 rw [<- hdB] at hD
 have HC := zh hC
 have HD := zh hD
 have HDB := zh hdB.symm
 have HEB := zh heB.symm
 have HN := zh hn.symm
 have K0 := zh k0
 clear h hok hC hD hn hdB heB k0
 by_cases h0 : n = 0
 ·subst h0
  cases dB
  ·have HR := zh (c5x (code := code) HN.out HDB.out)
   clear fe
   go_enter Tryz.func83, Tryz.ntmps83
   go_wp2_with fail
   refine (HC.out _ hbw.out).mono ?_
   rintro e w1 ⟨rfl, hb1⟩
   have k1 := K0.out.below hb1 (Raw.lt K0.out)
   have z0 := k1.frozen 0
   have z1 := k1.frozen 1
   have z2 := k1.frozen 2
   have d0 := k1.c0
   have d1 := k1.c1
   have d2 := k1.c2
   have K1 := zh k1
   have HB := zh (Ext.trans hbw.out hb1)
   clear k1 hb1
   go_wp2_with (go_at_call 23; with_reducible refine (HD.out _).mono ?_; rintro e w' ⟨rfl, rfl⟩)
   refine bodyPost_ret (a0k rfl _ _ _ _ _ _ rfl (K1.out.put _ _ _)) rfl ?_
   rw [HR.out]
   exact ⟨rfl, a0p HB.out (Nat.le_refl _) _ _ _⟩
  cases eB
  rotate_left
  ·have HR := zh (c1w HN.out HDB.out HEB.out)
   go_enter Tryz.func83, Tryz.ntmps83
   go_wp2_with fail
   refine (HC.out _ hbw.out).mono ?_
   rintro e w1 ⟨rfl, hb1⟩
   go_wp2_with (go_at_call 23; with_reducible refine (HD.out _).mono ?_; rintro e w' ⟨rfl, rfl⟩)
   refine (ref_One' _).mono ?_
   rintro e w2 ⟨rfl, hb2⟩
   have hb12 := Ext.trans hb1 hb2
   have k1 := K0.out.below hb12 (Raw.lt K0.out)
   have z0 := k1.frozen 0
   have z1 := k1.frozen 1
   have z2 := k1.frozen 2
   have d0 := k1.c0
   have d1 := k1.c1
   have d2 := k1.c2
   have K1 := zh k1
   have HB := zh (Ext.trans hbw.out hb12)
   clear k1 hb1 hb2 hb12
   unfold raw
   go_wp2
   refine bodyPost_ret (a0k rfl _ _ _ _ _ _ rfl (K1.out.put _ _ _)) rfl ?_
   rw [HR.out]
   exact ⟨rfl, a0p HB.out (Nat.le_refl _) _ _ _⟩
  go_enter Tryz.func83, Tryz.ntmps83
  go_wp2_with fail
  refine (HC.out _ hbw.out).mono ?_
  rintro e w1 ⟨rfl, hb1⟩
  have K1 := zh (K0.out.below hb1 (Raw.lt K0.out))
  have HB := zh (Ext.trans hbw.out hb1)
  clear hb1
  go_wp2_with (go_at_call 23; with_reducible refine (HD.out _).mono ?_; rintro e w' ⟨rfl, rfl⟩)
  clear fe
  go_loopw [9, 10, 11] (fun kn be ct wr => ∃ (i' : Nat) (k : Bool) (o : Option Nat), i' <= qs.length /\ ct = .int .i64 i' /\ kn = .bool k /\ a8w o be /\ Hid (a4x qs code day i' = (k, o)) /\ Hid (Raw wr w.heap.size false [] []) /\ Below w.heap.size w wr) (fun _ _ ct _ => qs.length - (intOf ct).toNat)
  case atStart => exact ⟨0, false, none, Nat.zero_le _, rfl, rfl, rfl, rfl, K1.out, HB.out⟩
  case round =>
   obtain ⟨i, k, o, hi, rfl, rfl, ho, hbest, HRW, hb⟩ := hrel
   by_cases hlt : i < qs.length
   ·obtain ⟨b, o0, q, rfl, hbb, hq, hx⟩ := H.out.at_ hlt
    have x0 := hx wr hb 0 _ rfl
    rw [Nat.add_zero] at x0
    have x1 := hx wr hb 1 _ rfl
    have x2 := hx wr hb 2 _ rfl
    have x3 := hx wr hb 3 _ rfl
    have x4 := hx wr hb 4 _ rfl
    obtain ⟨cB, hcB⟩ : ∃ x, x = (q.code == code) := ⟨_, rfl⟩
    have fc : ((bs q.code).toList == (bs code).toList) = cB := by rw [a1q, a1q]; exact hcB.symm
    obtain ⟨lB, hlB⟩ : ∃ x, x = decide (q.day <= day) := ⟨_, rfl⟩
    have fl : decide (q.day <= day) = lB := hlB.symm
    have hk2 : (a4x qs code day i).2 = o := by rw [hbest.out]
    have HQ := zh hq
    have HCB := zh hcB.symm
    have HLB := zh hlB.symm
    have HK2 := zh hk2
    clear hx hq hcB hlB hk2
    cases cB
    ·clear fl
     go_wp2
     go_roundw
     case rel => exact ⟨i + 1, _, _, by omega, by go_num, rfl, ho, by show _ = _; rw [b9p HQ.out HCB.out]; exact hbest.out, HRW.out, hb⟩
     case measure => simp [intOf]; omega
    cases lB
    ·rcases o with _ | bi
     ·have hv : _ = Value.int .i64 (-1) := ho
      subst hv
      go_wp2
      go_quiet (fail)
      go_wp2
      go_roundw
      case rel => exact ⟨i + 1, _, _, by omega, by go_num, rfl, (show a8w none _ from rfl), by show _ = _; rw [b2j HQ.out HCB.out HLB.out, HK2.out], (Raw.drewN HRW.out _), (a0h hb _)⟩
      case measure => simp [intOf]; omega
     have hv : _ = Value.int .i64 (bi : Nat) := ho
     subst hv
     have hbl := a9v qs code day i bi HK2.out
     go_wp2
     go_quiet (fail)
     go_wp2
     go_roundw
     case rel => exact ⟨i + 1, _, _, by omega, by go_num, rfl, (show a8w (some bi) _ from rfl), by show _ = _; rw [b2j HQ.out HCB.out HLB.out, HK2.out], (Raw.drewN HRW.out _), (a0h hb _)⟩
     case measure => simp [intOf]; omega
    rcases o with _ | bi
    ·have hv : _ = Value.int .i64 (-1) := ho
     subst hv
     go_wp2
     go_quiet (fail)
     go_wp2
     go_roundw
     case rel => exact ⟨i + 1, _, _, by omega, by go_num, rfl, (show a8w (some i) _ from rfl), by show _ = _; rw [b9q HQ.out HCB.out HLB.out HK2.out], (Raw.drewN HRW.out _), (a0h hb _)⟩
     case measure => simp [intOf]; omega
    have hv : _ = Value.int .i64 (bi : Nat) := ho
    subst hv
    have hbl := a9v qs code day i bi HK2.out
    have hbi := hbl.2
    obtain ⟨b', o', p, e, _, hp, hy⟩ := H.out.at_ hbi
    injection e with e
    injection e with e1 e2
    subst e1
    subst e2
    have y1 := hy wr hb 1 _ rfl
    have hbI : ((bi : Nat) : Int) < (qs.length : Int) := by omega
    have hb0 : (0 : Int) <= ((bi : Nat) : Int) := by omega
    have hneg : decide (((bi : Nat) : Int) < 0) = false := decide_eq_false (by omega)
    have hda : c0w qs bi = p.day := by unfold c0w; rw [hp]
    obtain ⟨gB, hgB⟩ : ∃ x, x = decide (p.day < q.day) := ⟨_, rfl⟩
    have fg : decide (p.day < q.day) = gB := hgB.symm
    have HG : Hid (decide (c0w qs bi < q.day) = gB) := by show _ = _; rw [hda]; exact fg
    clear hgB hda hp hy hbl
    cases gB
    ·go_wp2
     go_quiet (fail)
     go_wp2
     go_roundw
     case rel => exact ⟨i + 1, _, _, by omega, by go_num, rfl, (show a8w (some bi) _ from rfl), by show _ = _; rw [c3h HQ.out HCB.out HLB.out HK2.out HG.out], (Raw.drewN HRW.out _), (a0h hb _)⟩
     case measure => simp [intOf]; omega
    go_wp2
    go_quiet (fail)
    go_wp2
    go_roundw
    case rel => exact ⟨i + 1, _, _, by omega, by go_num, rfl, (show a8w (some i) _ from rfl), by show _ = _; rw [c3j HQ.out HCB.out HLB.out HK2.out HG.out], (Raw.drewN HRW.out _), (a0h hb _)⟩
    case measure => simp [intOf]; omega
   have hi' : i = qs.length := by omega
   subst hi'
   have z0 := HRW.out.frozen 0
   have z1 := HRW.out.frozen 1
   have z2 := HRW.out.frozen 2
   have d0 := HRW.out.c0
   have d1 := HRW.out.c1
   have d2 := HRW.out.c2
   cases k
   ·have HR := zh (b3s HN.out HDB.out HEB.out hbest.out)
    go_wp2
    refine bodyPost_ret (a0k rfl _ _ _ _ _ _ rfl (HRW.out.put _ _ _)) rfl ?_
    rw [HR.out]
    exact ⟨rfl, a0p hb (Nat.le_refl _) _ _ _⟩
   rcases o with _ | bi
   ·have hv : _ = Value.int .i64 (-1) := ho
    subst hv
    have HR := zh (c1v HN.out HDB.out HEB.out hbest.out)
    go_wp2
    refine bodyPost_ret (a0k rfl _ _ _ _ _ _ rfl (HRW.out.put _ _ _)) rfl ?_
    rw [HR.out]
    exact ⟨rfl, a0p hb (Nat.le_refl _) _ _ _⟩
   have hv : _ = Value.int .i64 (bi : Nat) := ho
   subst hv
   have hbl := a9v qs code day qs.length bi (by rw [hbest.out])
   have hbi := hbl.2
   obtain ⟨b', o', p, rfl, _, hp, hy⟩ := H.out.at_ hbi
   have y2 := hy wr hb 2 _ rfl
   have y3 := hy wr hb 3 _ rfl
   have y4 := hy wr hb 4 _ rfl
   have hneg : decide (((bi : Nat) : Int) < 0) = false := decide_eq_false (by omega)
   have HR := zh (c1u HN.out HDB.out HEB.out hbest.out hp)
   clear hp hy hbl
   go_wp2
   refine bodyPost_ret (a0k rfl _ _ _ _ _ _ rfl (HRW.out.put _ _ _)) rfl ?_
   rw [HR.out]
   exact ⟨rfl, a0p hb (Nat.le_refl _) _ _ _⟩
 have HR := zh (b8t (code := code) (day := day) HN.out h0)
 have hn0 : (n == 0) = false := by rw [beq_eq_false_iff_ne]; exact h0
 have hn1 : (n != 0) = true := by rw [bne, hn0]; rfl
 clear fe
 go_enter Tryz.func83, Tryz.ntmps83
 go_wp2_with fail
 refine (HC.out _ hbw.out).mono ?_
 rintro e w1 ⟨rfl, hb1⟩
 have k1 := K0.out.below hb1 (Raw.lt K0.out)
 have z0 := k1.frozen 0
 have z1 := k1.frozen 1
 have z2 := k1.frozen 2
 have d0 := k1.c0
 have d1 := k1.c1
 have d2 := k1.c2
 have K1 := zh k1
 have HB := zh (Ext.trans hbw.out hb1)
 clear k1 hb1
 go_wp2
 refine bodyPost_ret (a0k rfl _ _ _ _ _ _ rfl (K1.out.put _ _ _)) rfl ?_
 rw [HR.out]
 exact ⟨rfl, a0p HB.out (Nat.le_refl _) _ _ _⟩
end Go.Proofs.YtoighiepglclkaaGreatDoor
