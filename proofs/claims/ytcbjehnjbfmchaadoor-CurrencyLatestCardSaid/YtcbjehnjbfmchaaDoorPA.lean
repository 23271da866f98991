/-
The rate of a currency on a day, in plain Lean.
-/
import Derived.Test.YtcbjehnjbfmchaaDoorP8
import Derived.Test.YtcbjehnjbfmchaaDoorP9
import Derived.DeepKeys
import Derived.Deep.OwnRows
import Derived.Deep.RegionHeld3
namespace Go.Proofs.YtcbjehnjbfmchaaDoor

/-- A rational number as it lies in memory. -/
structure Trip where
  neg : Bool
  num : List UInt8
  den : List UInt8
def Trip.val (t : Trip) : Value := raw t.neg t.num t.den
def Trip.rat (t : Trip) : Rat := decR t.neg t.num t.den
def zeroT : Trip := ⟨false, [], []⟩
def oneT : Trip := ⟨false, [1], []⟩
def Quo.trip (q : Quo) : Trip := ⟨q.neg, q.num, q.den⟩

def dayAt (qs : List Quo) (b : Nat) : Int := match qs[b]? with | some q => q.day | none => 0
/-- What the first i quotes say of a currency: is it known; which quote is the latest one that is not after the day. -/
def bestQ (qs : List Quo) (code : List UInt8) (day : Int) : Nat → Bool × Option Nat
  | 0 => (false, none)
  | i + 1 => match qs[i]? with
    | none => bestQ qs code day i
    | some q => if q.code == code then (true, if decide (q.day ≤ day) && (match (bestQ qs code day i).2 with | none => true | some b => decide (dayAt qs b < q.day)) then some i else (bestQ qs code day i).2)
      else bestQ qs code day i
def bestI : Option Nat → Int
  | none => -1
  | some b => b
theorem ite_some {c : Bool} {i b : Nat} {o : Option Nat} (h : (if c = true then some i else o) = some b) : b = i ∨ o = some b := by
  cases c
  · right; simpa using h
  · left; injection h with h; exact h.symm
theorem best_lt (qs : List Quo) (code : List UInt8) (day : Int) : ∀ (i b : Nat), (bestQ qs code day i).2 = some b → b < i ∧ b < qs.length
  | 0, b, h => by simp [bestQ] at h
  | i + 1, b, h => by
    unfold bestQ at h
    have ih := best_lt qs code day i b
    split at h
    · have := ih h; omega
    · rename_i q hq
      have hi := (List.getElem?_eq_some_iff.1 hq).1
      split at h
      · rcases ite_some h with h | h
        · omega
        · have := ih h; omega
      · have := ih h; omega
theorem best_other {qs : List Quo} {code : List UInt8} {day : Int} {i : Nat} {q : Quo} (hq : qs[i]? = some q) (h : (q.code == code) = false) : bestQ qs code day (i + 1) = bestQ qs code day i := by
  rw [bestQ, hq]; simp [h]
theorem best_late {qs : List Quo} {code : List UInt8} {day : Int} {i : Nat} {q : Quo} (hq : qs[i]? = some q) (h : (q.code == code) = true) (h2 : decide (q.day ≤ day) = false) : bestQ qs code day (i + 1) = (true, (bestQ qs code day i).2) := by
  rw [bestQ, hq]; simp only [h, h2, Bool.false_and]; rfl
theorem best_first {qs : List Quo} {code : List UInt8} {day : Int} {i : Nat} {q : Quo} (hq : qs[i]? = some q) (h : (q.code == code) = true) (h2 : decide (q.day ≤ day) = true) (h3 : (bestQ qs code day i).2 = none) : bestQ qs code day (i + 1) = (true, some i) := by
  rw [bestQ, hq]; simp only [h, h2, h3]; rfl
theorem best_next {qs : List Quo} {code : List UInt8} {day : Int} {i b : Nat} {q : Quo} (hq : qs[i]? = some q) (h : (q.code == code) = true) (h2 : decide (q.day ≤ day) = true) (h3 : (bestQ qs code day i).2 = some b) (h4 : decide (dayAt qs b < q.day) = true) :
    bestQ qs code day (i + 1) = (true, some i) := by
  rw [bestQ, hq]; simp only [h, h2, h3, h4]; rfl
theorem best_stay {qs : List Quo} {code : List UInt8} {day : Int} {i b : Nat} {q : Quo} (hq : qs[i]? = some q) (h : (q.code == code) = true) (h2 : decide (q.day ≤ day) = true) (h3 : (bestQ qs code day i).2 = some b) (h4 : decide (dayAt qs b < q.day) = false) :
    bestQ qs code day (i + 1) = (true, some b) := by
  rw [bestQ, hq]; simp only [h, h2, h3, h4]; rfl

/-- The rate of a currency on a day. -/
def rateQ (qs : List Quo) (code : List UInt8) (day : Int) : Trip × Int :=
  if checkQ qs ≠ 0 then (zeroT, checkQ qs) else if !dayB day then (zeroT, 1) else if code == eur then (oneT, 0) else
    match bestQ qs code day qs.length with
    | (false, _) => (zeroT, 8)
    | (true, none) => (zeroT, 9)
    | (true, some b) => (match qs[b]? with | some q => q.trip | none => zeroT, 0)
theorem rate_check {qs : List Quo} {code : List UInt8} {day n : Int} (h : checkQ qs = n) (hn : n ≠ 0) : rateQ qs code day = (zeroT, n) := by
  unfold rateQ; rw [h, if_pos hn]
theorem rate_day {qs : List Quo} {code : List UInt8} {day : Int} (h : checkQ qs = 0) (h2 : dayB day = false) : rateQ qs code day = (zeroT, 1) := by
  unfold rateQ; rw [h, if_neg (by decide), h2]; rfl
theorem rate_base {qs : List Quo} {code : List UInt8} {day : Int} (h : checkQ qs = 0) (h2 : dayB day = true) (h3 : (code == eur) = true) : rateQ qs code day = (oneT, 0) := by
  unfold rateQ; rw [h, if_neg (by decide), h2, h3]; rfl
theorem rate_rest {qs : List Quo} {code : List UInt8} {day : Int} (h : checkQ qs = 0) (h2 : dayB day = true) (h3 : (code == eur) = false) : rateQ qs code day = match bestQ qs code day qs.length with
    | (false, _) => (zeroT, 8)
    | (true, none) => (zeroT, 9)
    | (true, some b) => (match qs[b]? with | some q => q.trip | none => zeroT, 0) := by
  unfold rateQ; rw [h, if_neg (by decide), h2, h3]; rfl
theorem rate_unknown {qs : List Quo} {code : List UInt8} {day : Int} {o : Option Nat} (h : checkQ qs = 0) (h2 : dayB day = true) (h3 : (code == eur) = false) (h4 : bestQ qs code day qs.length = (false, o)) : rateQ qs code day = (zeroT, 8) := by
  rw [rate_rest h h2 h3, h4]
theorem rate_none {qs : List Quo} {code : List UInt8} {day : Int} (h : checkQ qs = 0) (h2 : dayB day = true) (h3 : (code == eur) = false) (h4 : bestQ qs code day qs.length = (true, none)) : rateQ qs code day = (zeroT, 9) := by
  rw [rate_rest h h2 h3, h4]
theorem rate_some {qs : List Quo} {code : List UInt8} {day : Int} {b : Nat} {q : Quo} (h : checkQ qs = 0) (h2 : dayB day = true) (h3 : (code == eur) = false) (h4 : bestQ qs code day qs.length = (true, some b)) (hq : qs[b]? = some q) : rateQ qs code day = (q.trip, 0) := by
  rw [rate_rest h h2 h3, h4]; simp only [hq]
end Go.Proofs.YtcbjehnjbfmchaaDoor

/-
The rate of a currency on a day: the program's and the document's.
-/
namespace Go.Proofs.YtcbjehnjbfmchaaDoor
open Go.RowKit

theorem Raw.drewN {w : World} {g : Nat} {neg : Bool} {num den : List UInt8} (h : Raw w g neg num den) (n : Nat) : Raw (w.drewN n) g neg num den := h
/-- How the index of the best quote lies in its variable. -/
def BestIs (o : Option Nat) (v : Value) : Prop := match o with | none => v = .int .i64 (-1) | some b => v = .int .i64 (b : Nat)
theorem rat_int_one : rat ((1 : Int) : Rat) = raw false [1] [] := one_enc
theorem rational_One (w : World) : Calls Tryd.prog 21 #[.int .i64 1] w fun e w' => e = .returned (raw false [1] []) ∧ Below w.heap.size w w' := by
  rw [← rat_int_one]; exact rational_Int 1 w (by decide) (by decide)
theorem ref_One' (w : World) : Calls Tryd.prog 54 #[] w fun e w' => e = .returned (raw false [1] []) ∧ Below w.heap.size w w' := by
  rw [← one_enc]; exact ref_One w

set_option maxRecDepth 100000 in
set_option maxHeartbeats 2000000 in
theorem currency_Rate (v : Value) (qs : List Quo) (code : List UInt8) (day : Int) (w : World) (h : Quotes w v qs) (hok : ∀ q ∈ qs, q.ok) :
    Calls Tryd.prog 22 #[v, .string (bs code), .int .i64 day] w fun e w' => e = .returned (.tuple #[(rateQ qs code day).1.val, .int .i64 (rateQ qs code day).2]) ∧ Below w.heap.size w w' := by
  have k0 : Raw (w.alloc (Obj.cells #[.bool false, .string (bs []), .string (bs [])] 30)) w.heap.size false [] [] := Blk.new w _ _
  have hbw : Hid (Below w.heap.size w (w.alloc (Obj.cells #[.bool false, .string (bs []), .string (bs [])] 30))) := Ext.alloc (Below.refl _ _) _
  have H := Lib.hid h
  have hC := fun W (hb : Below w.heap.size w W) => currency_Check v qs W (h.below hb) hok
  have hD := fun W => currency_isDay day W
  obtain ⟨A, c, rfl, hl, hc⟩ := h.slice
  obtain ⟨n, hn⟩ : ∃ n, n = checkQ qs := ⟨_, rfl⟩
  obtain ⟨dB, hdB⟩ : ∃ x, x = dayB day := ⟨_, rfl⟩
  obtain ⟨eB, heB⟩ : ∃ x, x = (code == eur) := ⟨_, rfl⟩
  have fe : ((bs code).toList == [69, 85, 82]) = eB := by rw [bs_toList]; exact heB.symm
  rw [← hn] at hC
  rw [← hdB] at hD
  have HC := Lib.hid hC
  have HD := Lib.hid hD
  have HDB := Lib.hid hdB.symm
  have HEB := Lib.hid heB.symm
  have HN := Lib.hid hn.symm
  have K0 := Lib.hid k0
  clear h hok hC hD hn hdB heB k0
  by_cases h0 : n = 0
  · subst h0
    cases dB
    · have HR := Lib.hid (rate_day (code := code) HN.out HDB.out)
      clear fe
      go_enter Tryd.func22, Tryd.ntmps22
      go_wp2_with fail
      refine (HC.out _ hbw.out).mono ?_
      rintro e w1 ⟨rfl, hb1⟩
      have k1 := K0.out.below hb1 (Raw.lt K0.out)
      have z0 := k1.frozen 0
      have z1 := k1.frozen 1
      have z2 := k1.frozen 2
      have d0 := k1.c0
      have d1 := k1.c1
      have d2 := k1.c2
      have K1 := Lib.hid k1
      have HB := Lib.hid (Ext.trans hbw.out hb1)
      clear k1 hb1
      go_wp2_with (go_at_call 47; with_reducible refine (HD.out _).mono ?_; rintro e w' ⟨rfl, rfl⟩)
      refine bodyPost_ret (raw_result2 rfl _ _ _ _ _ _ rfl (K1.out.put _ _ _)) rfl ?_
      rw [HR.out]
      exact ⟨rfl, below_put HB.out (Nat.le_refl _) _ _ _⟩
    · cases eB
      rotate_left
      · have HR := Lib.hid (rate_base HN.out HDB.out HEB.out)
        go_enter Tryd.func22, Tryd.ntmps22
        go_wp2_with fail
        refine (HC.out _ hbw.out).mono ?_
        rintro e w1 ⟨rfl, hb1⟩
        go_wp2_with (go_at_call 47; with_reducible refine (HD.out _).mono ?_; rintro e w' ⟨rfl, rfl⟩)
        refine (rational_One _).mono ?_
        rintro e w2 ⟨rfl, hb2⟩
        have hb12 := Ext.trans hb1 hb2
        have k1 := K0.out.below hb12 (Raw.lt K0.out)
        have z0 := k1.frozen 0
        have z1 := k1.frozen 1
        have z2 := k1.frozen 2
        have d0 := k1.c0
        have d1 := k1.c1
        have d2 := k1.c2
        have K1 := Lib.hid k1
        have HB := Lib.hid (Ext.trans hbw.out hb12)
        clear k1 hb1 hb2 hb12
        unfold raw
        go_wp2
        refine bodyPost_ret (raw_result2 rfl _ _ _ _ _ _ rfl (K1.out.put _ _ _)) rfl ?_
        rw [HR.out]
        exact ⟨rfl, below_put HB.out (Nat.le_refl _) _ _ _⟩
      · go_enter Tryd.func22, Tryd.ntmps22
        go_wp2_with fail
        refine (HC.out _ hbw.out).mono ?_
        rintro e w1 ⟨rfl, hb1⟩
        have K1 := Lib.hid (K0.out.below hb1 (Raw.lt K0.out))
        have HB := Lib.hid (Ext.trans hbw.out hb1)
        clear hb1
        go_wp2_with (go_at_call 47; with_reducible refine (HD.out _).mono ?_; rintro e w' ⟨rfl, rfl⟩)
        clear fe
        go_loopw [9, 10, 28] (fun kn be ct wr => ∃ (i' : Nat) (k : Bool) (o : Option Nat), i' ≤ qs.length ∧ ct = .int .i64 i' ∧ kn = .bool k ∧ BestIs o be ∧ Hid (bestQ qs code day i' = (k, o)) ∧ Hid (Raw wr w.heap.size false [] []) ∧ Below w.heap.size w wr) (fun _ _ ct _ => qs.length - (intOf ct).toNat)
        case atStart => exact ⟨0, false, none, Nat.zero_le _, rfl, rfl, rfl, rfl, K1.out, HB.out⟩
        case round =>
          obtain ⟨i, k, o, hi, rfl, rfl, ho, hbest, HRW, hb⟩ := hrel
          by_cases hlt : i < qs.length
          · obtain ⟨b, o0, q, rfl, hbb, hq, hx⟩ := H.out.at_ hlt
            have x0 := hx wr hb 0 _ rfl
            rw [Nat.add_zero] at x0
            have x1 := hx wr hb 1 _ rfl
            have x2 := hx wr hb 2 _ rfl
            have x3 := hx wr hb 3 _ rfl
            have x4 := hx wr hb 4 _ rfl
            obtain ⟨cB, hcB⟩ : ∃ x, x = (q.code == code) := ⟨_, rfl⟩
            have fc : ((bs q.code).toList == (bs code).toList) = cB := by rw [bs_toList, bs_toList]; exact hcB.symm
            obtain ⟨lB, hlB⟩ : ∃ x, x = decide (q.day ≤ day) := ⟨_, rfl⟩
            have fl : decide (q.day ≤ day) = lB := hlB.symm
            have hk2 : (bestQ qs code day i).2 = o := by rw [hbest.out]
            have HQ := Lib.hid hq
            have HCB := Lib.hid hcB.symm
            have HLB := Lib.hid hlB.symm
            have HK2 := Lib.hid hk2
            clear hx hq hcB hlB hk2
            cases cB
            · clear fl
              go_wp2
              go_roundw
              case rel => exact ⟨i + 1, _, _, by omega, by go_num, rfl, ho, by show _ = _; rw [best_other HQ.out HCB.out]; exact hbest.out, (HRW.out.alloc _), (hb.alloc hb.size _)⟩
              case measure => simp [intOf]; omega
            cases lB
            · rcases o with _ | bi
              · have hv : _ = Value.int .i64 (-1) := ho
                subst hv
                go_wp2
                go_quiet (fail)
                go_wp2
                go_roundw
                case rel => exact ⟨i + 1, _, _, by omega, by go_num, rfl, (show BestIs none _ from rfl), by show _ = _; rw [best_late HQ.out HCB.out HLB.out, HK2.out], (Raw.drewN (HRW.out.alloc _) _), (below_drewN (hb.alloc hb.size _) _)⟩
                case measure => simp [intOf]; omega
              · have hv : _ = Value.int .i64 (bi : Nat) := ho
                subst hv
                have hbl := best_lt qs code day i bi HK2.out
                go_wp2
                go_quiet (fail)
                go_wp2
                go_roundw
                case rel => exact ⟨i + 1, _, _, by omega, by go_num, rfl, (show BestIs (some bi) _ from rfl), by show _ = _; rw [best_late HQ.out HCB.out HLB.out, HK2.out], (Raw.drewN (HRW.out.alloc _) _), (below_drewN (hb.alloc hb.size _) _)⟩
                case measure => simp [intOf]; omega
            · rcases o with _ | bi
              · have hv : _ = Value.int .i64 (-1) := ho
                subst hv
                go_wp2
                go_quiet (fail)
                go_wp2
                go_roundw
                case rel => exact ⟨i + 1, _, _, by omega, by go_num, rfl, (show BestIs (some i) _ from rfl), by show _ = _; rw [best_first HQ.out HCB.out HLB.out HK2.out], (Raw.drewN (HRW.out.alloc _) _), (below_drewN (hb.alloc hb.size _) _)⟩
                case measure => simp [intOf]; omega
              · have hv : _ = Value.int .i64 (bi : Nat) := ho
                subst hv
                have hbl := best_lt qs code day i bi HK2.out
                have hbi := hbl.2
                obtain ⟨b', o', p, e, _, hp, hy⟩ := H.out.at_ hbi
                injection e with e
                injection e with e1 e2
                subst e1
                subst e2
                have y1 := hy wr hb 1 _ rfl
                have y1' := hy (wr.alloc (Obj.cells #[.string (bs q.code), .int .i64 q.day, .bool q.neg, .string (bs q.num), .string (bs q.den)] 33)) (hb.alloc hb.size _) 1 _ rfl
                have hbI : ((bi : Nat) : Int) < (qs.length : Int) := by omega
                have hb0 : (0 : Int) ≤ ((bi : Nat) : Int) := by omega
                have hneg : decide (((bi : Nat) : Int) < 0) = false := decide_eq_false (by omega)
                have hda : dayAt qs bi = p.day := by unfold dayAt; rw [hp]
                obtain ⟨gB, hgB⟩ : ∃ x, x = decide (p.day < q.day) := ⟨_, rfl⟩
                have fg : decide (p.day < q.day) = gB := hgB.symm
                have HG : Hid (decide (dayAt qs bi < q.day) = gB) := by show _ = _; rw [hda]; exact fg
                clear hgB hda hp hy hbl
                cases gB
                · go_wp2
                  go_quiet (fail)
                  go_wp2
                  go_roundw
                  case rel => exact ⟨i + 1, _, _, by omega, by go_num, rfl, (show BestIs (some bi) _ from rfl), by show _ = _; rw [best_stay HQ.out HCB.out HLB.out HK2.out HG.out], (Raw.drewN (HRW.out.alloc _) _), (below_drewN (hb.alloc hb.size _) _)⟩
                  case measure => simp [intOf]; omega
                · go_wp2
                  go_quiet (fail)
                  go_wp2
                  go_roundw
                  case rel => exact ⟨i + 1, _, _, by omega, by go_num, rfl, (show BestIs (some i) _ from rfl), by show _ = _; rw [best_next HQ.out HCB.out HLB.out HK2.out HG.out], (Raw.drewN (HRW.out.alloc _) _), (below_drewN (hb.alloc hb.size _) _)⟩
                  case measure => simp [intOf]; omega
          · have hi' : i = qs.length := by omega
            subst hi'
            have z0 := HRW.out.frozen 0
            have z1 := HRW.out.frozen 1
            have z2 := HRW.out.frozen 2
            have d0 := HRW.out.c0
            have d1 := HRW.out.c1
            have d2 := HRW.out.c2
            cases k
            · have HR := Lib.hid (rate_unknown HN.out HDB.out HEB.out hbest.out)
              go_wp2
              refine bodyPost_ret (raw_result2 rfl _ _ _ _ _ _ rfl (HRW.out.put _ _ _)) rfl ?_
              rw [HR.out]
              exact ⟨rfl, below_put hb (Nat.le_refl _) _ _ _⟩
            · rcases o with _ | bi
              · have hv : _ = Value.int .i64 (-1) := ho
                subst hv
                have HR := Lib.hid (rate_none HN.out HDB.out HEB.out hbest.out)
                go_wp2
                refine bodyPost_ret (raw_result2 rfl _ _ _ _ _ _ rfl (HRW.out.put _ _ _)) rfl ?_
                rw [HR.out]
                exact ⟨rfl, below_put hb (Nat.le_refl _) _ _ _⟩
              · have hv : _ = Value.int .i64 (bi : Nat) := ho
                subst hv
                have hbl := best_lt qs code day qs.length bi (by rw [hbest.out])
                have hbi := hbl.2
                obtain ⟨b', o', p, rfl, _, hp, hy⟩ := H.out.at_ hbi
                have y2 := hy wr hb 2 _ rfl
                have y3 := hy wr hb 3 _ rfl
                have y4 := hy wr hb 4 _ rfl
                have hneg : decide (((bi : Nat) : Int) < 0) = false := decide_eq_false (by omega)
                have HR := Lib.hid (rate_some HN.out HDB.out HEB.out hbest.out hp)
                clear hp hy hbl
                go_wp2
                refine bodyPost_ret (raw_result2 rfl _ _ _ _ _ _ rfl (HRW.out.put _ _ _)) rfl ?_
                rw [HR.out]
                exact ⟨rfl, below_put hb (Nat.le_refl _) _ _ _⟩
  · have HR := Lib.hid (rate_check (code := code) (day := day) HN.out h0)
    have hn0 : (n == 0) = false := by rw [beq_eq_false_iff_ne]; exact h0
    have hn1 : (n != 0) = true := by rw [bne, hn0]; rfl
    clear fe
    go_enter Tryd.func22, Tryd.ntmps22
    go_wp2_with fail
    refine (HC.out _ hbw.out).mono ?_
    rintro e w1 ⟨rfl, hb1⟩
    have k1 := K0.out.below hb1 (Raw.lt K0.out)
    have z0 := k1.frozen 0
    have z1 := k1.frozen 1
    have z2 := k1.frozen 2
    have d0 := k1.c0
    have d1 := k1.c1
    have d2 := k1.c2
    have K1 := Lib.hid k1
    have HB := Lib.hid (Ext.trans hbw.out hb1)
    clear k1 hb1
    go_wp2
    refine bodyPost_ret (raw_result2 rfl _ _ _ _ _ _ rfl (K1.out.put _ _ _)) rfl ?_
    rw [HR.out]
    exact ⟨rfl, below_put HB.out (Nat.le_refl _) _ _ _⟩

end Go.Proofs.YtcbjehnjbfmchaaDoor

/-
The rate of a currency on a day: the program's and the document's.
-/
namespace Go.Proofs.YtcbjehnjbfmchaaDoor
open Go.RowKit

set_option maxRecDepth 100000 in
set_option maxHeartbeats 2000000 in
theorem ref_ExchangeRate (v : Value) (qs : List Quo) (code : List UInt8) (day : Int) (w : World) (h : Quotes w v qs) (hok : ∀ q ∈ qs, q.ok) :
    Calls Tryd.prog 23 #[v, .string (bs code), .int .i64 day] w fun e w' => e = .returned (.tuple #[(rateQ qs code day).1.val, .int .i64 (rateQ qs code day).2]) ∧ Below w.heap.size w w' := by
  have k0 : Raw (w.alloc (Obj.cells #[.bool false, .string (bs []), .string (bs [])] 30)) w.heap.size false [] [] := Blk.new w _ _
  have hbw : Hid (Below w.heap.size w (w.alloc (Obj.cells #[.bool false, .string (bs []), .string (bs [])] 30))) := Ext.alloc (Below.refl _ _) _
  have H := Lib.hid h
  have hC := fun W (hb : Below w.heap.size w W) => ref_CheckQuotes v qs W (h.below hb) hok
  have hD := fun W => ref_IsDay day W
  obtain ⟨A, c, rfl, hl, hc⟩ := h.slice
  obtain ⟨n, hn⟩ : ∃ n, n = checkQ qs := ⟨_, rfl⟩
  obtain ⟨dB, hdB⟩ : ∃ x, x = dayB day := ⟨_, rfl⟩
  obtain ⟨eB, heB⟩ : ∃ x, x = (code == eur) := ⟨_, rfl⟩
  have fe : ((bs code).toList == [69, 85, 82]) = eB := by rw [bs_toList]; exact heB.symm
  rw [← hn] at hC
  rw [← hdB] at hD
  have HC := Lib.hid hC
  have HD := Lib.hid hD
  have HDB := Lib.hid hdB.symm
  have HEB := Lib.hid heB.symm
  have HN := Lib.hid hn.symm
  have K0 := Lib.hid k0
  clear h hok hC hD hn hdB heB k0
  by_cases h0 : n = 0
  · subst h0
    cases dB
    · have HR := Lib.hid (rate_day (code := code) HN.out HDB.out)
      clear fe
      go_enter Tryd.func23, Tryd.ntmps23
      go_wp2_with fail
      refine (HC.out _ hbw.out).mono ?_
      rintro e w1 ⟨rfl, hb1⟩
      have k1 := K0.out.below hb1 (Raw.lt K0.out)
      have z0 := k1.frozen 0
      have z1 := k1.frozen 1
      have z2 := k1.frozen 2
      have d0 := k1.c0
      have d1 := k1.c1
      have d2 := k1.c2
      have K1 := Lib.hid k1
      have HB := Lib.hid (Ext.trans hbw.out hb1)
      clear k1 hb1
      go_wp2_with (go_at_call 50; with_reducible refine (HD.out _).mono ?_; rintro e w' ⟨rfl, rfl⟩)
      refine bodyPost_ret (raw_result2 rfl _ _ _ _ _ _ rfl (K1.out.put _ _ _)) rfl ?_
      rw [HR.out]
      exact ⟨rfl, below_put HB.out (Nat.le_refl _) _ _ _⟩
    · cases eB
      rotate_left
      · have HR := Lib.hid (rate_base HN.out HDB.out HEB.out)
        go_enter Tryd.func23, Tryd.ntmps23
        go_wp2_with fail
        refine (HC.out _ hbw.out).mono ?_
        rintro e w1 ⟨rfl, hb1⟩
        go_wp2_with (go_at_call 50; with_reducible refine (HD.out _).mono ?_; rintro e w' ⟨rfl, rfl⟩)
        refine (ref_One' _).mono ?_
        rintro e w2 ⟨rfl, hb2⟩
        have hb12 := Ext.trans hb1 hb2
        have k1 := K0.out.below hb12 (Raw.lt K0.out)
        have z0 := k1.frozen 0
        have z1 := k1.frozen 1
        have z2 := k1.frozen 2
        have d0 := k1.c0
        have d1 := k1.c1
        have d2 := k1.c2
        have K1 := Lib.hid k1
        have HB := Lib.hid (Ext.trans hbw.out hb12)
        clear k1 hb1 hb2 hb12
        unfold raw
        go_wp2
        refine bodyPost_ret (raw_result2 rfl _ _ _ _ _ _ rfl (K1.out.put _ _ _)) rfl ?_
        rw [HR.out]
        exact ⟨rfl, below_put HB.out (Nat.le_refl _) _ _ _⟩
      · go_enter Tryd.func23, Tryd.ntmps23
        go_wp2_with fail
        refine (HC.out _ hbw.out).mono ?_
        rintro e w1 ⟨rfl, hb1⟩
        have K1 := Lib.hid (K0.out.below hb1 (Raw.lt K0.out))
        have HB := Lib.hid (Ext.trans hbw.out hb1)
        clear hb1
        go_wp2_with (go_at_call 50; with_reducible refine (HD.out _).mono ?_; rintro e w' ⟨rfl, rfl⟩)
        clear fe
        go_loopw [9, 10, 11] (fun kn be ct wr => ∃ (i' : Nat) (k : Bool) (o : Option Nat), i' ≤ qs.length ∧ ct = .int .i64 i' ∧ kn = .bool k ∧ BestIs o be ∧ Hid (bestQ qs code day i' = (k, o)) ∧ Hid (Raw wr w.heap.size false [] []) ∧ Below w.heap.size w wr) (fun _ _ ct _ => qs.length - (intOf ct).toNat)
        case atStart => exact ⟨0, false, none, Nat.zero_le _, rfl, rfl, rfl, rfl, K1.out, HB.out⟩
        case round =>
          obtain ⟨i, k, o, hi, rfl, rfl, ho, hbest, HRW, hb⟩ := hrel
          by_cases hlt : i < qs.length
          · obtain ⟨b, o0, q, rfl, hbb, hq, hx⟩ := H.out.at_ hlt
            have x0 := hx wr hb 0 _ rfl
            rw [Nat.add_zero] at x0
            have x1 := hx wr hb 1 _ rfl
            have x2 := hx wr hb 2 _ rfl
            have x3 := hx wr hb 3 _ rfl
            have x4 := hx wr hb 4 _ rfl
            obtain ⟨cB, hcB⟩ : ∃ x, x = (q.code == code) := ⟨_, rfl⟩
            have fc : ((bs q.code).toList == (bs code).toList) = cB := by rw [bs_toList, bs_toList]; exact hcB.symm
            obtain ⟨lB, hlB⟩ : ∃ x, x = decide (q.day ≤ day) := ⟨_, rfl⟩
            have fl : decide (q.day ≤ day) = lB := hlB.symm
            have hk2 : (bestQ qs code day i).2 = o := by rw [hbest.out]
            have HQ := Lib.hid hq
            have HCB := Lib.hid hcB.symm
            have HLB := Lib.hid hlB.symm
            have HK2 := Lib.hid hk2
            clear hx hq hcB hlB hk2
            cases cB
            · clear fl
              go_wp2
              go_roundw
              case rel => exact ⟨i + 1, _, _, by omega, by go_num, rfl, ho, by show _ = _; rw [best_other HQ.out HCB.out]; exact hbest.out, HRW.out, hb⟩
              case measure => simp [intOf]; omega
            cases lB
            · rcases o with _ | bi
              · have hv : _ = Value.int .i64 (-1) := ho
                subst hv
                go_wp2
                go_quiet (fail)
                go_wp2
                go_roundw
                case rel => exact ⟨i + 1, _, _, by omega, by go_num, rfl, (show BestIs none _ from rfl), by show _ = _; rw [best_late HQ.out HCB.out HLB.out, HK2.out], (Raw.drewN HRW.out _), (below_drewN hb _)⟩
                case measure => simp [intOf]; omega
              · have hv : _ = Value.int .i64 (bi : Nat) := ho
                subst hv
                have hbl := best_lt qs code day i bi HK2.out
                go_wp2
                go_quiet (fail)
                go_wp2
                go_roundw
                case rel => exact ⟨i + 1, _, _, by omega, by go_num, rfl, (show BestIs (some bi) _ from rfl), by show _ = _; rw [best_late HQ.out HCB.out HLB.out, HK2.out], (Raw.drewN HRW.out _), (below_drewN hb _)⟩
                case measure => simp [intOf]; omega
            · rcases o with _ | bi
              · have hv : _ = Value.int .i64 (-1) := ho
                subst hv
                go_wp2
                go_quiet (fail)
                go_wp2
                go_roundw
                case rel => exact ⟨i + 1, _, _, by omega, by go_num, rfl, (show BestIs (some i) _ from rfl), by show _ = _; rw [best_first HQ.out HCB.out HLB.out HK2.out], (Raw.drewN HRW.out _), (below_drewN hb _)⟩
                case measure => simp [intOf]; omega
              · have hv : _ = Value.int .i64 (bi : Nat) := ho
                subst hv
                have hbl := best_lt qs code day i bi HK2.out
                have hbi := hbl.2
                obtain ⟨b', o', p, e, _, hp, hy⟩ := H.out.at_ hbi
                injection e with e
                injection e with e1 e2
                subst e1
                subst e2
                have y1 := hy wr hb 1 _ rfl
                have hbI : ((bi : Nat) : Int) < (qs.length : Int) := by omega
                have hb0 : (0 : Int) ≤ ((bi : Nat) : Int) := by omega
                have hneg : decide (((bi : Nat) : Int) < 0) = false := decide_eq_false (by omega)
                have hda : dayAt qs bi = p.day := by unfold dayAt; rw [hp]
                obtain ⟨gB, hgB⟩ : ∃ x, x = decide (p.day < q.day) := ⟨_, rfl⟩
                have fg : decide (p.day < q.day) = gB := hgB.symm
                have HG : Hid (decide (dayAt qs bi < q.day) = gB) := by show _ = _; rw [hda]; exact fg
                clear hgB hda hp hy hbl
                cases gB
                · go_wp2
                  go_quiet (fail)
                  go_wp2
                  go_roundw
                  case rel => exact ⟨i + 1, _, _, by omega, by go_num, rfl, (show BestIs (some bi) _ from rfl), by show _ = _; rw [best_stay HQ.out HCB.out HLB.out HK2.out HG.out], (Raw.drewN HRW.out _), (below_drewN hb _)⟩
                  case measure => simp [intOf]; omega
                · go_wp2
                  go_quiet (fail)
                  go_wp2
                  go_roundw
                  case rel => exact ⟨i + 1, _, _, by omega, by go_num, rfl, (show BestIs (some i) _ from rfl), by show _ = _; rw [best_next HQ.out HCB.out HLB.out HK2.out HG.out], (Raw.drewN HRW.out _), (below_drewN hb _)⟩
                  case measure => simp [intOf]; omega
          · have hi' : i = qs.length := by omega
            subst hi'
            have z0 := HRW.out.frozen 0
            have z1 := HRW.out.frozen 1
            have z2 := HRW.out.frozen 2
            have d0 := HRW.out.c0
            have d1 := HRW.out.c1
            have d2 := HRW.out.c2
            cases k
            · have HR := Lib.hid (rate_unknown HN.out HDB.out HEB.out hbest.out)
              go_wp2
              refine bodyPost_ret (raw_result2 rfl _ _ _ _ _ _ rfl (HRW.out.put _ _ _)) rfl ?_
              rw [HR.out]
              exact ⟨rfl, below_put hb (Nat.le_refl _) _ _ _⟩
            · rcases o with _ | bi
              · have hv : _ = Value.int .i64 (-1) := ho
                subst hv
                have HR := Lib.hid (rate_none HN.out HDB.out HEB.out hbest.out)
                go_wp2
                refine bodyPost_ret (raw_result2 rfl _ _ _ _ _ _ rfl (HRW.out.put _ _ _)) rfl ?_
                rw [HR.out]
                exact ⟨rfl, below_put hb (Nat.le_refl _) _ _ _⟩
              · have hv : _ = Value.int .i64 (bi : Nat) := ho
                subst hv
                have hbl := best_lt qs code day qs.length bi (by rw [hbest.out])
                have hbi := hbl.2
                obtain ⟨b', o', p, rfl, _, hp, hy⟩ := H.out.at_ hbi
                have y2 := hy wr hb 2 _ rfl
                have y3 := hy wr hb 3 _ rfl
                have y4 := hy wr hb 4 _ rfl
                have hneg : decide (((bi : Nat) : Int) < 0) = false := decide_eq_false (by omega)
                have HR := Lib.hid (rate_some HN.out HDB.out HEB.out hbest.out hp)
                clear hp hy hbl
                go_wp2
                refine bodyPost_ret (raw_result2 rfl _ _ _ _ _ _ rfl (HRW.out.put _ _ _)) rfl ?_
                rw [HR.out]
                exact ⟨rfl, below_put hb (Nat.le_refl _) _ _ _⟩
  · have HR := Lib.hid (rate_check (code := code) (day := day) HN.out h0)
    have hn0 : (n == 0) = false := by rw [beq_eq_false_iff_ne]; exact h0
    have hn1 : (n != 0) = true := by rw [bne, hn0]; rfl
    clear fe
    go_enter Tryd.func23, Tryd.ntmps23
    go_wp2_with fail
    refine (HC.out _ hbw.out).mono ?_
    rintro e w1 ⟨rfl, hb1⟩
    have k1 := K0.out.below hb1 (Raw.lt K0.out)
    have z0 := k1.frozen 0
    have z1 := k1.frozen 1
    have z2 := k1.frozen 2
    have d0 := k1.c0
    have d1 := k1.c1
    have d2 := k1.c2
    have K1 := Lib.hid k1
    have HB := Lib.hid (Ext.trans hbw.out hb1)
    clear k1 hb1
    go_wp2
    refine bodyPost_ret (raw_result2 rfl _ _ _ _ _ _ rfl (K1.out.put _ _ _)) rfl ?_
    rw [HR.out]
    exact ⟨rfl, below_put HB.out (Nat.le_refl _) _ _ _⟩

end Go.Proofs.YtcbjehnjbfmchaaDoor

/-
'==' on rational numbers as they lie in memory.
-/
namespace Go.Proofs.YtcbjehnjbfmchaaDoor
open Go.RowKit

set_option maxRecDepth 100000 in
theorem rat_row : (30 : TypeId) < Tryd.prog.types.size := of_decide_eq_true (by kernel_rfl)
set_option maxRecDepth 100000 in
theorem rat_wide : (match Tryd.prog.underlying 30 with | some (.array _ _) | some (.struct _) => true | _ => false) = true := by kernel_rfl
set_option maxRecDepth 100000 in
theorem rat_deep : Tryd.prog.keyTypeAt 3 30 = true := by kernel_rfl
set_option maxRecDepth 100000 in
theorem rat_keyed : WideMaps.KeyLaw Tryd.prog 30 := deep_law_laid laidOut (m := 3) (by omega) rat_row rat_deep rat_wide

set_option maxRecDepth 100000 in
theorem rat_key (neg : Bool) (num den : List UInt8) (hn : num.length ≤ 1099511627776) (hd : den.length ≤ 1099511627776) :
    keyOf Tryd.prog 30 (raw neg num den) = some (.string (keyBytes [.bool neg, .string num, .string den])) := by
  unfold raw
  have hu := Tryd.underlying30
  obtain ⟨n, hs⟩ : ∃ n, Tryd.prog.types.size = n + 1 := ⟨Tryd.prog.types.size - 1, (Nat.sub_add_cancel (Nat.lt_of_le_of_lt (Nat.zero_le _) rat_row)).symm⟩
  have hkt : Tryd.prog.keyType 30 = true := by kernel_rfl
  have c2 : Tryd.prog.cellsOf 30 = 3 := by kernel_rfl
  have c9 : Tryd.prog.cellsOf 9 = 1 := by kernel_rfl
  have c4 : Tryd.prog.cellsOf 4 = 1 := by kernel_rfl
  have u9 := Tryd.underlying9
  have u4 := Tryd.underlying4
  have hsz : (bs num).size ≤ maxLen := by rw [bs_size]; unfold maxLen; omega
  have hsz2 : (bs den).size ≤ maxLen := by rw [bs_size]; unfold maxLen; omega
  unfold keyOf
  rw [hu]
  have hf : (Value.agg #[Value.bool neg, Value.string (bs num), Value.string (bs den)]).formed Tryd.prog 30 = true := by
    simp [Value.formed, hu, c2]
  rw [hkt, hf, hs]
  have hl : Tryd.prog.keyLits (n + 1 + 1) 30 [.bool neg, .string (bs num), .string (bs den)] = some [.bool neg, .string num, .string den] := by
    simp [Program.keyLits, hu, c2, c9, c4, u9, u4, hsz, hsz2, bs_list]
  simp [Value.cells, hl]

theorem raw_inj {n1 n2 : Bool} {a1 a2 b1 b2 : List UInt8} (h : raw n1 a1 b1 = raw n2 a2 b2) : n1 = n2 ∧ a1 = a2 ∧ b1 = b2 := by
  unfold raw at h
  injection h with h
  simp only [Array.mk.injEq, List.cons.injEq, Value.bool.injEq, Value.string.injEq, and_true] at h
  exact ⟨h.1, bs_inj h.2.1, bs_inj h.2.2⟩

set_option maxRecDepth 100000 in
/-- Equality of two numbers, as the program asks it. -/
theorem rat_eql (n1 n2 : Bool) (a1 a2 b1 b2 : List UInt8) (ha1 : a1.length ≤ 1099511627776) (hb1 : b1.length ≤ 1099511627776) (ha2 : a2.length ≤ 1099511627776) (hb2 : b2.length ≤ 1099511627776) (y : Bool)
    (hy : decide (n1 = n2 ∧ a1 = a2 ∧ b1 = b2) = y) (w : World) :
    (binOp .eql 30 (raw n1 a1 b1) (raw n2 a2 b2)).run Tryd.prog w = .ok (.bool y) w := by
  have k1 := rat_key n1 a1 b1 ha1 hb1
  have k2 := rat_key n2 a2 b2 ha2 hb2
  obtain ⟨r, hr, hiff⟩ := run_equal_deep w (m := 3) (by decide) rat_deep rat_wide k1 k2
  have hry : r = y := by
    rw [← hy, Bool.eq_iff_iff, hiff, decide_eq_true_eq]
    constructor
    · intro e
      rw [e] at k1
      exact raw_inj (rat_keyed.inj k1 k2)
    · rintro ⟨rfl, rfl, rfl⟩; rfl
  subst hry
  unfold raw at hr ⊢
  simp only [binOp]
  simp [hr, Result.andThen]
end Go.Proofs.YtcbjehnjbfmchaaDoor

/-
A block of the call's own that reads as a list of structs; a row that grows by appends.
-/
namespace Go.Proofs.YtcbjehnjbfmchaaDoor
open Go.RowKit

/-- The cells of a list of structs. -/
def flat {α : Type} (enc : α → List Value) : List α → List Value
  | [] => []
  | x :: xs => enc x ++ flat enc xs
section
variable {α : Type} {enc : α → List Value} {k : Nat}
theorem flat_append (xs ys : List α) : flat enc (xs ++ ys) = flat enc xs ++ flat enc ys := by
  induction xs with
  | nil => rfl
  | cons x xs ih => simp [flat, ih]
theorem flat_length (hk : ∀ x, (enc x).length = k) (xs : List α) : (flat enc xs).length = xs.length * k := by
  induction xs with
  | nil => simp [flat]
  | cons x xs ih => simp [flat, ih, hk, Nat.add_mul]; omega
theorem flat_get (hk : ∀ x, (enc x).length = k) : ∀ (xs : List α) (j : Nat) (x : α), xs[j]? = some x → ∀ (i : Nat) (u : Value), (enc x)[i]? = some u → (flat enc xs)[j * k + i]? = some u
  | [], j, x, h, _, _, _ => by simp at h
  | y :: ys, 0, x, h, i, u, hu => by
    have e : y = x := by simpa using h
    subst e
    obtain ⟨hi, _⟩ := List.getElem?_eq_some_iff.1 hu
    rw [flat, Nat.zero_mul, Nat.zero_add, List.getElem?_append_left hi, hu]
  | y :: ys, j + 1, x, h, i, u, hu => by
    have h' : ys[j]? = some x := by simpa using h
    have ih := flat_get hk ys j x h' i u hu
    rw [flat, List.getElem?_append_right (by rw [hk, Nat.add_mul]; omega), hk]
    rw [show (j + 1) * k + i - k = j * k + i by rw [Nat.add_mul]; omega]
    exact ih
/-- A block that is just these structs. -/
theorem Slc.of_blk (hk : ∀ x, (enc x).length = k) {w : World} {g : Nat} {cs : Array Value} {t : TypeId} {xs : List α} (h : Blk w g cs t) (hcs : cs.toList = flat enc xs) {n c : Nat} (hn : xs.length = n) (hl : n ≤ c) (hc : c ≤ 9223372036854775807) :
    Slc enc k w (.slice (some ⟨g, 0, none⟩) n c) xs := by
  subst hn
  refine ⟨_, c, rfl, hl, hc, fun _ => ⟨g, 0, rfl, h.lt, fun j x hj i u hu => ?_⟩⟩
  rw [Nat.zero_add]
  refine h.cell _ _ ?_
  rw [← Array.getElem?_toList, hcs]
  exact flat_get hk xs j x hj i u hu
/-- A row of the call's own. -/
theorem Slc.of_own (hk : ∀ x, (enc x).length = k) {w : World} {base : Nat} {e : TypeId} {v : Value} {n : Nat} {xs : List α} (h : w.ownsRow base e k v n (flat enc xs)) (hn : xs.length = n) : Slc enc k w v xs := by
  subst hn
  rcases h.2 with ⟨rfl, h0⟩ | ⟨g, cap, cur, rfl, hb, hg, hc, hm, _, _⟩
  · have : xs = [] := List.length_eq_zero_iff.1 h0
    subst this
    exact Slc.nil_ _ _ _ _ _ (by decide)
  · refine ⟨_, cap, rfl, hc, by unfold maxLen at hm; omega, fun _ => ⟨g, 0, rfl, (h.lt g rfl).2, fun j x hj i u hu => ?_⟩⟩
    have := h.cells (g := g) rfl (j * k + i) u (flat_get hk xs j x hj i u hu)
    rw [Addr.add_lit] at this
    rw [Nat.add_assoc]
    exact this
end
end Go.Proofs.YtcbjehnjbfmchaaDoor

/-
The laws' check of themselves: the example of the chapter on currency.
-/
namespace Go.Proofs.YtcbjehnjbfmchaaDoor
open Go.RowKit

def usd : List UInt8 := [85, 83, 68]
def awakeQ : List Quo := [⟨usd, 5, false, [9], [10]⟩, ⟨usd, 2, false, [4], [5]⟩]
set_option maxRecDepth 100000 in
theorem awake_1 : rateQ awakeQ usd 4 = (⟨false, [4], [5]⟩, 0) := by rfl
set_option maxRecDepth 100000 in
theorem awake_2 : rateQ awakeQ usd 5 = (⟨false, [9], [10]⟩, 0) := by rfl
set_option maxRecDepth 100000 in
theorem awake_3 : rateQ awakeQ usd 1 = (zeroT, 9) := by rfl
theorem awake_ok : ∀ q ∈ awakeQ, q.ok := by
  intro q hq
  unfold awakeQ at hq
  simp only [List.mem_cons, List.mem_nil_iff, or_false] at hq
  rcases hq with rfl | rfl <;> exact ⟨by decide, by decide, by decide, by decide, by decide⟩

theorem bytesOf_small {n : Nat} (h : n < 256) (h0 : n ≠ 0) : bytesOf n = [UInt8.ofNat n] := by
  rw [bytesOf_pos h0, Nat.div_eq_of_lt h, bytesOf_zero, Nat.mod_eq_of_lt h]; rfl
theorem enc_small {q : Rat} {n d : Nat} (h1 : negB q = false) (h2 : q.num.natAbs = n) (h3 : q.den = d) (hn : n < 256) (hn0 : n ≠ 0) (hd : d < 256) (hd1 : 1 < d) : rat q = raw false [UInt8.ofNat n] [UInt8.ofNat d] := by
  unfold rat numB denomB denB
  rw [h1, h2, h3, bytesOf_small hn hn0, if_neg (by omega), bytesOf_small hd (by omega)]
theorem enc_9_10 : rat (mkRat 9 10) = raw false [9] [10] := enc_small (by decide +kernel) (n := 9) (d := 10) (by decide +kernel) (by decide +kernel) (by decide) (by decide) (by decide) (by decide)
theorem enc_8_10 : rat (mkRat 8 10) = raw false [4] [5] := enc_small (by decide +kernel) (n := 4) (d := 5) (by decide +kernel) (by decide +kernel) (by decide) (by decide) (by decide) (by decide)
theorem enc_4_5 : rat (mkRat 4 5) = raw false [4] [5] := enc_small (by decide +kernel) (n := 4) (d := 5) (by decide +kernel) (by decide +kernel) (by decide) (by decide) (by decide) (by decide)

theorem quo_len (q : Quo) : q.enc.length = 5 := rfl
theorem awake_quotes (w : World) : Quotes (w.alloc (Obj.cells #[.string ⟨#[85, 83, 68]⟩, .int .i64 5, .bool false, .string (bs [9]), .string (bs [10]), .string ⟨#[85, 83, 68]⟩, .int .i64 2, .bool false, .string (bs [4]), .string (bs [5])] 33)) (.slice (some ⟨w.heap.size, 0, none⟩) 2 2) awakeQ :=
  Slc.of_blk quo_len (Blk.new w _ _) rfl rfl (by decide) (by decide)

set_option maxRecDepth 100000 in
set_option maxHeartbeats 2000000 in
theorem law7_awake (w : World) : Calls Tryd.prog 18 #[] w fun e w' => e = .returned (.bool true) ∧ Below w.heap.size w w' := by
  have r1 := fun W => law0_Ratio 9 10 W (by decide) (by decide) (by decide) (by decide)
  have r2 := fun W => law0_Ratio 8 10 W (by decide) (by decide) (by decide) (by decide)
  have r3 := fun W => law0_Ratio 4 5 W (by decide) (by decide) (by decide) (by decide)
  rw [show (10 : Int).toNat = 10 from rfl, enc_9_10] at r1
  rw [show (10 : Int).toNat = 10 from rfl, enc_8_10] at r2
  rw [show (5 : Int).toNat = 5 from rfl, enc_4_5] at r3
  unfold raw at r1 r2 r3
  have R1 := Lib.hid r1
  have R2 := Lib.hid r2
  have R3 := Lib.hid r3
  clear r1 r2 r3
  have q1 := fun v W (h : Quotes W v awakeQ) => currency_Rate v awakeQ usd 4 W h awake_ok
  have q2 := fun v W (h : Quotes W v awakeQ) => currency_Rate v awakeQ usd 5 W h awake_ok
  have q3 := fun v W (h : Quotes W v awakeQ) => currency_Rate v awakeQ usd 1 W h awake_ok
  rw [awake_1] at q1
  rw [awake_2] at q2
  rw [awake_3] at q3
  unfold Trip.val raw at q1 q2 q3
  unfold zeroT at q3
  dsimp only at q1 q2 q3
  have Q1 := Lib.hid q1
  have Q2 := Lib.hid q2
  have Q3 := Lib.hid q3
  clear q1 q2 q3
  go_enter Tryd.func18, Tryd.ntmps18
  go_wp2_with fail
  refine (R1.out _).mono ?_
  rintro e w1 ⟨rfl, hb1⟩
  go_wp2_with fail
  refine (R2.out _).mono ?_
  rintro e w2 ⟨rfl, hb2⟩
  go_wp2_with fail
  have hq := awake_quotes w2
  have HQ := Lib.hid hq
  refine (Q1.out _ _ hq).mono ?_
  rintro e w3 ⟨rfl, hb3⟩
  have HB3 := Lib.hid hb3
  clear hq hb3
  go_wp2_with fail
  have hq := (HQ.out.below HB3.out).below (Ext.alloc (Below.refl _ _) (Obj.cells #[.bool false, .string (bs [4]), .string (bs [5])] 30))
  have HQ2 := Lib.hid hq
  have K2 : Hid (Raw (w3.alloc (Obj.cells #[.bool false, .string (bs [4]), .string (bs [5])] 30)) w3.heap.size false [4] [5]) := Blk.new w3 _ _
  refine (Q2.out _ _ hq).mono ?_
  rintro e w4 ⟨rfl, hb4⟩
  have HB4 := Lib.hid hb4
  clear hq hb4
  go_wp2_with fail
  have hq := (HQ2.out.below HB4.out).below (Ext.alloc (Below.refl _ _) (Obj.cells #[.bool false, .string (bs [9]), .string (bs [10])] 30))
  have K4 : Hid (Raw (w4.alloc (Obj.cells #[.bool false, .string (bs [9]), .string (bs [10])] 30)) w4.heap.size false [9] [10]) := Blk.new w4 _ _
  have K24 := Lib.hid ((K2.out.below HB4.out (Raw.lt K2.out)).alloc (Obj.cells #[.bool false, .string (bs [9]), .string (bs [10])] 30))
  refine (Q3.out _ _ hq).mono ?_
  rintro e w5 ⟨rfl, hb5⟩
  have HB5 := Lib.hid hb5
  clear hq hb5
  go_wp2_with fail
  have hb56 := (Ext.alloc HB5.out (Obj.cells #[.bool false, .string (bs []), .string (bs [])] 30)).drew
  have KA := Lib.hid (K24.out.below hb56 (Raw.lt K24.out))
  have KB := Lib.hid (K4.out.below hb56 (Raw.lt K4.out))
  have x0 := KA.out.c0
  have x1 := KA.out.c1
  have x2 := KA.out.c2
  have y0 := KB.out.c0
  have y1 := KB.out.c1
  have y2 := KB.out.c2
  have e1 := fun W => rat_eql false false [4] [4] [5] [5] (by decide) (by decide) (by decide) (by decide) true (by decide) W
  have e2 := fun W => rat_eql false false [9] [9] [10] [10] (by decide) (by decide) (by decide) (by decide) true (by decide) W
  unfold raw at e1 e2
  have HBW := Lib.hid (Ext.trans (Ext.trans hb1 hb2) (Ext.trans (Ext.alloc (Below.refl _ _) _) (Ext.trans HB3.out (Ext.trans (Ext.alloc (Below.refl _ _) _) (Ext.trans HB4.out (Ext.trans (Ext.alloc (Below.refl _ _) _) hb56))))))
  clear hb56 hb1 hb2
  go_region_held3 (fun w' => w'.cell? ⟨w3.heap.size, 0, none⟩ = some (.bool false) ∧ w'.cell? ⟨w3.heap.size, 1, none⟩ = some (.string (bs [4])) ∧ w'.cell? ⟨w3.heap.size, 2, none⟩ = some (.string (bs [5])) ∧ w'.cell? ⟨w4.heap.size, 0, none⟩ = some (.bool false) ∧ w'.cell? ⟨w4.heap.size, 1, none⟩ = some (.string (bs [9])) ∧ w'.cell? ⟨w4.heap.size, 2, none⟩ = some (.string (bs [10]))) (go_keep) (first
    | (go_at_call_of 45 (Value.int IntKind.i64 4); with_reducible refine (R3.out _).mono ?_; rintro e w6 ⟨rfl, hb6⟩; have HB6 := Lib.hid hb6; clear hb6 x0 x1 x2 y0 y1 y2; have x0 := (KA.out.below HB6.out (Raw.lt KA.out)).c0; have x1 := (KA.out.below HB6.out (Raw.lt KA.out)).c1; have x2 := (KA.out.below HB6.out (Raw.lt KA.out)).c2; have y0 := (KB.out.below HB6.out (Raw.lt KB.out)).c0; have y1 := (KB.out.below HB6.out (Raw.lt KB.out)).c1; have y2 := (KB.out.below HB6.out (Raw.lt KB.out)).c2)
    | (go_at_call_of 45 (Value.int IntKind.i64 9); with_reducible refine (R1.out _).mono ?_; rintro e w7 ⟨rfl, hb7⟩; have HB7 := Lib.hid (Ext.trans HB6.out hb7); clear hb7 x0 x1 x2 y0 y1 y2; have x0 := (KA.out.below HB7.out (Raw.lt KA.out)).c0; have x1 := (KA.out.below HB7.out (Raw.lt KA.out)).c1; have x2 := (KA.out.below HB7.out (Raw.lt KA.out)).c2; have y0 := (KB.out.below HB7.out (Raw.lt KB.out)).c0; have y1 := (KB.out.below HB7.out (Raw.lt KB.out)).c1; have y2 := (KB.out.below HB7.out (Raw.lt KB.out)).c2))
  go_wp2
  go_ret
  exact ⟨rfl, Ext.trans HBW.out HB7.out⟩
end Go.Proofs.YtcbjehnjbfmchaaDoor
