/-
Part 47 of the base.
-/
import Derived.Test.YtlkhoommpkndpaaGreatDoorKh39
import Derived.Test.YtlkhoommpkndpaaGreatDoorKh35
set_option maxRecDepth 100000
set_option maxHeartbeats 8000000
namespace Go.Proofs.YtlkhoommpkndpaaGreatDoor
open Go.RowKit
theorem a5n {a b : List UInt8} (h : fewR a b = true) : a.length <= 24 /\ b.length <= 24 := by
 unfold fewR at h
 simpa using h
def few3 (t : Raw3) : Bool := fewR t.a t.b && a2b t.n t.a t.b
def b0b (p : Prf) : Bool := (fewR p.aa p.ab && fewR p.ra p.rb) && (a2b p.an p.aa p.ab && a2b p.rn p.ra p.rb)
def fewE (x : Ent) : Bool := ([x.cl, x.fl, x.ad, x.ce] : List Raw3).all few3 && (decide (x.p.id.length <= 60) && b0b x.p)
def fewG (l : List Ent) : Bool := decide (l.length <= 6) && l.all fewE
def rawC (t : Raw3) : List Value := [.bool t.n, .string (bs t.a), .string (bs t.b)]
theorem rawC_len (t : Raw3) : (rawC t).length = 3 := rfl
theorem b0m (p : Prf) (w : World) : Calls Tryz.prog 35 #[.agg #[.string (bs p.id), .int .i64 p.est, .int .i64 p.cre, .string (bs p.code), .bool p.an, .string (bs p.aa), .string (bs p.ab), .int .i64 p.inc, .int .i64 p.rank, .bool p.rn, .string (bs p.ra), .string (bs p.rb), .int .i64 p.rf, .int .i64 p.sec]] w fun e w' => e = .returned (.bool (b0b p)) /\ Below w.heap.size w w' := by
 have ha := fun W => b1n p.an p.aa p.ab W
 have hb := fun W => b1n p.rn p.ra p.rb W
 have hva := fun (h : fewR p.aa p.ab = true) W => b1d p.an p.aa p.ab W (by have := (a5n h).1; omega) (by have := (a5n h).2; omega)
 have hvb := fun (h : fewR p.ra p.rb = true) W => b1d p.rn p.ra p.rb W (by have := (a5n h).1; omega) (by have := (a5n h).2; omega)
 have hdef : b0b p = ((fewR p.aa p.ab && fewR p.ra p.rb) && (a2b p.an p.aa p.ab && a2b p.rn p.ra p.rb)) := rfl
 generalize b0b p = ans at *
 generalize fewR p.aa p.ab = fa at *
 generalize fewR p.ra p.rb = fb at *
 generalize a2b p.an p.aa p.ab = va at *
 generalize a2b p.rn p.ra p.rb = vb at *
 unfold raw at ha hb hva hvb
 have HA := zh ha
 have HB := zh hb
 have HVA := zh hva
 have HVB := zh hvb
 clear ha hb hva hvb
 cases fa
 rotate_left
 cases fb
 rotate_left
 cases va
 rotate_left
 cases vb
 rotate_left
 rotate_left
 all_goals
   go_enter Tryz.func35, Tryz.ntmps35
   have HS := zh (St.start w)
   go_wp2_with fail
   have HS2 := aL HS (prfC p) 36 w.heap.size
   refine cL (HA.out _) HS2 fun w3 HS3 => ?_
   clear HS HS2
 ·go_wp2
  go_ret
  have HS4 := zh HS3.out
  rw [hdef]
  exact ⟨rfl, HS4.out.below⟩
 all_goals
   have x1 := cC HS3 0 9
   have x2 := cC HS3 0 10
   have x3 := cC HS3 0 11
   go_wp2_with fail
   refine cL (HB.out _) HS3 fun w4 HS4 => ?_
   clear HS3 x1 x2 x3
 ·go_wp2
  go_ret
  have HS5 := zh HS4.out
  rw [hdef]
  exact ⟨rfl, HS5.out.below⟩
 all_goals
   obtain ⟨x4, x5, x6⟩ := HS4.out.k4 0 rfl rfl rfl rfl
   go_wp2_with fail
   refine cL (HVA.out (by first | exact rfl | exact True.intro) _) HS4 fun w5 HS5 => ?_
   clear HS4 x4 x5 x6
 ·go_wp2
  go_ret
  have HS6 := zh HS5.out
  rw [hdef]
  exact ⟨rfl, HS6.out.below⟩
 all_goals
   have x7 := cC HS5 0 9
   have x8 := cC HS5 0 10
   have x9 := cC HS5 0 11
   go_wp2_with fail
   refine cL (HVB.out (by first | exact rfl | exact True.intro) _) HS5 fun w6 HS6 => ?_
   clear HS5 x7 x8 x9
   go_wp2
   go_ret
   have HS7 := zh HS6.out
   rw [hdef]
 ·exact ⟨rfl, HS7.out.below⟩
 exact ⟨rfl, HS7.out.below⟩
theorem c1g (cut bar day : Int) (v : Value) (l : List Ent) (w : World) (h : a5f w v l) :
  Calls Tryz.prog 34 #[.agg #[.int .i64 cut, .int .i64 bar, .int .i64 day, v]] w fun e w' => e = .returned (.bool (fewG l)) /\ Below w.heap.size w w' := by
 have hF := fun (t : Raw3) W => b1n t.n t.a t.b W
 have hV := fun (t : Raw3) (h : fewR t.a t.b = true) W => b1d t.n t.a t.b W (by have := (a5n h).1; omega) (by have := (a5n h).2; omega)
 have hP := fun (p : Prf) W => b0m p W
 have H := zh h
 obtain ⟨AA, cA, rfl, hll, hcc⟩ := h.slice
 unfold raw at hF hV
 have HF := zh hF
 have HV := zh hV
 have HP := zh hP
 clear h hF hV hP
 by_cases h6 : 6 < l.length
 have d6 : decide ((6 : Int) < (l.length : Int)) = true := decide_eq_true (by omega)
 have hans : fewG l = false := by unfold fewG; rw [decide_eq_false (by omega)]; rfl
 clear h6 hll hcc
 rotate_left
 have d6 : decide ((6 : Int) < (l.length : Int)) = false := decide_eq_false (by omega)
 have hl6 : l.length <= 6 := by omega
 have HALL := zh (fun h : l.all fewE = true => show fewG l = true by unfold fewG; rw [decide_eq_true hl6, h]; rfl)
 have HNOT := zh (fun (x : Ent) (hx : x ∈ l) (hb : fewE x = false) => show fewG l = false by
  have h : l.all fewE = false := by
   cases hA : l.all fewE
   ·rfl
   rw [List.all_eq_true.1 hA x hx] at hb; cases hb
  unfold fewG; rw [h]; simp)
 have HL6 := zh hl6
 clear h6 hll hcc hl6
 rotate_left
 all_goals
   go_enter Tryz.func34, Tryz.ntmps34
   have HS := zh (St.start w)
   go_wp2
 ·go_ret
  have HS2 := aL HS #[.int .i64 cut, .int .i64 bar, .int .i64 day, .slice AA l.length cA] 24 w.heap.size
  rw [hans]
  exact ⟨rfl, HS2.out.below⟩
 go_loopw [14] (fun i wr => ∃ k : Nat, k <= l.length /\ i = .int .i64 k /\ Hid ((l.take k).all fewE = true) /\ Hid (St w [⟨w.heap.size, #[.int .i64 cut, .int .i64 bar, .int .i64 day, .slice AA l.length cA], 24⟩] wr)) (fun i _ => l.length - (intOf i).toNat)
 case atStart => exact ⟨0, Nat.zero_le _, rfl, zh rfl, (St.alloc (HS.out) #[.int .i64 cut, .int .i64 bar, .int .i64 day, .slice AA l.length cA] 24 (w.heap.size) (by simp))⟩
 case round =>
  obtain ⟨k, hk, rfl, HK, HS⟩ := hrel
  by_cases hlt : k < l.length
  ·obtain ⟨b, o, x, rfl, hbb, hq, hx⟩ := H.out.at_ hlt
   have HX := zh hx
   have HTA := zh (b3y (f := fewE) hq)
   have HXM := zh (List.mem_of_getElem? hq)
   have hdx : fewE x = (([x.cl, x.fl, x.ad, x.ce] : List Raw3).all few3 && (decide (x.p.id.length <= 60) && b0b x.p)) := rfl
   have HDX := zh hdx
   have hb2 : k <= 6 := Nat.le_trans hk HL6.out
   have e0 : (0 : Int) <= ((k : Nat) : Int) := by omega
   have e1 : ((k : Nat) : Int) < (l.length : Int) := by omega
   have e2 : decide (((k : Nat) : Int) < (l.length : Int)) = true := decide_eq_true e1
   have i1 : IntKind.i64.wrap ((k : Int) + 1) = ((k + 1 : Nat) : Int) := by rw [IntWalk.i64_in _ (by omega)]; rfl
   have HE1 := zh e1
   clear hx hq hdx hb2
   go_wp2_with (first | (refine wpList_load_mid rfl _ _ rfl (b) (o + k * 30) rfl (entM x.p x.st x.late x.cl x.fl x.ad x.ce x.acq x.chg) _ (fun j v hv => HX.out _ (HS.out).below j v hv) Tryz.underlying63 rfl a0m ?_) | (refine a0e rfl _ _ _ rfl (St.alloc (HS.out) entO 63 (wr.heap.size) (by simp)) 0 rfl (entM x.p x.st x.late x.cl x.fl x.ad x.ce x.acq x.chg) rfl rfl rfl a0m rfl ?_))
   intro w2 hS2
   have HS2 : Hid (St w [⟨wr.heap.size, (entC x), 63⟩, ⟨w.heap.size, #[.int .i64 cut, .int .i64 bar, .int .i64 day, .slice (some ⟨b, o, none⟩) l.length cA], 24⟩] w2) := zh hS2
   clear hS2 HS
   have x1 := cC HS2 0 16
   have x2 := cC HS2 0 17
   have x3 := cC HS2 0 18
   have x4 := cC HS2 0 19
   have x5 := cC HS2 0 20
   have x6 := cC HS2 0 21
   have x7 := cC HS2 0 22
   have x8 := cC HS2 0 23
   have x9 := cC HS2 0 24
   have x10 := cC HS2 0 25
   have x11 := cC HS2 0 26
   have x12 := cC HS2 0 27
   have x13 := HS2.out.lt 0 rfl
   have x14 : ¬ wr.heap.size = w2.heap.size := by omega
   have x15 : ¬ w2.heap.size = wr.heap.size := by omega
   go_wp2
   have hst := (St.alloc (HS2.out) #[.bool x.cl.n, .string (bs x.cl.a), .string (bs x.cl.b), .bool x.fl.n, .string (bs x.fl.a), .string (bs x.fl.b), .bool x.ad.n, .string (bs x.ad.a), .string (bs x.ad.b), .bool x.ce.n, .string (bs x.ce.a), .string (bs x.ce.b)] 34 (w2.heap.size) (by simp))
   obtain ⟨g4, hg4⟩ : ∃ g, g = wr.heap.size := ⟨_, rfl⟩
   obtain ⟨g26, hg26⟩ : ∃ g, g = w2.heap.size := ⟨_, rfl⟩
   rw [<- hg26] at hst ⊢
   rw [<- hg4] at hst ⊢
   have HI0 := zh hst
   clear hst hg4 hg26
   go_loopw [28] (fun i wq => ∃ j : Nat, j <= 4 /\ i = .int .i64 j /\ Hid ((([x.cl, x.fl, x.ad, x.ce] : List Raw3).take j).all few3 = true) /\ Hid (St w [⟨g26, #[.bool x.cl.n, .string (bs x.cl.a), .string (bs x.cl.b), .bool x.fl.n, .string (bs x.fl.a), .string (bs x.fl.b), .bool x.ad.n, .string (bs x.ad.a), .string (bs x.ad.b), .bool x.ce.n, .string (bs x.ce.a), .string (bs x.ce.b)], 34⟩, ⟨g4, (entC x), 63⟩, ⟨w.heap.size, #[.int .i64 cut, .int .i64 bar, .int .i64 day, .slice (some ⟨b, o, none⟩) l.length cA], 24⟩] wq)) (fun i _ => 4 - (intOf i).toNat)
   case atStart => exact ⟨0, Nat.zero_le _, rfl, zh rfl, HI0⟩
   case round =>
    obtain ⟨j, hj, rfl, HJ, HS⟩ := hrel
    by_cases hjt : j < 4
    ·have hsl : Slc rawC 3 wr (.slice (some ⟨g26, 0, none⟩) 4 4) [x.cl, x.fl, x.ad, x.ce] := Slc.of_blk rawC_len (HS.out.blk 0 rfl) rfl rfl (Nat.le_refl _) (by decide)
     obtain ⟨b2, o2, t, hA2, hbb2, hq2, hx2⟩ := hsl.at_ hjt
     obtain ⟨hg2, ho2⟩ : g26 = b2 /\ 0 = o2 := by
      injection hA2 with hA3
      injection hA3 with h1 h2
      exact ⟨h1, h2⟩
     subst hg2
     subst ho2
     have hx3 := fun W hb i u hu => hx2 W hb i u hu
     simp only [Nat.zero_add] at hx3
     have HT2 := zh hx3
     have HT3 := zh (fun (W : World) (_ : Below w.heap.size w W) => HT2.out wr (Below.refl _ _))
     have HG26 := zh hbb2
     have HTJ := zh (b3y (f := few3) hq2)
     have htm := List.mem_of_getElem? hq2
     have HBAD := zh (fun hb : few3 t = false => show ([x.cl, x.fl, x.ad, x.ce] : List Raw3).all few3 = false by
      cases hA : ([x.cl, x.fl, x.ad, x.ce] : List Raw3).all few3
      ·rfl
      rw [List.all_eq_true.1 hA t htm] at hb; cases hb)
     have hdt : few3 t = (fewR t.a t.b && a2b t.n t.a t.b) := rfl
     have hft := HF.out t
     have hvt := HV.out t
     generalize fewR t.a t.b = ff at *
     generalize a2b t.n t.a t.b = vv at *
     have HFT := zh hft
     have HVT := zh hvt
     have HDT := zh hdt
     have j0 : (0 : Int) <= ((j : Nat) : Int) := by omega
     have j1 : ((j : Nat) : Int) < 4 := by omega
     have j2 : decide (((j : Nat) : Int) < 4) = true := decide_eq_true j1
     have i2 : IntKind.i64.wrap ((j : Int) + 1) = ((j + 1 : Nat) : Int) := by rw [IntWalk.i64_in _ (by omega)]; rfl
     clear hx2 hx3 hq2 hA2 hsl htm hft hvt hdt hbb2
     cases ff
     ·have x16 : g26 < wr.heap.size := HG26.out
      have x17 : ¬ g26 = wr.heap.size := by omega
      obtain ⟨x18, x19, x20⟩ := kE0 (HT3.out _ HS.out.below) rfl rfl rfl
      go_wp2_with fail
      have HS3 := aL HS #[.bool t.n, .string (bs t.a), .string (bs t.b)] 34 wr.heap.size
      refine cL (HFT.out _) HS3 fun w4 HS4 => ?_
      clear HS HS3 x16 x17 x18 x19 x20
      go_wp2
      go_ret
      have HS5 := zh HS4.out
      rw [HNOT.out x HXM.out (by rw [HDX.out, HBAD.out (by rw [HDT.out]; rfl)]; rfl)]
      exact ⟨rfl, HS5.out.below⟩
     cases vv
     ·have x16 : g26 < wr.heap.size := HG26.out
      have x17 : ¬ g26 = wr.heap.size := by omega
      obtain ⟨x18, x19, x20⟩ := kE0 (HT3.out _ HS.out.below) rfl rfl rfl
      go_wp2_with fail
      have HS3 := aL HS #[.bool t.n, .string (bs t.a), .string (bs t.b)] 34 wr.heap.size
      refine cL (HFT.out _) HS3 fun w4 HS4 => ?_
      clear HS HS3 x16 x17 x18 x19 x20
      obtain ⟨x21, x22, x23⟩ := HS4.out.k0 0 rfl rfl rfl rfl
      go_wp2_with fail
      refine cL (HVT.out (by first | exact rfl | exact True.intro) _) HS4 fun w5 HS5 => ?_
      clear HS4 x21 x22 x23
      go_wp2
      go_ret
      have HS6 := zh HS5.out
      rw [HNOT.out x HXM.out (by rw [HDX.out, HBAD.out (by rw [HDT.out]; rfl)]; rfl)]
      exact ⟨rfl, HS6.out.below⟩
     have x16 : g26 < wr.heap.size := HG26.out
     have x17 : ¬ g26 = wr.heap.size := by omega
     obtain ⟨x18, x19, x20⟩ := kE0 (HT3.out _ HS.out.below) rfl rfl rfl
     go_wp2_with fail
     have HS3 := aL HS #[.bool t.n, .string (bs t.a), .string (bs t.b)] 34 wr.heap.size
     refine cL (HFT.out _) HS3 fun w4 HS4 => ?_
     clear HS HS3 x16 x17 x18 x19 x20
     obtain ⟨x21, x22, x23⟩ := HS4.out.k0 0 rfl rfl rfl rfl
     go_wp2_with fail
     refine cL (HVT.out (by first | exact rfl | exact True.intro) _) HS4 fun w5 HS5 => ?_
     clear HS4 x21 x22 x23
     go_wp2
     have HS6 := zh HS5.out
     go_roundw
     case rel => exact ⟨j + 1, by omega, by go_num, zh (by rw [HTJ.out, HJ.out, HDT.out]; rfl), HS6.out.sub (List.Sublist.cons _ (List.Sublist.refl _))⟩
     case measure => simp [intOf]; omega
    have hall : ([x.cl, x.fl, x.ad, x.ce] : List Raw3).all few3 = true := by
     have h := HJ.out
     rw [List.take_of_length_le (by simp; omega)] at h; exact h
    obtain rfl : j = 4 := by omega
    have j2 : decide (((4 : Nat) : Int) < 4) = false := by decide
    have hvp := HP.out x.p
    have hdx := HDX.out
    rw [hall] at hdx
    generalize b0b x.p = vp at *
    have HVP := zh hvp
    have HEX := zh hdx
    clear hall hvp hdx HDX HJ
    have es : ((bs x.p.id).size : Int) = (x.p.id.length : Int) := by rw [a1q]
    by_cases h60 : 60 < x.p.id.length
    ·have d60 : decide ((60 : Int) < (x.p.id.length : Int)) = true := decide_eq_true (by omega)
     have d61 : decide (60 < x.p.id.length) = true := decide_eq_true h60
     have hex : fewE x = false := by rw [HEX.out, decide_eq_false (by omega)]; rfl
     clear h60
     have x16 := cC HS 1 0
     go_wp2
     go_ret
     have HS3 := zh HS.out
     rw [HNOT.out x HXM.out hex]
     exact ⟨rfl, HS3.out.below⟩
    have d60 : decide ((60 : Int) < (x.p.id.length : Int)) = false := decide_eq_false (by omega)
    have d61 : decide (60 < x.p.id.length) = false := decide_eq_false h60
    have hde : decide (x.p.id.length <= 60) = true := decide_eq_true (by omega)
    have hex := HEX.out
    rw [hde] at hex
    have HEX2 := zh hex
    clear h60 hde hex HEX
    cases vp
    ·have x16 := cC HS 1 0
     obtain ⟨x17, x18, x19⟩ := HS.out.k1 1 rfl rfl rfl rfl
     obtain ⟨x20, x21, x22⟩ := HS.out.k4 1 rfl rfl rfl rfl
     obtain ⟨x23, x24, x25⟩ := HS.out.k7 1 rfl rfl rfl rfl
     have x26 := cC HS 1 10
     have x27 := cC HS 1 11
     have x28 := cC HS 1 12
     have x29 := cC HS 1 13
     go_wp2_with fail
     refine cL (HVP.out _) HS fun w3 HS3 => ?_
     clear HS x16 x17 x18 x19 x20 x21 x22 x23 x24 x25 x26 x27 x28 x29
     go_wp2
     go_ret
     have HS4 := zh HS3.out
     rw [HNOT.out x HXM.out (by rw [HEX2.out]; rfl)]
     exact ⟨rfl, HS4.out.below⟩
    have x16 := cC HS 1 0
    obtain ⟨x17, x18, x19⟩ := HS.out.k1 1 rfl rfl rfl rfl
    obtain ⟨x20, x21, x22⟩ := HS.out.k4 1 rfl rfl rfl rfl
    obtain ⟨x23, x24, x25⟩ := HS.out.k7 1 rfl rfl rfl rfl
    have x26 := cC HS 1 10
    have x27 := cC HS 1 11
    have x28 := cC HS 1 12
    have x29 := cC HS 1 13
    go_wp2_with fail
    refine cL (HVP.out _) HS fun w3 HS3 => ?_
    clear HS x16 x17 x18 x19 x20 x21 x22 x23 x24 x25 x26 x27 x28 x29
    go_wp2
    have HS4 := zh HS3.out
    go_roundw
    case rel => exact ⟨k + 1, by omega, by go_num, zh (by rw [HTA.out, HK.out, HEX2.out]; rfl), HS4.out.sub (List.Sublist.cons _ (List.Sublist.cons _ (List.Sublist.refl _)))⟩
    case measure => simp [intOf]; omega
  obtain rfl : k = l.length := by omega
  have e2 : decide (((l.length : Nat) : Int) < (l.length : Int)) = false := decide_eq_false (by omega)
  have hans := HK.out
  rw [List.take_length] at hans
  go_wp2
  go_ret
  have HS2 := zh HS.out
  rw [HALL.out hans]
  exact ⟨rfl, HS2.out.below⟩
end Go.Proofs.YtlkhoommpkndpaaGreatDoor
