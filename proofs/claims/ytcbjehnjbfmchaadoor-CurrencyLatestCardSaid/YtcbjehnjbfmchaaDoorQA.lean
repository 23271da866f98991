/-
Arguments opened: steps of a rate; pairs of words.
-/
import Derived.Test.YtcbjehnjbfmchaaDoorPB
import Derived.Test.YtcbjehnjbfmchaaDoorPI
import Derived.Test.YtcbjehnjbfmchaaDoorQ4
import Derived.Test.YtcbjehnjbfmchaaDoorQ9
namespace Go.Proofs.YtcbjehnjbfmchaaDoor
open Go.ChangeShapes Go.WideShapes Go.ChangeAt Go.ChangeMaps Go.RowKit

theorem list4 {α : Type} {l : List α} (h : l.length = 4) : ∃ a b c d, l = [a, b, c, d] := by
  match l, h with
  | [a, b, c, d], _ => exact ⟨a, b, c, d, rfl⟩
section
variable {H : Type} {enc : TypeId × Value → H} {W : World} {base : Nat} {sp : Nat → Bool} {held : Bool}
set_option maxRecDepth 100000 in
theorem cells_step : Tryd.prog.cellsOf 86 = 4 := by kernel_rfl
def StpDay (s : Stp) : Prop := -9223372036854775808 ≤ s.frm ∧ s.frm ≤ 9223372036854775807
/-- Four cells that read as a step. -/
theorem dec_step {n : Nat} {cs : List Value} {y : DataW H × List MemPlace} (h : DataW.trod enc Tryd.prog W base sp held n 86 cs = some y) : ∃ q : Stp, cs = q.enc ∧ StpDay q := by
  obtain ⟨xs, m, rfl, hx, hl, hxl, hf⟩ := DataW.trod_struct Tryd.underlying86 h
  rw [cells_step] at hl
  obtain ⟨c0, c1, c2, c3, rfl⟩ := list4 hl
  obtain ⟨y0, y1, rfl⟩ := list2 (show xs.length = 2 from hxl)
  have h0 := hf 0 _ rfl
  have h1 := hf 1 _ rfl
  simp only [List.getElem_toArray, List.getElem_cons_zero, List.getElem_cons_succ] at h0 h1
  rw [cells_int] at h0
  rw [cells_rat] at h1
  obtain ⟨a, e0, _, wa⟩ := DataW.trod_int Tryd.underlying3 (show DataW.trod enc Tryd.prog W base sp held m 3 [c0] = some y0 from h0)
  obtain ⟨neg, num, den, e1, _, _⟩ := dec_rat (show DataW.trod enc Tryd.prog W base sp held m 30 [c1, c2, c3] = some y1 from h1)
  injection e0 with e0
  unfold ratCells at e1
  simp only [List.cons.injEq, and_true] at e1
  obtain ⟨rfl, rfl, rfl⟩ := e1
  subst e0
  exact ⟨⟨a, neg, num, den⟩, rfl, int_range wa⟩
set_option maxRecDepth 100000 in
theorem cells_arr2 : Tryd.prog.cellsOf 92 = 2 := by kernel_rfl
set_option maxRecDepth 100000 in
/-- Two cells that read as two words. -/
theorem dec_arr2 {n : Nat} {cs : List Value} {y : DataW H × List MemPlace} (h : DataW.trod enc Tryd.prog W base sp held n 92 cs = some y) : ∃ t : Duo, cs = t.enc ∧ t.ok := by
  obtain ⟨xs, m, rfl, hx, hl, hxl, hf⟩ := DataW.trod_array Tryd.underlying92 h
  rw [cells_arr2] at hl
  obtain ⟨c0, c1, rfl⟩ := list2 hl
  obtain ⟨y0, y1, rfl⟩ := list2 (show xs.length = 2 from hxl)
  have h0 := hf 0 (by decide)
  have h1 := hf 1 (by decide)
  rw [cells_u16] at h0 h1
  obtain ⟨a, e0, _, w0⟩ := DataW.trod_int Tryd.underlying28 (show DataW.trod enc Tryd.prog W base sp held m 28 [c0] = some y0 from h0)
  obtain ⟨b, e1, _, w1⟩ := DataW.trod_int Tryd.underlying28 (show DataW.trod enc Tryd.prog W base sp held m 28 [c1] = some y1 from h1)
  injection e0 with e0
  injection e1 with e1
  subst e0; subst e1
  obtain ⟨a0, a1⟩ := u16_range w0
  obtain ⟨b0, b1⟩ := u16_range w1
  refine ⟨⟨a.toNat, b.toNat⟩, ?_, ?_⟩
  · unfold Duo.enc
    dsimp only
    rw [Int.toNat_of_nonneg a0, Int.toNat_of_nonneg b0]
  · unfold Duo.ok
    dsimp only
    omega
end
end Go.Proofs.YtcbjehnjbfmchaaDoor

/-
InterestCheck, InterestRate, InterestSimple: the laws walked (printed by gen_law6b.py).
-/
namespace Go.Proofs.YtcbjehnjbfmchaaDoor
open Go.ChangeShapes Go.WideShapes Go.ChangeAt Go.ChangeMaps Go.RowKit

theorem rateR_sized {l : List Stp} {N : Nat} (h1 : 1 ≤ N) (hN : RatesIn N l) (day : Int) : Sized N (rateR l day).1 := by
  unfold rateR
  split
  · exact sized_zero.mono h1
  · split
    · exact sized_zero.mono h1
    · exact rateS_sized h1 hN day
theorem simpR_sized {p : Rat} {l : List Stp} {src dst base : Int} (hp : Sized 1000 p) (hN : ∀ s ∈ l, s.num.length ≤ 1000 ∧ s.den.length ≤ 1000) : Sized 100000 (simpR p l src dst base).1 := by
  unfold simpR
  split
  · exact sized_zero.mono (by decide)
  · rename_i h
    obtain ⟨z1, z2, z3, z4, _, z6, z7⟩ := args_zero (Classical.not_not.1 h)
    have q1 := dayB_in z2
    have q2 := dayB_in z3
    have hx := simp_sized (src := src) (dst := dst) (base := base) (checkS_rising z1) (checkS_zero z1).1 (rates_in (by decide) hN) (by omega) (by omega) (by omega) (by omega)
    exact (hp.mul hx).mono (by decide)
theorem eql_same {q : Rat} {N : Nat} (h : Sized N q) (hN : N ≤ 1099511627776) (W : World) : (binOp .eql 30 (rat q) (rat q)).run Tryd.prog W = .ok (.bool true) W :=
  rat_eql _ _ _ _ _ _ (Nat.le_trans h.num hN) (Nat.le_trans h.denom hN) (Nat.le_trans h.num hN) (Nat.le_trans h.denom hN) true (by simp) W

set_option maxRecDepth 100000 in
set_option maxHeartbeats 1000000 in
theorem law_InterestCheck (v : Value) (l : List Stp) (w : World) (h : StepsL w v l) (_ : ∀ s ∈ l, StpDay s) :
    Calls Tryd.prog 10 #[v] w fun e w' => e = .returned (.bool true) ∧ Below w.heap.size w w' := by
  have hF := fun W (hb : Below w.heap.size w W) => law6_few v l W (h.below hb)
  have HAW := Lib.hid (fun W => law6_awake W)
  obtain ⟨fB, hfB⟩ : ∃ x, x = fewS l := ⟨_, rfl⟩
  rw [← hfB] at hF
  have HF := Lib.hid hF
  clear hF
  cases fB
  · clear h hfB
    go_enter Tryd.func10, Tryd.ntmps10
    have HS := Lib.hid (St.start w)
    go_wp2_with fail
    refine (HF.out _ HS.out.below).mono ?_
    rintro e w2 ⟨rfl, hb2⟩
    have HS2 := Lib.hid (HS.out.call hb2)
    clear hb2 HS
    go_wp2_with fail
    refine (HAW.out _).mono ?_
    rintro e w3 ⟨rfl, hb3⟩
    have HS3 := Lib.hid (HS2.out.call hb3)
    clear hb3 HS2
    go_wp2
    go_ret
    have HS4 : Hid (St w [] _) := Lib.hid HS3.out
    exact ⟨rfl, HS4.out.below⟩
  · obtain ⟨_, hok⟩ := fewS_in hfB.symm
    have hA := fun W (hb : Below w.heap.size w W) => interest_Check v l W (h.below hb) (fun s hs => by have := hok s hs; omega)
    have hB := fun W (hb : Below w.heap.size w W) => ref_CheckSteps v l W (h.below hb) (fun s hs => by have := hok s hs; omega)
    generalize checkS l = m at *
    have HA := Lib.hid hA
    have HB := Lib.hid hB
    clear h hfB hA hB hok
    go_enter Tryd.func10, Tryd.ntmps10
    have HS := Lib.hid (St.start w)
    go_wp2_with fail
    refine (HF.out _ HS.out.below).mono ?_
    rintro e w2 ⟨rfl, hb2⟩
    have HS2 := Lib.hid (HS.out.call hb2)
    clear hb2 HS
    go_wp2_with fail
    refine (HAW.out _).mono ?_
    rintro e w3 ⟨rfl, hb3⟩
    have HS3 := Lib.hid (HS2.out.call hb3)
    clear hb3 HS2
    go_wp2_with fail
    refine (HA.out _ HS3.out.below).mono ?_
    rintro e w4 ⟨rfl, hb4⟩
    have HS4 := Lib.hid (HS3.out.call hb4)
    clear hb4 HS3
    go_wp2_with fail
    refine (HB.out _ HS4.out.below).mono ?_
    rintro e w5 ⟨rfl, hb5⟩
    have HS5 := Lib.hid (HS4.out.call hb5)
    clear hb5 HS4
    go_wp2
    go_ret
    have HS6 : Hid (St w [] _) := Lib.hid HS5.out
    exact ⟨rfl, HS6.out.below⟩

set_option maxRecDepth 100000 in
set_option maxHeartbeats 1000000 in
theorem law_InterestRate (v : Value) (l : List Stp) (day : Int) (w : World) (h : StepsL w v l) (_ : ∀ s ∈ l, StpDay s) (_ : -9223372036854775808 ≤ day ∧ day ≤ 9223372036854775807) :
    Calls Tryd.prog 14 #[v, .int .i64 day] w fun e w' => e = .returned (.bool true) ∧ Below w.heap.size w w' := by
  have hF := fun W (hb : Below w.heap.size w W) => law6_few v l W (h.below hb)
  have HAW := Lib.hid (fun W => law6_awake W)
  obtain ⟨fB, hfB⟩ : ∃ x, x = fewS l := ⟨_, rfl⟩
  rw [← hfB] at hF
  have HF := Lib.hid hF
  clear hF
  cases fB
  · clear h hfB
    go_enter Tryd.func14, Tryd.ntmps14
    have HS := Lib.hid (St.start w)
    go_wp2_with fail
    refine (HF.out _ HS.out.below).mono ?_
    rintro e w2 ⟨rfl, hb2⟩
    have HS2 := Lib.hid (HS.out.call hb2)
    clear hb2 HS
    go_wp2_with fail
    refine (HAW.out _).mono ?_
    rintro e w3 ⟨rfl, hb3⟩
    have HS3 := Lib.hid (HS2.out.call hb3)
    clear hb3 HS2
    go_wp2
    go_ret
    have HS4 : Hid (St w [] _) := Lib.hid HS3.out
    exact ⟨rfl, HS4.out.below⟩
  · obtain ⟨_, hok⟩ := fewS_in hfB.symm
    have hA := fun W (hb : Below w.heap.size w W) => interest_Rate v l day W (h.below hb) (fun s hs => by have := hok s hs; omega)
    have hB := fun W (hb : Below w.heap.size w W) => ref_InterestRate v l day W (h.below hb) (fun s hs => by have := hok s hs; omega)
    have hq := eql_same (rateR_sized (by decide) (rates_in (N := 24) (by decide) hok) day) (by decide)
    obtain ⟨r, m, hr⟩ : ∃ r m, rateR l day = (r, m) := ⟨_, _, rfl⟩
    rw [hr] at hA hB hq
    dsimp only at hA hB hq
    unfold rat raw at hA hB hq
    have HA := Lib.hid hA
    have HB := Lib.hid hB
    clear h hfB hA hB hok hr
    go_enter Tryd.func14, Tryd.ntmps14
    have HS := Lib.hid (St.start w)
    go_wp2_with fail
    refine (HF.out _ HS.out.below).mono ?_
    rintro e w2 ⟨rfl, hb2⟩
    have HS2 := Lib.hid (HS.out.call hb2)
    clear hb2 HS
    go_wp2_with fail
    refine (HA.out _ HS2.out.below).mono ?_
    rintro e w3 ⟨rfl, hb3⟩
    have HS3 := Lib.hid (HS2.out.call hb3)
    clear hb3 HS2
    go_wp2_with fail
    have HS4 : Hid (St w [⟨w3.heap.size, #[.bool (negB (r)), .string (bs (numB (r))), .string (bs (denomB (r)))], 30⟩] _) := Lib.hid (St.alloc (HS3.out) #[.bool (negB (r)), .string (bs (numB (r))), .string (bs (denomB (r)))] 30 _ (by simp))
    refine (HB.out _ HS4.out.below).mono ?_
    rintro e w5 ⟨rfl, hb5⟩
    have HS5 := Lib.hid (HS4.out.call hb5)
    clear hb5 HS3 HS4
    go_wp2_with fail
    have HS6 : Hid (St w [⟨w5.heap.size, #[.bool (negB (r)), .string (bs (numB (r))), .string (bs (denomB (r)))], 30⟩, ⟨w3.heap.size, #[.bool (negB (r)), .string (bs (numB (r))), .string (bs (denomB (r)))], 30⟩] _) := Lib.hid (St.alloc (HS5.out) #[.bool (negB (r)), .string (bs (numB (r))), .string (bs (denomB (r)))] 30 _ (by simp))
    refine (HAW.out _).mono ?_
    rintro e w7 ⟨rfl, hb7⟩
    have HS7 := Lib.hid (HS6.out.call hb7)
    clear hb7 HS5 HS6
    have x1 := HS7.out.cell 1 rfl 0 rfl
    have x2 := HS7.out.cell 1 rfl 1 rfl
    have x3 := HS7.out.cell 1 rfl 2 rfl
    have x4 := HS7.out.cell 0 rfl 0 rfl
    have x5 := HS7.out.cell 0 rfl 1 rfl
    have x6 := HS7.out.cell 0 rfl 2 rfl
    go_wp2
    go_ret
    have HS8 : Hid (St w [⟨w5.heap.size, #[.bool (negB (r)), .string (bs (numB (r))), .string (bs (denomB (r)))], 30⟩, ⟨w3.heap.size, #[.bool (negB (r)), .string (bs (numB (r))), .string (bs (denomB (r)))], 30⟩] _) := Lib.hid HS7.out
    exact ⟨rfl, HS8.out.below⟩

set_option maxRecDepth 100000 in
set_option maxHeartbeats 1000000 in
theorem law_InterestSimple (n : Bool) (a b : List UInt8) (v : Value) (l : List Stp) (src dst base : Int) (w : World) (h : StepsL w v l) (_ : ∀ s ∈ l, StpDay s) (_ : -9223372036854775808 ≤ src ∧ src ≤ 9223372036854775807) (_ : -9223372036854775808 ≤ dst ∧ dst ≤ 9223372036854775807) (_ : -9223372036854775808 ≤ base ∧ base ≤ 9223372036854775807) :
    Calls Tryd.prog 11 #[raw n a b, v, .int .i64 src, .int .i64 dst, .int .i64 base] w fun e w' => e = .returned (.bool true) ∧ Below w.heap.size w w' := by
  have hF := fun W (hb : Below w.heap.size w W) => law6_few v l W (h.below hb)
  have HAW := Lib.hid (fun W => law6_awake W)
  obtain ⟨fB, hfB⟩ : ∃ x, x = fewS l := ⟨_, rfl⟩
  rw [← hfB] at hF
  have HF := Lib.hid hF
  clear hF
  have hG := fun W => law0_Few n a b W
  obtain ⟨gB, hgB⟩ : ∃ x, x = fewR a b := ⟨_, rfl⟩
  rw [← hgB] at hG
  unfold raw at hG
  have HG := Lib.hid hG
  unfold raw
  clear hG
  cases fB
  · clear h hfB hgB
    go_enter Tryd.func11, Tryd.ntmps11
    have HS := Lib.hid (St.start w)
    go_wp2_with fail
    have HS2 : Hid (St w [⟨w.heap.size, #[.bool n, .string (bs a), .string (bs b)], 30⟩] _) := Lib.hid (St.alloc (HS.out) #[.bool n, .string (bs a), .string (bs b)] 30 _ (by simp))
    refine (HF.out _ HS2.out.below).mono ?_
    rintro e w3 ⟨rfl, hb3⟩
    have HS3 := Lib.hid (HS2.out.call hb3)
    clear hb3 HS HS2
    go_wp2_with fail
    refine (HAW.out _).mono ?_
    rintro e w4 ⟨rfl, hb4⟩
    have HS4 := Lib.hid (HS3.out.call hb4)
    clear hb4 HS3
    go_wp2
    go_ret
    have HS5 : Hid (St w [⟨w.heap.size, #[.bool n, .string (bs a), .string (bs b)], 30⟩] _) := Lib.hid HS4.out
    exact ⟨rfl, HS5.out.below⟩
  · cases gB
    · clear h hfB hgB
      go_enter Tryd.func11, Tryd.ntmps11
      have HS := Lib.hid (St.start w)
      go_wp2_with fail
      have HS2 : Hid (St w [⟨w.heap.size, #[.bool n, .string (bs a), .string (bs b)], 30⟩] _) := Lib.hid (St.alloc (HS.out) #[.bool n, .string (bs a), .string (bs b)] 30 _ (by simp))
      refine (HF.out _ HS2.out.below).mono ?_
      rintro e w3 ⟨rfl, hb3⟩
      have HS3 := Lib.hid (HS2.out.call hb3)
      clear hb3 HS HS2
      have x1 := HS3.out.cell 0 rfl 0 rfl
      have x2 := HS3.out.cell 0 rfl 1 rfl
      have x3 := HS3.out.cell 0 rfl 2 rfl
      go_wp2_with fail
      refine (HG.out _).mono ?_
      rintro e w4 ⟨rfl, hb4⟩
      have HS4 := Lib.hid (HS3.out.call hb4)
      clear hb4 HS3
      clear x1 x2 x3
      go_wp2_with fail
      refine (HAW.out _).mono ?_
      rintro e w5 ⟨rfl, hb5⟩
      have HS5 := Lib.hid (HS4.out.call hb5)
      clear hb5 HS4
      go_wp2
      go_ret
      have HS6 : Hid (St w [⟨w.heap.size, #[.bool n, .string (bs a), .string (bs b)], 30⟩] _) := Lib.hid HS5.out
      exact ⟨rfl, HS6.out.below⟩
    · obtain ⟨_, hok⟩ := fewS_in hfB.symm
      have hab : a.length ≤ 24 ∧ b.length ≤ 24 := by unfold fewR at hgB; simpa using hgB.symm
      obtain ⟨la, lb⟩ := hab
      have hok2 : ∀ s ∈ l, s.num.length ≤ 1000 ∧ s.den.length ≤ 1000 := fun s hs => by have := hok s hs; omega
      have hA := fun W (hb : Below w.heap.size w W) => interest_Simple n a b v l src dst base W (h.below hb) hok2 (by omega) (by omega)
      have hB := fun W (hb : Below w.heap.size w W) => ref_Simple n a b v l src dst base W (h.below hb) hok2 (by omega) (by omega)
      have hq := eql_same (simpR_sized (src := src) (dst := dst) (base := base) (sized_dec (neg := n) (num := a) (den := b) (N := 1000) (by omega) (by omega) (by decide)) hok2) (by decide)
      obtain ⟨r, m, hr⟩ : ∃ r m, simpR (decR n a b) l src dst base = (r, m) := ⟨_, _, rfl⟩
      rw [hr] at hA hB hq
      dsimp only at hA hB hq
      unfold rat raw at hA hB hq
      have HA := Lib.hid hA
      have HB := Lib.hid hB
      clear h hfB hgB hA hB hok hok2 hr la lb
      go_enter Tryd.func11, Tryd.ntmps11
      have HS := Lib.hid (St.start w)
      go_wp2_with fail
      have HS2 : Hid (St w [⟨w.heap.size, #[.bool n, .string (bs a), .string (bs b)], 30⟩] _) := Lib.hid (St.alloc (HS.out) #[.bool n, .string (bs a), .string (bs b)] 30 _ (by simp))
      refine (HF.out _ HS2.out.below).mono ?_
      rintro e w3 ⟨rfl, hb3⟩
      have HS3 := Lib.hid (HS2.out.call hb3)
      clear hb3 HS HS2
      have x1 := HS3.out.cell 0 rfl 0 rfl
      have x2 := HS3.out.cell 0 rfl 1 rfl
      have x3 := HS3.out.cell 0 rfl 2 rfl
      go_wp2_with fail
      refine (HG.out _).mono ?_
      rintro e w4 ⟨rfl, hb4⟩
      have HS4 := Lib.hid (HS3.out.call hb4)
      clear hb4 HS3
      clear x1 x2 x3
      have x4 := HS4.out.cell 0 rfl 0 rfl
      have x5 := HS4.out.cell 0 rfl 1 rfl
      have x6 := HS4.out.cell 0 rfl 2 rfl
      go_wp2_with fail
      refine (HA.out _ HS4.out.below).mono ?_
      rintro e w5 ⟨rfl, hb5⟩
      have HS5 := Lib.hid (HS4.out.call hb5)
      clear hb5 HS4
      clear x4 x5 x6
      have x7 := HS5.out.cell 0 rfl 0 rfl
      have x8 := HS5.out.cell 0 rfl 1 rfl
      have x9 := HS5.out.cell 0 rfl 2 rfl
      have x10 := HS5.out.lt 0 rfl
      have x11 : ¬ w.heap.size = w5.heap.size := by omega
      have x12 : ¬ w5.heap.size = w.heap.size := by omega
      go_wp2_with fail
      have HS6 : Hid (St w [⟨w5.heap.size, #[.bool (negB (r)), .string (bs (numB (r))), .string (bs (denomB (r)))], 30⟩, ⟨w.heap.size, #[.bool n, .string (bs a), .string (bs b)], 30⟩] _) := Lib.hid (St.alloc (HS5.out) #[.bool (negB (r)), .string (bs (numB (r))), .string (bs (denomB (r)))] 30 _ (by simp))
      refine (HB.out _ HS6.out.below).mono ?_
      rintro e w7 ⟨rfl, hb7⟩
      have HS7 := Lib.hid (HS6.out.call hb7)
      clear hb7 HS5 HS6
      clear x7 x8 x9 x10 x11 x12
      go_wp2_with fail
      have HS8 : Hid (St w [⟨w7.heap.size, #[.bool (negB (r)), .string (bs (numB (r))), .string (bs (denomB (r)))], 30⟩, ⟨w5.heap.size, #[.bool (negB (r)), .string (bs (numB (r))), .string (bs (denomB (r)))], 30⟩, ⟨w.heap.size, #[.bool n, .string (bs a), .string (bs b)], 30⟩] _) := Lib.hid (St.alloc (HS7.out) #[.bool (negB (r)), .string (bs (numB (r))), .string (bs (denomB (r)))] 30 _ (by simp))
      refine (HAW.out _).mono ?_
      rintro e w9 ⟨rfl, hb9⟩
      have HS9 := Lib.hid (HS8.out.call hb9)
      clear hb9 HS7 HS8
      have x13 := HS9.out.cell 1 rfl 0 rfl
      have x14 := HS9.out.cell 1 rfl 1 rfl
      have x15 := HS9.out.cell 1 rfl 2 rfl
      have x16 := HS9.out.cell 0 rfl 0 rfl
      have x17 := HS9.out.cell 0 rfl 1 rfl
      have x18 := HS9.out.cell 0 rfl 2 rfl
      go_wp2
      go_ret
      have HS10 : Hid (St w [⟨w7.heap.size, #[.bool (negB (r)), .string (bs (numB (r))), .string (bs (denomB (r)))], 30⟩, ⟨w5.heap.size, #[.bool (negB (r)), .string (bs (numB (r))), .string (bs (denomB (r)))], 30⟩, ⟨w.heap.size, #[.bool n, .string (bs a), .string (bs b)], 30⟩] _) := Lib.hid HS9.out
      exact ⟨rfl, HS10.out.below⟩
end Go.Proofs.YtcbjehnjbfmchaaDoor
