/-
The laws of interest: the test of shortness, the check of themselves (printed by gen_law6a.py).
-/
import Derived.Test.YtakoagjpmdcddaaGreatDoorW4
import Derived.Test.YtakoagjpmdcddaaGreatDoorVH
namespace Go.Proofs.YtakoagjpmdcddaaGreatDoor
open Go.RowKit

def fewSt (s : Stp) : Bool := fewR s.num s.den
def fewS (l : List Stp) : Bool := decide (l.length ≤ 10) && l.all fewSt
theorem fewS_in {l : List Stp} (h : fewS l = true) : l.length ≤ 10 ∧ ∀ s ∈ l, s.num.length ≤ 24 ∧ s.den.length ≤ 24 := by
  unfold fewS at h
  rw [Bool.and_eq_true, decide_eq_true_eq] at h
  refine ⟨h.1, fun s hs => ?_⟩
  have := List.all_eq_true.1 h.2 s hs
  unfold fewSt fewR at this
  simpa using this

set_option maxRecDepth 100000 in
set_option maxHeartbeats 1000000 in
theorem law6_few (v : Value) (l : List Stp) (w : World) (h : StepsL w v l) :
    Calls Tryz.prog 8 #[v] w fun e w' => e = .returned (.bool (fewS l)) ∧ Below w.heap.size w w' := by
  have H := Lib.hid h
  obtain ⟨A, c, rfl, hl, hc⟩ := h.slice
  clear h
  by_cases hlen : 10 < l.length
  · have hd : decide ((10 : Int) < (l.length : Int)) = true := decide_eq_true (by omega)
    have HR : Hid (fewS l = false) := by show _ = _; unfold fewS; rw [decide_eq_false (by omega)]; rfl
    go_enter Tryz.func8, Tryz.ntmps8
    have HS := Lib.hid (St.start w)
    go_wp2
    go_ret
    rw [HR.out]
    exact ⟨rfl, HS.out.below⟩
  · have hd : decide ((10 : Int) < (l.length : Int)) = false := decide_eq_false (by omega)
    go_enter Tryz.func8, Tryz.ntmps8
    have HS := Lib.hid (St.start w)
    go_wp2
    go_loopw [10] (fun i wr => ∃ k : Nat, k ≤ l.length ∧ i = .int .i64 k ∧ Hid ((l.take k).all fewSt = true) ∧ Hid (St w [] wr)) (fun i _ => l.length - (intOf i).toNat)
    case atStart => exact ⟨0, Nat.zero_le _, rfl, rfl, HS.out⟩
    case round =>
      obtain ⟨k, hk, rfl, hck, HS⟩ := hrel
      by_cases hlt : k < l.length
      · obtain ⟨b, o, s, rfl, hbb, hq, hx⟩ := H.out.at_ hlt
        have HX := Lib.hid hx
        have HTA := Lib.hid (take_all (f := fewSt) hq)
        have HIN := Lib.hid (List.mem_of_getElem? hq)
        have hF := fun W => law0_Few s.neg s.num s.den W
        obtain ⟨fB, hfB⟩ : ∃ x, x = fewSt s := ⟨_, rfl⟩
        change ∀ W, Calls Tryz.prog _ _ W (fun e w' => e = .returned (.bool (fewSt s)) ∧ _) at hF
        rw [← hfB] at hF
        unfold raw at hF
        have HF := Lib.hid hF
        have HFB := Lib.hid hfB.symm
        have e0 : (0 : Int) ≤ ((k : Nat) : Int) := by omega
        have e1 : ((k : Nat) : Int) < (l.length : Int) := by omega
        clear hx hq hF hfB
        cases fB
        · have x1 : b < wr.heap.size := Nat.lt_of_lt_of_le hbb HS.out.below.size
          have x2 : ¬ b = wr.heap.size := by omega
          have x3 := HX.out _ HS.out.below 0 _ rfl
          rw [Nat.add_zero] at x3
          have x4 := HX.out _ HS.out.below 1 _ rfl
          have x5 := HX.out _ HS.out.below 2 _ rfl
          have x6 := HX.out _ HS.out.below 3 _ rfl
          go_wp2_with fail
          have HS2 : Hid (St w [⟨wr.heap.size, #[.int .i64 s.frm, .bool s.neg, .string (bs s.num), .string (bs s.den)], 29⟩] _) := Lib.hid (St.alloc (HS.out) #[.int .i64 s.frm, .bool s.neg, .string (bs s.num), .string (bs s.den)] 29 _ (by simp))
          refine (HF.out _).mono ?_
          rintro e w3 ⟨rfl, hb3⟩
          have HS3 := Lib.hid (HS2.out.call hb3)
          clear hb3 HS HS2
          clear x1 x2 x3 x4 x5 x6
          go_wp2
          have HS4 : Hid (St w [⟨wr.heap.size, #[.int .i64 s.frm, .bool s.neg, .string (bs s.num), .string (bs s.den)], 29⟩] _) := Lib.hid HS3.out
          go_ret
          have HR : fewS l = false := by
            unfold fewS; rw [Bool.and_eq_false_iff]; right; rw [List.all_eq_false]; exact ⟨s, HIN.out, by rw [HFB.out]; decide⟩
          rw [HR]
          exact ⟨rfl, HS4.out.below⟩
        · have x1 : b < wr.heap.size := Nat.lt_of_lt_of_le hbb HS.out.below.size
          have x2 : ¬ b = wr.heap.size := by omega
          have x3 := HX.out _ HS.out.below 0 _ rfl
          rw [Nat.add_zero] at x3
          have x4 := HX.out _ HS.out.below 1 _ rfl
          have x5 := HX.out _ HS.out.below 2 _ rfl
          have x6 := HX.out _ HS.out.below 3 _ rfl
          go_wp2_with fail
          have HS2 : Hid (St w [⟨wr.heap.size, #[.int .i64 s.frm, .bool s.neg, .string (bs s.num), .string (bs s.den)], 29⟩] _) := Lib.hid (St.alloc (HS.out) #[.int .i64 s.frm, .bool s.neg, .string (bs s.num), .string (bs s.den)] 29 _ (by simp))
          refine (HF.out _).mono ?_
          rintro e w3 ⟨rfl, hb3⟩
          have HS3 := Lib.hid (HS2.out.call hb3)
          clear hb3 HS HS2
          clear x1 x2 x3 x4 x5 x6
          go_wp2
          have HS4 : Hid (St w [⟨wr.heap.size, #[.int .i64 s.frm, .bool s.neg, .string (bs s.num), .string (bs s.den)], 29⟩] _) := Lib.hid HS3.out
          go_roundw
          case rel => exact ⟨k + 1, by omega, by go_num, by show _ = _; rw [HTA.out, hck.out, HFB.out]; rfl, HS4.out.sub (List.nil_sublist _)⟩
          case measure => simp [intOf]; omega
      · obtain rfl : k = l.length := by omega
        go_wp2
        go_ret
        have HR : fewS l = true := by
          have := hck.out
          rw [List.take_length] at this
          unfold fewS; rw [this, decide_eq_true (by omega)]; rfl
        rw [HR]
        exact ⟨rfl, HS.out.below⟩

def awakeS : List Stp := [⟨0, false, [1], [10]⟩]
theorem awakeS_ok : ∀ s ∈ awakeS, s.num.length ≤ 1000 ∧ s.den.length ≤ 1000 := by
  intro s hs
  unfold awakeS at hs
  have : s = ⟨0, false, [1], [10]⟩ := by simpa using hs
  subst this
  exact ⟨by decide, by decide⟩
theorem awakeS_simple : simpR ((36500 : Int) : Rat) awakeS 10 40 365 = (((300 : Int) : Rat), 0) := by decide +kernel
theorem awakeS_compound : compR ((36500 : Int) : Rat) awakeS 10 40 365 15 = (mkRat 21945 73, 0) := by decide +kernel
theorem enc_1_10 : rat (mkRat 1 10) = raw false [1] [10] := enc_small (by decide +kernel) (n := 1) (d := 10) (by decide +kernel) (by decide +kernel) (by decide) (by decide) (by decide) (by decide)

set_option maxRecDepth 100000 in
set_option maxHeartbeats 1000000 in
theorem law6_awake (w : World) : Calls Tryz.prog 10 #[] w fun e w' => e = .returned (.bool true) ∧ Below w.heap.size w w' := by
  have r1 := fun W => law0_Ratio 1 10 W (by decide) (by decide) (by decide) (by decide)
  have r2 := fun W => law0_Ratio 21945 73 W (by decide) (by decide) (by decide) (by decide)
  have w1 := fun W => law0_Whole 36500 W (by decide) (by decide)
  have w2 := fun W => law0_Whole 300 W (by decide) (by decide)
  rw [show (10 : Int).toNat = 10 from rfl, enc_1_10] at r1
  rw [show (73 : Int).toNat = 73 from rfl] at r2
  have hz := sized_int8 (n := 36500) (by decide)
  have hz2 := sized_int8 (n := 300) (by decide)
  have hz3 : Sized 8 (mkRat 21945 73) := sized_mkRat (by decide) (bytesOf_length _ _ (by decide)) (bytesOf_length _ _ (by decide))
  have s1 := fun (v : Value) W (h : StepsL W v awakeS) => interest_Simple (negB ((36500 : Int) : Rat)) (numB ((36500 : Int) : Rat)) (denomB ((36500 : Int) : Rat)) v awakeS 10 40 365 W h awakeS_ok (Nat.le_trans hz.num (by decide)) (Nat.le_trans hz.denom (by decide))
  have c1 := fun (v : Value) W (h : StepsL W v awakeS) => interest_Compound (negB ((36500 : Int) : Rat)) (numB ((36500 : Int) : Rat)) (denomB ((36500 : Int) : Rat)) v awakeS 10 40 365 15 W h awakeS_ok (Nat.le_trans hz.num (by decide)) (Nat.le_trans hz.denom (by decide)) (by decide)
  rw [show decR (negB ((36500 : Int) : Rat)) (numB ((36500 : Int) : Rat)) (denomB ((36500 : Int) : Rat)) = ((36500 : Int) : Rat) from dec_enc _] at s1 c1
  rw [awakeS_simple] at s1
  rw [awakeS_compound] at c1
  dsimp only at s1 c1
  have q1 := fun W => rat_eql (negB ((300 : Int) : Rat)) (negB ((300 : Int) : Rat)) (numB ((300 : Int) : Rat)) (numB ((300 : Int) : Rat)) (denomB ((300 : Int) : Rat)) (denomB ((300 : Int) : Rat)) (Nat.le_trans hz2.num (by decide)) (Nat.le_trans hz2.denom (by decide)) (Nat.le_trans hz2.num (by decide)) (Nat.le_trans hz2.denom (by decide)) true (by simp) W
  have q2 := fun W => rat_eql (negB (mkRat 21945 73)) (negB (mkRat 21945 73)) (numB (mkRat 21945 73)) (numB (mkRat 21945 73)) (denomB (mkRat 21945 73)) (denomB (mkRat 21945 73)) (Nat.le_trans hz3.num (by decide)) (Nat.le_trans hz3.denom (by decide)) (Nat.le_trans hz3.num (by decide)) (Nat.le_trans hz3.denom (by decide)) true (by simp) W
  clear hz hz2 hz3
  generalize mkRat 21945 73 = y at *
  generalize ((300 : Int) : Rat) = x at *
  generalize ((36500 : Int) : Rat) = p at *
  unfold rat raw at *
  generalize negB p = np at *
  generalize numB p = bp at *
  generalize denomB p = dp at *
  generalize negB x = nx at *
  generalize numB x = bx at *
  generalize denomB x = dx at *
  generalize negB y = nk at *
  generalize numB y = bk at *
  generalize denomB y = dk at *
  have R1 := Lib.hid r1
  have R2 := Lib.hid r2
  have W1 := Lib.hid w1
  have W2 := Lib.hid w2
  have S1 := Lib.hid s1
  have C1 := Lib.hid c1
  have Q1 := Lib.hid q1
  have Q2 := Lib.hid q2
  clear r1 r2 w1 w2 s1 c1 q1 q2
  go_enter Tryz.func10, Tryz.ntmps10
  have HS := Lib.hid (St.start w)
  go_wp2_with fail
  refine (R1.out _).mono ?_
  rintro e w2 ⟨rfl, hb2⟩
  have HS2 := Lib.hid (HS.out.call hb2)
  clear hb2 HS
  go_wp2_with fail
  have HS3 : Hid (St w [⟨w2.heap.size, #[.int .i64 0, .bool false, .string (bs [1]), .string (bs [10])], 29⟩] _) := Lib.hid (St.alloc (HS2.out) #[.int .i64 0, .bool false, .string (bs [1]), .string (bs [10])] 29 _ (by simp))
  refine (W1.out _).mono ?_
  rintro e w4 ⟨rfl, hb4⟩
  have HS4 := Lib.hid (HS3.out.call hb4)
  clear hb4 HS2 HS3
  go_wp2_with fail
  have HS5 : Hid (St w [⟨w4.heap.size, #[.bool np, .string (bs bp), .string (bs dp)], 23⟩, ⟨w2.heap.size, #[.int .i64 0, .bool false, .string (bs [1]), .string (bs [10])], 29⟩] _) := Lib.hid (St.alloc (HS4.out) #[.bool np, .string (bs bp), .string (bs dp)] 23 _ (by simp))
  refine (S1.out _ _ (Slc.of_blk stp_len (HS5.out.blk 1 rfl) rfl rfl (by decide) (by decide))).mono ?_
  rintro e w6 ⟨rfl, hb6⟩
  have HS6 := Lib.hid (HS5.out.call hb6)
  clear hb6 HS4 HS5
  have x1 := HS6.out.cell 0 rfl 0 rfl
  have x2 := HS6.out.cell 0 rfl 1 rfl
  have x3 := HS6.out.cell 0 rfl 2 rfl
  have x4 := HS6.out.lt 0 rfl
  have x5 : ¬ w4.heap.size = w6.heap.size := by omega
  have x6 : ¬ w6.heap.size = w4.heap.size := by omega
  go_wp2_with fail
  have HS7 : Hid (St w [⟨w6.heap.size, #[.bool nx, .string (bs bx), .string (bs dx)], 23⟩, ⟨w4.heap.size, #[.bool np, .string (bs bp), .string (bs dp)], 23⟩, ⟨w2.heap.size, #[.int .i64 0, .bool false, .string (bs [1]), .string (bs [10])], 29⟩] _) := Lib.hid (St.alloc (HS6.out) #[.bool nx, .string (bs bx), .string (bs dx)] 23 _ (by simp))
  refine (C1.out _ _ (Slc.of_blk stp_len (HS7.out.blk 2 rfl) rfl rfl (by decide) (by decide))).mono ?_
  rintro e w8 ⟨rfl, hb8⟩
  have HS8 := Lib.hid (HS7.out.call hb8)
  clear hb8 HS6 HS7
  clear x1 x2 x3 x4 x5 x6
  go_wp2
  have HS9 : Hid (St w [⟨w8.heap.size, #[.bool nk, .string (bs bk), .string (bs dk)], 23⟩, ⟨w6.heap.size, #[.bool nx, .string (bs bx), .string (bs dx)], 23⟩, ⟨w4.heap.size, #[.bool np, .string (bs bp), .string (bs dp)], 23⟩, ⟨w2.heap.size, #[.int .i64 0, .bool false, .string (bs [1]), .string (bs [10])], 29⟩] _) := Lib.hid (St.alloc (HS8.out) #[.bool nk, .string (bs bk), .string (bs dk)] 23 _ (by simp))
  clear HS8
  refine wp_region_facts 16 [fun _ vv => vv = .int .i64 0, fun _ vv => vv = .bool true, fun _ vv => vv = .bool true, fun _ vv => vv = .agg #[.bool nx, .string (bs bx), .string (bs dx)], fun _ vv => vv = .agg #[.bool nx, .string (bs bx), .string (bs dx)], fun _ vv => vv = .bool true, fun _ vv => vv = .bool true, fun _ vv => vv = .bool true, fun _ vv => vv = .int .i64 0, fun _ vv => vv = .bool true, fun _ vv => vv = .bool true, fun _ vv => vv = .bool true, fun _ vv => vv = .agg #[.bool nk, .string (bs bk), .string (bs dk)], fun _ vv => vv = .agg #[.bool nk, .string (bs bk), .string (bs dk)], fun _ vv => vv = .bool true, fun _ vv => vv = .bool true] rfl (by kernel_rfl) (by kernel_rfl) (by kernel_rfl) ⟨fun _ _ _ h _ => h, fun _ _ _ h _ => h, fun _ _ _ h _ => h, fun _ _ _ h _ => h, fun _ _ _ h _ => h, fun _ _ _ h _ => h, fun _ _ _ h _ => h, fun _ _ _ h _ => h, fun _ _ _ h _ => h, fun _ _ _ h _ => h, fun _ _ _ h _ => h, fun _ _ _ h _ => h, fun _ _ _ h _ => h, fun _ _ _ h _ => h, fun _ _ _ h _ => h, fun _ _ _ h _ => h, trivial⟩ ?_ ?_
  refine ⟨?_, ?_, ?_, ?_, ?_, ?_, ?_, ?_, ?_, ?_, ?_, ?_, ?_, ?_, ?_, ?_, trivial⟩
  · intro xx af wv hbx hev hev0 hd
    have e4 : af.tmps[4]?.getD undef = .int .i64 0 := hev0 4 rfl
    clear hev hev0 hd
    go_wp2
    exact StepQ.mk _ (Below.refl _ _) rfl
  · intro xx af wv hbx hev hev0 hd
    have e23 := hev 0 _ 23 rfl rfl
    have d0 : xx 0 = .int .i64 0 := hd ⟨0, .data⟩ (by simp) rfl
    rw [d0] at e23
    clear d0
    clear hev hev0 hd
    go_wp2
    exact StepQ.mk _ (Below.refl _ _) rfl
  · intro xx af wv hbx hev hev0 hd
    have e24 := hev 1 _ 24 rfl rfl
    have d1 : xx 1 = .bool true := hd ⟨1, .data⟩ (by simp) rfl
    rw [d1] at e24
    clear d1
    clear hev hev0 hd
    go_wp2
    exact StepQ.mk _ (Below.refl _ _) rfl
  · intro xx af wv hbx hev hev0 hd
    have e25 := hev 2 _ 25 rfl rfl
    have d2 : xx 2 = .bool true := hd ⟨2, .guard⟩ (by simp) rfl
    rw [d2] at e25
    clear d2
    have e3 : af.tmps[3]?.getD undef = .pointer (some ⟨w6.heap.size, 0, none⟩) := hev0 3 rfl
    have q25 := getD_bool e25
    clear hev hev0 hd
    have hs1 := Lib.hid (HS9.out.call hbx)
    have y0 := hs1.out.cell 1 rfl 0 rfl
    have y1 := hs1.out.cell 1 rfl 1 rfl
    have y2 := hs1.out.cell 1 rfl 2 rfl
    go_wp2
    exact StepQ.mk _ (Below.refl _ _) rfl
  · intro xx af wv hbx hev hev0 hd
    have e25 := hev 2 _ 25 rfl rfl
    have d2 : xx 2 = .bool true := hd ⟨2, .chain⟩ (by simp) rfl
    rw [d2] at e25
    clear d2
    have q25 := getD_bool e25
    clear hev hev0 hd
    go_wp2_with fail
    refine (W2.out _).mono ?_
    rintro e w8 ⟨rfl, hb8⟩
    go_wp2
    exact StepQ.mk _ hb8 rfl
  · intro xx af wv hbx hev hev0 hd
    have e25 := hev 2 _ 25 rfl rfl
    have d2 : xx 2 = .bool true := hd ⟨2, .guard⟩ (by simp) rfl
    rw [d2] at e25
    clear d2
    have e26 := hev 3 _ 26 rfl rfl
    have d3 : xx 3 = .agg #[.bool nx, .string (bs bx), .string (bs dx)] := hd ⟨3, .data⟩ (by simp) rfl
    rw [d3] at e26
    clear d3
    have e27 := hev 4 _ 27 rfl rfl
    have d4 : xx 4 = .agg #[.bool nx, .string (bs bx), .string (bs dx)] := hd ⟨4, .data⟩ (by simp) rfl
    rw [d4] at e27
    clear d4
    have q25 := getD_bool e25
    clear hev hev0 hd
    have en := Q1.out
    go_wp2
    exact StepQ.mk _ (Below.refl _ _) rfl
  · intro xx af wv hbx hev hev0 hd
    have e25 := hev 2 _ 25 rfl rfl
    have d2 : xx 2 = .bool true := hd ⟨2, .data⟩ (by simp) rfl
    rw [d2] at e25
    clear d2
    have e28 := hev 5 _ 28 rfl rfl
    have d5 : xx 5 = .bool true := hd ⟨5, .data⟩ (by simp) rfl
    rw [d5] at e28
    clear d5
    clear hev hev0 hd
    go_wp2
    exact StepQ.mk _ (Below.refl _ _) rfl
  · intro xx af wv hbx hev hev0 hd
    have e29 := hev 6 _ 29 rfl rfl
    have d6 : xx 6 = .bool true := hd ⟨6, .data⟩ (by simp) rfl
    rw [d6] at e29
    clear d6
    clear hev hev0 hd
    go_wp2
    exact StepQ.mk _ (Below.refl _ _) rfl
  · intro xx af wv hbx hev hev0 hd
    have e30 := hev 7 _ 30 rfl rfl
    have d7 : xx 7 = .bool true := hd ⟨7, .guard⟩ (by simp) rfl
    rw [d7] at e30
    clear d7
    have e6 : af.tmps[6]?.getD undef = .int .i64 0 := hev0 6 rfl
    have q30 := getD_bool e30
    clear hev hev0 hd
    go_wp2
    exact StepQ.mk _ (Below.refl _ _) rfl
  · intro xx af wv hbx hev hev0 hd
    have e30 := hev 7 _ 30 rfl rfl
    have d7 : xx 7 = .bool true := hd ⟨7, .guard⟩ (by simp) rfl
    rw [d7] at e30
    clear d7
    have e31 := hev 8 _ 31 rfl rfl
    have d8 : xx 8 = .int .i64 0 := hd ⟨8, .data⟩ (by simp) rfl
    rw [d8] at e31
    clear d8
    have q30 := getD_bool e30
    clear hev hev0 hd
    go_wp2
    exact StepQ.mk _ (Below.refl _ _) rfl
  · intro xx af wv hbx hev hev0 hd
    have e30 := hev 7 _ 30 rfl rfl
    have d7 : xx 7 = .bool true := hd ⟨7, .data⟩ (by simp) rfl
    rw [d7] at e30
    clear d7
    have e32 := hev 9 _ 32 rfl rfl
    have d9 : xx 9 = .bool true := hd ⟨9, .data⟩ (by simp) rfl
    rw [d9] at e32
    clear d9
    clear hev hev0 hd
    go_wp2
    exact StepQ.mk _ (Below.refl _ _) rfl
  · intro xx af wv hbx hev hev0 hd
    have e33 := hev 10 _ 33 rfl rfl
    have d10 : xx 10 = .bool true := hd ⟨10, .data⟩ (by simp) rfl
    rw [d10] at e33
    clear d10
    clear hev hev0 hd
    go_wp2
    exact StepQ.mk _ (Below.refl _ _) rfl
  · intro xx af wv hbx hev hev0 hd
    have e34 := hev 11 _ 34 rfl rfl
    have d11 : xx 11 = .bool true := hd ⟨11, .guard⟩ (by simp) rfl
    rw [d11] at e34
    clear d11
    have e5 : af.tmps[5]?.getD undef = .pointer (some ⟨w8.heap.size, 0, none⟩) := hev0 5 rfl
    have q34 := getD_bool e34
    clear hev hev0 hd
    have hs1 := Lib.hid (HS9.out.call hbx)
    have y0 := hs1.out.cell 0 rfl 0 rfl
    have y1 := hs1.out.cell 0 rfl 1 rfl
    have y2 := hs1.out.cell 0 rfl 2 rfl
    go_wp2
    exact StepQ.mk _ (Below.refl _ _) rfl
  · intro xx af wv hbx hev hev0 hd
    have e34 := hev 11 _ 34 rfl rfl
    have d11 : xx 11 = .bool true := hd ⟨11, .chain⟩ (by simp) rfl
    rw [d11] at e34
    clear d11
    have q34 := getD_bool e34
    clear hev hev0 hd
    go_wp2_with fail
    refine (R2.out _).mono ?_
    rintro e w8 ⟨rfl, hb8⟩
    go_wp2
    exact StepQ.mk _ hb8 rfl
  · intro xx af wv hbx hev hev0 hd
    have e34 := hev 11 _ 34 rfl rfl
    have d11 : xx 11 = .bool true := hd ⟨11, .guard⟩ (by simp) rfl
    rw [d11] at e34
    clear d11
    have e35 := hev 12 _ 35 rfl rfl
    have d12 : xx 12 = .agg #[.bool nk, .string (bs bk), .string (bs dk)] := hd ⟨12, .data⟩ (by simp) rfl
    rw [d12] at e35
    clear d12
    have e36 := hev 13 _ 36 rfl rfl
    have d13 : xx 13 = .agg #[.bool nk, .string (bs bk), .string (bs dk)] := hd ⟨13, .data⟩ (by simp) rfl
    rw [d13] at e36
    clear d13
    have q34 := getD_bool e34
    clear hev hev0 hd
    have en := Q2.out
    go_wp2
    exact StepQ.mk _ (Below.refl _ _) rfl
  · intro xx af wv hbx hev hev0 hd
    have e34 := hev 11 _ 34 rfl rfl
    have d11 : xx 11 = .bool true := hd ⟨11, .data⟩ (by simp) rfl
    rw [d11] at e34
    clear d11
    have e37 := hev 14 _ 37 rfl rfl
    have d14 : xx 14 = .bool true := hd ⟨14, .data⟩ (by simp) rfl
    rw [d14] at e37
    clear d14
    clear hev hev0 hd
    go_wp2
    exact StepQ.mk _ (Below.refl _ _) rfl
  intro xx w11 hb9 hv
  have hv0 : xx 0 = .int .i64 0 := hv 0 (by decide)
  have hv1 : xx 1 = .bool true := hv 1 (by decide)
  have hv2 : xx 2 = .bool true := hv 2 (by decide)
  have hv3 : xx 3 = .agg #[.bool nx, .string (bs bx), .string (bs dx)] := hv 3 (by decide)
  have hv4 : xx 4 = .agg #[.bool nx, .string (bs bx), .string (bs dx)] := hv 4 (by decide)
  have hv5 : xx 5 = .bool true := hv 5 (by decide)
  have hv6 : xx 6 = .bool true := hv 6 (by decide)
  have hv7 : xx 7 = .bool true := hv 7 (by decide)
  have hv8 : xx 8 = .int .i64 0 := hv 8 (by decide)
  have hv9 : xx 9 = .bool true := hv 9 (by decide)
  have hv10 : xx 10 = .bool true := hv 10 (by decide)
  have hv11 : xx 11 = .bool true := hv 11 (by decide)
  have hv12 : xx 12 = .agg #[.bool nk, .string (bs bk), .string (bs dk)] := hv 12 (by decide)
  have hv13 : xx 13 = .agg #[.bool nk, .string (bs bk), .string (bs dk)] := hv 13 (by decide)
  have hv14 : xx 14 = .bool true := hv 14 (by decide)
  have hv15 : xx 15 = .bool true := hv 15 (by decide)
  clear hv
  simp only [List.take, List.drop, fillA, Act.put]
  simp only [hv0, hv1, hv2, hv3, hv4, hv5, hv6, hv7, hv8, hv9, hv10, hv11, hv12, hv13, hv14, hv15]
  clear hv0 hv1 hv2 hv3 hv4 hv5 hv6 hv7 hv8 hv9 hv10 hv11 hv12 hv13 hv14 hv15
  have HS11 := Lib.hid (HS9.out.call hb9)
  clear hb9 HS9
  go_wp2
  go_ret
  exact ⟨rfl, HS11.out.below⟩
end Go.Proofs.YtakoagjpmdcddaaGreatDoor
