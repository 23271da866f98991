/-
The program's threshold (printed by gen_vot5.py).
-/
import Derived.Test.YtakoagjpmdcddaaDoorVotH
namespace Go.Proofs.YtakoagjpmdcddaaDoor
open Go.RowKit

theorem raw_result3 {fn : Func} {p u v : Tmp} (h : fn.results = #[.cell p 28, .tmp u, .tmp v]) (tmps : Array Value) (w : World) (g : Nat) (neg : Bool) (num den : List UInt8)
    (hp : tmps.getD p undef = .pointer (some ⟨g, 0, none⟩)) (hg : Raw w g neg num den) : (results fn tmps).run Tryd.prog w = .ok (.tuple #[raw neg num den, tmps.getD u undef, tmps.getD v undef]) w := by
  have hp' : tmps[p]?.getD undef = .pointer (some ⟨g, 0, none⟩) := by simpa using hp
  simp [results, h, hp', asAddr, raw_load hg]
/-- What Threshold answers. -/
def thresholdR (l : List Vtr) : Rat × Bool × Int := if checkV l ≠ 0 then (0, false, checkV l) else ((thrV l).1, (thrV l).2, 0)

set_option maxRecDepth 100000 in
set_option maxHeartbeats 2000000 in
theorem vote_Threshold (v : Value) (l : List Vtr) (w : World) (h : VotersL w v l) (hok : SmallV 100000 l) (hpar : ∀ u ∈ l, W64 u.party) :
    Calls Tryd.prog 12 #[v] w fun e w' => e = .returned (.tuple #[rat (thresholdR l).1, .bool (thresholdR l).2.1, .int .i64 (thresholdR l).2.2]) ∧ Below w.heap.size w w' := by
  have hC := fun W (hb : Below w.heap.size w W) => vote_Check v l W (h.below hb) (hok.mono (by decide))
  have hTr := fun (hl : l.length ≤ 64) n a b best fd g8 g7 g6 g2 g1 W la lb hb hs => vote_try v l n a b best fd g8 g7 g6 g2 g1 w W h hok hl hpar la lb hb hs
  have R0 : Hid (thresholdR l = if checkV l ≠ 0 then (0, false, checkV l) else ((thrV l).1, (thrV l).2, 0)) := rfl
  have hlen0 : checkV l = 0 → l.length ≤ 64 := fun h => (checkV_zero h).1
  obtain ⟨r, hr⟩ : ∃ x, x = thresholdR l := ⟨_, rfl⟩
  obtain ⟨m, hm⟩ : ∃ x, x = checkV l := ⟨_, rfl⟩
  rw [← hr] at R0 ⊢
  rw [← hm] at hC R0 hlen0
  clear hr
  have HC := Lib.hid hC
  have H := Lib.hid h
  obtain ⟨A, c, rfl, hl, hc⟩ := h.slice
  by_cases h0 : m = 0
  · subst h0
    have hlen := hlen0 rfl
    have R : Hid (r = ((thrV l).1, (thrV l).2, 0)) := by show _ = _; have := R0.out; rw [if_neg (by decide)] at this; exact this
    have hTr0 := hTr hlen false [] [] 0 false
    simp only [enc0.1, enc0.2.1, enc0.2.2] at hTr0
    have HTR0 := Lib.hid hTr0
    have HTR := Lib.hid (hTr hlen)
    have HSZ := Lib.hid (thrTo_sized (by decide) hok)
    have HOK := Lib.hid hok
    have i1 := fun W => rational_Int 1 W (by decide) (by decide)
    rw [show ((1 : Int) : Rat) = 1 from rfl] at i1
    unfold rat raw at i1
    have HI := Lib.hid i1
    clear hC hTr hTr0 R0 hlen0 hm h hok hpar i1
    go_enter Tryd.func12, Tryd.ntmps12
    have HS := Lib.hid (St.start w)
    go_wp2_with fail
    have HS2 : Hid (St w [⟨w.heap.size + 1, #[.bool false, .string (bs []), .string (bs [])], 28⟩, ⟨w.heap.size, #[.slice A l.length c], 22⟩] _) := Lib.hid (St.alloc ((St.alloc (HS.out) #[.slice A l.length c] 22 _ (by simp))) #[.bool false, .string (bs []), .string (bs [])] 28 _ (by simp))
    refine (HC.out _ HS2.out.below).mono ?_
    rintro e w3 ⟨rfl, hb3⟩
    have HS3 := Lib.hid (HS2.out.call hb3)
    clear hb3 HS HS2
    go_wp2_with fail
    refine (HI.out _).mono ?_
    rintro e w4 ⟨rfl, hb4⟩
    have HS4 := Lib.hid (HS3.out.call hb4)
    clear hb4 HS3
    go_wp2_with fail
    have HS5 : Hid (St w [⟨w4.heap.size + 1 + 1, #[.bool false], 4⟩, ⟨w4.heap.size + 1, #[.bool false, .string (bs []), .string (bs [])], 28⟩, ⟨w4.heap.size, #[.bool (negB ((1 : Rat))), .string (bs (numB ((1 : Rat)))), .string (bs (denomB ((1 : Rat))))], 28⟩, ⟨w.heap.size + 1, #[.bool false, .string (bs []), .string (bs [])], 28⟩, ⟨w.heap.size, #[.slice A l.length c], 22⟩] _) := Lib.hid (St.alloc ((St.alloc ((St.alloc (HS4.out) #[.bool (negB ((1 : Rat))), .string (bs (numB ((1 : Rat)))), .string (bs (denomB ((1 : Rat))))] 28 _ (by simp))) #[.bool false, .string (bs []), .string (bs [])] 28 _ (by simp))) #[.bool false] 4 _ (by simp))
    refine (HTR0.out (w4.heap.size + 1 + 1) (w4.heap.size + 1) (w4.heap.size) (w.heap.size + 1) (w.heap.size) _ (by decide) (by decide) (sized_zero.mono (by decide)) HS5.out).mono ?_
    rintro e w6 ⟨rfl, hs6⟩
    rw [dec_zero3, ← thrTo_zero] at hs6
    have HS6 := Lib.hid hs6
    clear hs6 HS5 HS4
    have x1 := HS6.out.cell 4 rfl 0 rfl
    go_wp2
    go_loopw [26] (fun i wr => ∃ k : Nat, k ≤ l.length ∧ i = .int .i64 k ∧ Hid (St w [⟨w4.heap.size + 1 + 1, #[.bool (thrTo l k).2], 4⟩, ⟨w4.heap.size + 1, #[.bool (negB ((thrTo l k).1)), .string (bs (numB ((thrTo l k).1))), .string (bs (denomB ((thrTo l k).1)))], 28⟩, ⟨w4.heap.size, #[.bool (negB ((1 : Rat))), .string (bs (numB ((1 : Rat)))), .string (bs (denomB ((1 : Rat))))], 28⟩, ⟨w.heap.size + 1, #[.bool false, .string (bs []), .string (bs [])], 28⟩, ⟨w.heap.size, #[.slice A l.length c], 22⟩] wr)) (fun i _ => l.length - (intOf i).toNat)
    case atStart => exact ⟨0, Nat.zero_le _, rfl, HS6.out⟩
    case round =>
      clear HS6
      obtain ⟨k, hk, rfl, HS⟩ := hrel
      by_cases hlt : k < l.length
      · obtain ⟨b, o, u, rfl, hbb, hq, hx⟩ := H.out.at_ hlt
        have hsm := HOK.out u (List.mem_of_getElem? hq)
        have hbs := HSZ.out k hk
        have tsk := fun (hex : u.ex = true) => thrTo_skip hq hex
        have tad := fun (hex : u.ex = false) => thrTo_add hq hex
        obtain ⟨tn, htn⟩ : ∃ x, x = thrTo l (k + 1) := ⟨_, rfl⟩
        rw [← htn] at tsk tad
        have HTN := Lib.hid htn
        clear htn
        have hpair : thrTo l k = ((thrTo l k).1, (thrTo l k).2) := rfl
        rw [hpair] at tad
        have HS0 := HS.out
        clear HS hpair
        obtain ⟨be, hbe⟩ : ∃ x, x = (thrTo l k).1 := ⟨_, rfl⟩
        obtain ⟨fB, hfB⟩ : ∃ x, x = (thrTo l k).2 := ⟨_, rfl⟩
        rw [← hbe, ← hfB] at HS0 tad
        rw [← hbe] at hbs
        have HTK := Lib.hid (show (thrTo l k).1 = be ∧ (thrTo l k).2 = fB from ⟨hbe.symm, hfB.symm⟩)
        have HS := Lib.hid HS0
        have HBS := Lib.hid hbs
        obtain ⟨xB, hxB⟩ : ∃ x, x = u.ex := ⟨_, rfl⟩
        have HXE := Lib.hid hxB.symm
        have hx2 := hx
        unfold Vtr.enc at hx2
        rw [← hxB] at hx2
        rw [← hxB] at tsk tad
        have HX := Lib.hid hx2
        have TSK := Lib.hid tsk
        have TAD := Lib.hid tad
        have HSM := Lib.hid hsm
        have e0 : (0 : Int) ≤ ((k : Nat) : Int) := by omega
        have e1 : ((k : Nat) : Int) < (l.length : Int) := by omega
        clear HS0 hbe hfB hbs tsk tad hx hx2 hq hxB hsm
        cases xB
        · have TAD2 := Lib.hid (TAD.out rfl)
          clear TAD TSK
          have x2 : b < wr.heap.size := Nat.lt_of_lt_of_le hbb HS.out.below.size
          have x3 : ¬ b = wr.heap.size := by omega
          have x4 := HX.out _ HS.out.below 0 _ rfl
          rw [Nat.add_zero] at x4
          have x5 := HX.out _ HS.out.below 1 _ rfl
          have x6 := HX.out _ HS.out.below 2 _ rfl
          have x7 := HX.out _ HS.out.below 3 _ rfl
          have x8 := HX.out _ HS.out.below 4 _ rfl
          have x9 := HX.out _ HS.out.below 5 _ rfl
          have x10 := HX.out _ HS.out.below 6 _ rfl
          have x11 := HX.out _ HS.out.below 7 _ rfl
          go_wp2_with fail
          have HS7 : Hid (St w [⟨wr.heap.size, #[.int .i64 u.party, .bool u.an, .string (bs u.aa), .string (bs u.ab), .bool u.kn, .string (bs u.ka), .string (bs u.kb), .bool false], 30⟩, ⟨w4.heap.size + 1 + 1, #[.bool fB], 4⟩, ⟨w4.heap.size + 1, #[.bool (negB (be)), .string (bs (numB (be))), .string (bs (denomB (be)))], 28⟩, ⟨w4.heap.size, #[.bool (negB ((1 : Rat))), .string (bs (numB ((1 : Rat)))), .string (bs (denomB ((1 : Rat))))], 28⟩, ⟨w.heap.size + 1, #[.bool false, .string (bs []), .string (bs [])], 28⟩, ⟨w.heap.size, #[.slice (some ⟨b, o, none⟩) l.length c], 22⟩] _) := Lib.hid (St.alloc (HS.out) #[.int .i64 u.party, .bool u.an, .string (bs u.aa), .string (bs u.ab), .bool u.kn, .string (bs u.ka), .string (bs u.kb), .bool false] 30 _ (by simp))
          refine (HTR.out u.kn u.ka u.kb (be) (fB) (w4.heap.size + 1 + 1) (w4.heap.size + 1) (w4.heap.size) (w.heap.size + 1) (w.heap.size) _ HSM.out.2.2.1 HSM.out.2.2.2 HBS.out (HS7.out.sub (by simp))).mono ?_
          rintro e w8 ⟨rfl, hs8⟩
          change St w [⟨w4.heap.size + 1 + 1, #[.bool (tryV l (be, fB) u.ask).2], 4⟩, ⟨w4.heap.size + 1, #[.bool (negB ((tryV l (be, fB) u.ask).1)), .string (bs (numB ((tryV l (be, fB) u.ask).1))), .string (bs (denomB ((tryV l (be, fB) u.ask).1)))], 28⟩, ⟨w4.heap.size, #[.bool (negB ((1 : Rat))), .string (bs (numB ((1 : Rat)))), .string (bs (denomB ((1 : Rat))))], 28⟩, ⟨w.heap.size + 1, #[.bool false, .string (bs []), .string (bs [])], 28⟩, ⟨w.heap.size, #[.slice (some ⟨b, o, none⟩) l.length c], 22⟩] _ at hs8
          rw [← TAD2.out] at hs8
          have HS8 := Lib.hid hs8
          clear hs8 HS7 HS
          clear x2 x3 x4 x5 x6 x7 x8 x9 x10 x11
          go_wp2
          have HS9 : Hid (St w [⟨w4.heap.size + 1 + 1, #[.bool tn.2], 4⟩, ⟨w4.heap.size + 1, #[.bool (negB (tn.1)), .string (bs (numB (tn.1))), .string (bs (denomB (tn.1)))], 28⟩, ⟨w4.heap.size, #[.bool (negB ((1 : Rat))), .string (bs (numB ((1 : Rat)))), .string (bs (denomB ((1 : Rat))))], 28⟩, ⟨w.heap.size + 1, #[.bool false, .string (bs []), .string (bs [])], 28⟩, ⟨w.heap.size, #[.slice (some ⟨b, o, none⟩) l.length c], 22⟩] _) := Lib.hid HS8.out
          go_roundw
          case rel => exact ⟨k + 1, by omega, by go_num, by show St _ _ _; rw [← HTN.out]; exact HS9.out⟩
          case measure => simp [intOf]; omega
        · have TSK2 := Lib.hid (TSK.out rfl)
          clear TAD TSK
          have x2 : b < wr.heap.size := Nat.lt_of_lt_of_le hbb HS.out.below.size
          have x3 : ¬ b = wr.heap.size := by omega
          have x4 := HX.out _ HS.out.below 0 _ rfl
          rw [Nat.add_zero] at x4
          have x5 := HX.out _ HS.out.below 1 _ rfl
          have x6 := HX.out _ HS.out.below 2 _ rfl
          have x7 := HX.out _ HS.out.below 3 _ rfl
          have x8 := HX.out _ HS.out.below 4 _ rfl
          have x9 := HX.out _ HS.out.below 5 _ rfl
          have x10 := HX.out _ HS.out.below 6 _ rfl
          have x11 := HX.out _ HS.out.below 7 _ rfl
          go_wp2
          have HS7 : Hid (St w [⟨wr.heap.size, #[.int .i64 u.party, .bool u.an, .string (bs u.aa), .string (bs u.ab), .bool u.kn, .string (bs u.ka), .string (bs u.kb), .bool true], 30⟩, ⟨w4.heap.size + 1 + 1, #[.bool fB], 4⟩, ⟨w4.heap.size + 1, #[.bool (negB (be)), .string (bs (numB (be))), .string (bs (denomB (be)))], 28⟩, ⟨w4.heap.size, #[.bool (negB ((1 : Rat))), .string (bs (numB ((1 : Rat)))), .string (bs (denomB ((1 : Rat))))], 28⟩, ⟨w.heap.size + 1, #[.bool false, .string (bs []), .string (bs [])], 28⟩, ⟨w.heap.size, #[.slice (some ⟨b, o, none⟩) l.length c], 22⟩] _) := Lib.hid (St.alloc (HS.out) #[.int .i64 u.party, .bool u.an, .string (bs u.aa), .string (bs u.ab), .bool u.kn, .string (bs u.ka), .string (bs u.kb), .bool true] 30 _ (by simp))
          go_roundw
          case rel => exact ⟨k + 1, by omega, by go_num, by show St _ _ _; rw [← HTN.out, TSK2.out, HTK.out.1, HTK.out.2]; exact HS7.out.sub (by simp)⟩
          case measure => simp [intOf]; omega
      · obtain rfl : k = l.length := by omega
        rw [thrTo_end] at HS
        generalize thrV l = tn at *
        obtain ⟨be, fB⟩ := tn
        dsimp only at HS R
        have x2 := HS.out.cell 1 rfl 0 rfl
        have x3 := HS.out.cell 1 rfl 1 rfl
        have x4 := HS.out.cell 1 rfl 2 rfl
        have x5 := HS.out.cell 0 rfl 0 rfl
        have x6 := HS.out.cell 3 rfl 0 rfl
        have x7 := HS.out.cell 3 rfl 1 rfl
        have x8 := HS.out.cell 3 rfl 2 rfl
        have x9 := HS.out.frozen 3 rfl 0
        have x10 := HS.out.frozen 3 rfl 1
        have x11 := HS.out.frozen 3 rfl 2
        have x12 := HS.out.ne 3 0 rfl rfl (by decide)
        have x13 := HS.out.ne 0 3 rfl rfl (by decide)
        have x14 := HS.out.ne 3 1 rfl rfl (by decide)
        have x15 := HS.out.ne 1 3 rfl rfl (by decide)
        have x16 := HS.out.ne 3 2 rfl rfl (by decide)
        have x17 := HS.out.ne 2 3 rfl rfl (by decide)
        have x18 := HS.out.ne 3 4 rfl rfl (by decide)
        have x19 := HS.out.ne 4 3 rfl rfl (by decide)
        go_wp2
        go_region
        all_goals (try go_wp2)
        have HS7 : Hid (St w [⟨w4.heap.size + 1 + 1, #[.bool fB], 4⟩, ⟨w4.heap.size + 1, #[.bool (negB (be)), .string (bs (numB (be))), .string (bs (denomB (be)))], 28⟩, ⟨w4.heap.size, #[.bool (negB ((1 : Rat))), .string (bs (numB ((1 : Rat)))), .string (bs (denomB ((1 : Rat))))], 28⟩, ⟨w.heap.size + 1, #[.bool (negB (be)), .string (bs (numB (be))), .string (bs (denomB (be)))], 28⟩, ⟨w.heap.size, #[.slice A l.length c], 22⟩] _) := Lib.hid (St.set ((St.set ((St.set (HS.out) 3 rfl 0 _)) 3 rfl 1 _)) 3 rfl 2 _)
        all_goals (refine bodyPost_ret (raw_result3 rfl _ _ _ _ _ _ rfl (HS7.out.blk 3 rfl)) rfl ?_; rw [R.out]; exact ⟨rfl, HS7.out.below.drew⟩)
  · have hn0 : (m == 0) = false := by rw [beq_eq_false_iff_ne]; exact h0
    have hn1 : (m != 0) = true := by rw [bne, hn0]; rfl
    have R : Hid (r = (0, false, m)) := by show _ = _; have := R0.out; rw [if_pos h0] at this; exact this
    clear hC hTr hlen0 h hok hpar R0 hm
    go_enter Tryd.func12, Tryd.ntmps12
    have HS := Lib.hid (St.start w)
    go_wp2_with fail
    have HS2 : Hid (St w [⟨w.heap.size + 1, #[.bool false, .string (bs []), .string (bs [])], 28⟩, ⟨w.heap.size, #[.slice A l.length c], 22⟩] _) := Lib.hid (St.alloc ((St.alloc (HS.out) #[.slice A l.length c] 22 _ (by simp))) #[.bool false, .string (bs []), .string (bs [])] 28 _ (by simp))
    refine (HC.out _ HS2.out.below).mono ?_
    rintro e w3 ⟨rfl, hb3⟩
    have HS3 := Lib.hid (HS2.out.call hb3)
    clear hb3 HS HS2
    have x1 := HS3.out.cell 0 rfl 0 rfl
    have x2 := HS3.out.cell 0 rfl 1 rfl
    have x3 := HS3.out.cell 0 rfl 2 rfl
    have x4 := HS3.out.frozen 0 rfl 0
    have x5 := HS3.out.frozen 0 rfl 1
    have x6 := HS3.out.frozen 0 rfl 2
    have x7 := HS3.out.ne 0 1 rfl rfl (by decide)
    have x8 := HS3.out.ne 1 0 rfl rfl (by decide)
    go_wp2
    have HS4 : Hid (St w [⟨w.heap.size + 1, #[.bool false, .string (bs []), .string (bs [])], 28⟩, ⟨w.heap.size, #[.slice A l.length c], 22⟩] _) := Lib.hid (St.set ((St.set ((St.set (HS3.out) 0 rfl 0 _)) 0 rfl 1 _)) 0 rfl 2 _)
    refine bodyPost_ret (raw_result3 rfl _ _ _ _ _ _ rfl (HS4.out.blk 0 rfl)) rfl ?_
    rw [R.out]
    rw [rat_zero]
    exact ⟨rfl, HS4.out.below⟩
end Go.Proofs.YtakoagjpmdcddaaDoor
