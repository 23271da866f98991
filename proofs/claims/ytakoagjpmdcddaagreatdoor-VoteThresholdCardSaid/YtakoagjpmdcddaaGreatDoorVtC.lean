/-
The document's Count and Accepts (printed by gen_vot10.py).
-/
import Derived.Test.YtakoagjpmdcddaaGreatDoorVtB
namespace Go.Proofs.YtakoagjpmdcddaaGreatDoor
open Go.RowKit

set_option maxRecDepth 100000 in
set_option maxHeartbeats 1000000 in
theorem ref_Count (v : Value) (l : List Vtr) (rn : Bool) (ra rb : List UInt8) (w : World) (h : VotersL w v l) (hok : SmallV 100000 l) (la : ra.length ≤ 17179869184) (lb : rb.length ≤ 17179869184) :
    Calls Tryz.prog 23 #[v, raw rn ra rb] w fun e w' => e = .returned (.tuple #[tly (countR l (decR rn ra rb)).1, .int .i64 (countR l (decR rn ra rb)).2]) ∧ Below w.heap.size w w' := by
  have hC := fun W (hb : Below w.heap.size w W) => ref_CheckVoters v l W (h.below hb) (hok.mono (by decide))
  have hT := fun (hl : l.length ≤ 64) W (hb : Below w.heap.size w W) => ref_tally v l rn ra rb W (h.below hb) hok hl la lb
  have R : Hid (countR l (decR rn ra rb) = if checkV l ≠ 0 then (tly0, checkV l) else (tallyV l (decR rn ra rb), 0)) := rfl
  have hlen : checkV l = 0 → l.length ≤ 64 := fun h => (checkV_zero h).1
  generalize tallyV l (decR rn ra rb) = t at *
  generalize countR l (decR rn ra rb) = r at *
  generalize checkV l = n at *
  unfold tly tlyC at *
  unfold raw at hT ⊢
  have HC := Lib.hid hC
  by_cases h0 : n = 0
  · subst h0
    have hl := hlen rfl
    have HT := Lib.hid (hT hl)
    have R : Hid (r = (t, 0)) := by show _ = _; have := R.out; rw [if_neg (by decide)] at this; exact this
    clear hC hT hlen h hok hl
    go_enter Tryz.func23, Tryz.ntmps23
    have HS := Lib.hid (St.start w)
    go_wp2_with fail
    have HS2 : Hid (St w [⟨w.heap.size + 1, #[.bool false, .string (bs []), .string (bs []), .bool false, .string (bs []), .string (bs []), .int .i64 0, .int .i64 0], 52⟩, ⟨w.heap.size, #[.bool rn, .string (bs ra), .string (bs rb)], 23⟩] _) := Lib.hid (St.alloc ((St.alloc (HS.out) #[.bool rn, .string (bs ra), .string (bs rb)] 23 _ (by simp))) #[.bool false, .string (bs []), .string (bs []), .bool false, .string (bs []), .string (bs []), .int .i64 0, .int .i64 0] 52 _ (by simp))
    refine (HC.out _ HS2.out.below).mono ?_
    rintro e w3 ⟨rfl, hb3⟩
    have HS3 := Lib.hid (HS2.out.call hb3)
    clear hb3 HS HS2
    have x1 := HS3.out.cell 1 rfl 0 rfl
    have x2 := HS3.out.cell 1 rfl 1 rfl
    have x3 := HS3.out.cell 1 rfl 2 rfl
    go_wp2_with fail
    refine (HT.out _ HS3.out.below).mono ?_
    rintro e w4 ⟨rfl, hb4⟩
    have HS4 := Lib.hid (HS3.out.call hb4)
    clear hb4 HS3
    clear x1 x2 x3
    have x4 := HS4.out.cell 0 rfl 0 rfl
    have x5 := HS4.out.cell 0 rfl 1 rfl
    have x6 := HS4.out.cell 0 rfl 2 rfl
    have x7 := HS4.out.cell 0 rfl 3 rfl
    have x8 := HS4.out.cell 0 rfl 4 rfl
    have x9 := HS4.out.cell 0 rfl 5 rfl
    have x10 := HS4.out.cell 0 rfl 6 rfl
    have x11 := HS4.out.cell 0 rfl 7 rfl
    have x12 := HS4.out.frozen 0 rfl 0
    have x13 := HS4.out.frozen 0 rfl 1
    have x14 := HS4.out.frozen 0 rfl 2
    have x15 := HS4.out.frozen 0 rfl 3
    have x16 := HS4.out.frozen 0 rfl 4
    have x17 := HS4.out.frozen 0 rfl 5
    have x18 := HS4.out.frozen 0 rfl 6
    have x19 := HS4.out.frozen 0 rfl 7
    have x20 := HS4.out.ne 0 1 rfl rfl (by decide)
    have x21 := HS4.out.ne 1 0 rfl rfl (by decide)
    go_wp2
    have HS5 : Hid (St w [⟨w.heap.size + 1, #[.bool (negB (t.amount)), .string (bs (numB (t.amount))), .string (bs (denomB (t.amount))), .bool (negB (t.yes)), .string (bs (numB (t.yes))), .string (bs (denomB (t.yes))), .int .i64 (t.heads : Nat), .int .i64 (t.yesHeads : Nat)], 52⟩, ⟨w.heap.size, #[.bool rn, .string (bs ra), .string (bs rb)], 23⟩] _) := Lib.hid (St.set ((St.set ((St.set ((St.set ((St.set ((St.set ((St.set ((St.set (HS4.out) 0 rfl 0 _)) 0 rfl 1 _)) 0 rfl 2 _)) 0 rfl 3 _)) 0 rfl 4 _)) 0 rfl 5 _)) 0 rfl 6 _)) 0 rfl 7 _)
    refine bodyPost_ret (tly_result2 rfl _ _ _ rfl (HS5.out.blk 0 rfl)) rfl ?_
    rw [R.out]
    exact ⟨rfl, HS5.out.below⟩
  · have hn0 : (n == 0) = false := by rw [beq_eq_false_iff_ne]; exact h0
    have hn1 : (n != 0) = true := by rw [bne, hn0]; rfl
    have R : Hid (r = (tly0, n)) := by show _ = _; have := R.out; rw [if_pos h0] at this; exact this
    clear hC hT hlen h hok
    go_enter Tryz.func23, Tryz.ntmps23
    have HS := Lib.hid (St.start w)
    go_wp2_with fail
    have HS2 : Hid (St w [⟨w.heap.size + 1, #[.bool false, .string (bs []), .string (bs []), .bool false, .string (bs []), .string (bs []), .int .i64 0, .int .i64 0], 52⟩, ⟨w.heap.size, #[.bool rn, .string (bs ra), .string (bs rb)], 23⟩] _) := Lib.hid (St.alloc ((St.alloc (HS.out) #[.bool rn, .string (bs ra), .string (bs rb)] 23 _ (by simp))) #[.bool false, .string (bs []), .string (bs []), .bool false, .string (bs []), .string (bs []), .int .i64 0, .int .i64 0] 52 _ (by simp))
    refine (HC.out _ HS2.out.below).mono ?_
    rintro e w3 ⟨rfl, hb3⟩
    have HS3 := Lib.hid (HS2.out.call hb3)
    clear hb3 HS HS2
    have x1 := HS3.out.cell 0 rfl 0 rfl
    have x2 := HS3.out.cell 0 rfl 1 rfl
    have x3 := HS3.out.cell 0 rfl 2 rfl
    have x4 := HS3.out.cell 0 rfl 3 rfl
    have x5 := HS3.out.cell 0 rfl 4 rfl
    have x6 := HS3.out.cell 0 rfl 5 rfl
    have x7 := HS3.out.cell 0 rfl 6 rfl
    have x8 := HS3.out.cell 0 rfl 7 rfl
    have x9 := HS3.out.frozen 0 rfl 0
    have x10 := HS3.out.frozen 0 rfl 1
    have x11 := HS3.out.frozen 0 rfl 2
    have x12 := HS3.out.frozen 0 rfl 3
    have x13 := HS3.out.frozen 0 rfl 4
    have x14 := HS3.out.frozen 0 rfl 5
    have x15 := HS3.out.frozen 0 rfl 6
    have x16 := HS3.out.frozen 0 rfl 7
    have x17 := HS3.out.ne 0 1 rfl rfl (by decide)
    have x18 := HS3.out.ne 1 0 rfl rfl (by decide)
    go_wp2
    have HS4 : Hid (St w [⟨w.heap.size + 1, #[.bool false, .string (bs []), .string (bs []), .bool false, .string (bs []), .string (bs []), .int .i64 0, .int .i64 0], 52⟩, ⟨w.heap.size, #[.bool rn, .string (bs ra), .string (bs rb)], 23⟩] _) := Lib.hid (St.set ((St.set ((St.set ((St.set ((St.set ((St.set ((St.set ((St.set (HS3.out) 0 rfl 0 _)) 0 rfl 1 _)) 0 rfl 2 _)) 0 rfl 3 _)) 0 rfl 4 _)) 0 rfl 5 _)) 0 rfl 6 _)) 0 rfl 7 _)
    refine bodyPost_ret (tly_result2 rfl _ _ _ rfl (HS4.out.blk 0 rfl)) rfl ?_
    rw [R.out]
    refine ⟨?_, HS4.out.below⟩
    have := tly0_cells
    unfold tlyC at this
    rw [this]
    rfl

set_option maxRecDepth 100000 in
set_option maxHeartbeats 1000000 in
theorem ref_Accepts (v : Value) (l : List Vtr) (rn : Bool) (ra rb : List UInt8) (w : World) (h : VotersL w v l) (hok : SmallV 100000 l) (la : ra.length ≤ 17179869184) (lb : rb.length ≤ 17179869184) :
    Calls Tryz.prog 25 #[v, raw rn ra rb] w fun e w' => e = .returned (.tuple #[.bool (acceptsR l (decR rn ra rb)).1, .int .i64 (acceptsR l (decR rn ra rb)).2]) ∧ Below w.heap.size w w' := by
  have hC := fun W (hb : Below w.heap.size w W) => ref_CheckVoters v l W (h.below hb) (hok.mono (by decide))
  have hT := fun (hl : l.length ≤ 64) W (hb : Below w.heap.size w W) => ref_tally v l rn ra rb W (h.below hb) hok hl la lb
  have hP := fun (hl : l.length ≤ 64) W => ref_passed (tallyV l (decR rn ra rb)) W (tally_size hok hl _).1 (tally_size hok hl _).2.1 (tally_size hok hl _).2.2.1 (tally_size hok hl _).2.2.2
  have R : Hid (acceptsR l (decR rn ra rb) = if checkV l ≠ 0 then (false, checkV l) else (passedV (tallyV l (decR rn ra rb)), 0)) := rfl
  have hlen : checkV l = 0 → l.length ≤ 64 := fun h => (checkV_zero h).1
  generalize tallyV l (decR rn ra rb) = t at *
  generalize acceptsR l (decR rn ra rb) = r at *
  generalize checkV l = n at *
  unfold tly tlyC at *
  unfold raw at hT ⊢
  have HC := Lib.hid hC
  by_cases h0 : n = 0
  · subst h0
    have hl := hlen rfl
    have HT := Lib.hid (hT hl)
    have HP := Lib.hid (hP hl)
    have R : Hid (r = (passedV t, 0)) := by show _ = _; have := R.out; rw [if_neg (by decide)] at this; exact this
    clear hC hT hlen h hok hl hP
    go_enter Tryz.func25, Tryz.ntmps25
    have HS := Lib.hid (St.start w)
    go_wp2_with fail
    have HS2 : Hid (St w [⟨w.heap.size, #[.bool rn, .string (bs ra), .string (bs rb)], 23⟩] _) := Lib.hid (St.alloc (HS.out) #[.bool rn, .string (bs ra), .string (bs rb)] 23 _ (by simp))
    refine (HC.out _ HS2.out.below).mono ?_
    rintro e w3 ⟨rfl, hb3⟩
    have HS3 := Lib.hid (HS2.out.call hb3)
    clear hb3 HS HS2
    have x1 := HS3.out.cell 0 rfl 0 rfl
    have x2 := HS3.out.cell 0 rfl 1 rfl
    have x3 := HS3.out.cell 0 rfl 2 rfl
    go_wp2_with fail
    refine (HT.out _ HS3.out.below).mono ?_
    rintro e w4 ⟨rfl, hb4⟩
    have HS4 := Lib.hid (HS3.out.call hb4)
    clear hb4 HS3
    clear x1 x2 x3
    go_wp2_with fail
    refine (HP.out _).mono ?_
    rintro e w5 ⟨rfl, hb5⟩
    have HS5 := Lib.hid (HS4.out.call hb5)
    clear hb5 HS4
    go_wp2
    have HS6 : Hid (St w [⟨w.heap.size, #[.bool rn, .string (bs ra), .string (bs rb)], 23⟩] _) := Lib.hid HS5.out
    go_ret2
    rw [R.out]
    exact ⟨rfl, HS6.out.below⟩
  · have hn0 : (n == 0) = false := by rw [beq_eq_false_iff_ne]; exact h0
    have hn1 : (n != 0) = true := by rw [bne, hn0]; rfl
    have R : Hid (r = (false, n)) := by show _ = _; have := R.out; rw [if_pos h0] at this; exact this
    clear hC hT hlen h hok hP
    go_enter Tryz.func25, Tryz.ntmps25
    have HS := Lib.hid (St.start w)
    go_wp2_with fail
    have HS2 : Hid (St w [⟨w.heap.size, #[.bool rn, .string (bs ra), .string (bs rb)], 23⟩] _) := Lib.hid (St.alloc (HS.out) #[.bool rn, .string (bs ra), .string (bs rb)] 23 _ (by simp))
    refine (HC.out _ HS2.out.below).mono ?_
    rintro e w3 ⟨rfl, hb3⟩
    have HS3 := Lib.hid (HS2.out.call hb3)
    clear hb3 HS HS2
    go_wp2
    have HS4 : Hid (St w [⟨w.heap.size, #[.bool rn, .string (bs ra), .string (bs rb)], 23⟩] _) := Lib.hid HS3.out
    go_ret2
    rw [R.out]
    exact ⟨rfl, HS4.out.below⟩
end Go.Proofs.YtakoagjpmdcddaaGreatDoor
