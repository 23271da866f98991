/-
VoteThreshold: the law walked (printed by gen_vot11.py).
-/
import Derived.Test.YtakoagjpmdcddaaGreatDoorVtE
namespace Go.Proofs.YtakoagjpmdcddaaGreatDoor
open Go.RowKit

set_option maxRecDepth 100000 in
set_option maxHeartbeats 3000000 in
theorem law_VoteThreshold (v1 : Value) (ts : List Qua) (v0 : Value) (raw0 : List Vtr) (w : World) (h1 : Quas w v1 ts) (hok : ∀ t ∈ ts, t.ok) (h0 : VotersL w v0 raw0) (hday : ∀ u ∈ raw0, VtrDay u) :
    Calls Tryz.prog 5 #[v1, v0] w fun e w' => e = .returned (.bool true) ∧ Below w.heap.size w w' := by
  have hF := fun W (hb : Below w.heap.size w W) => law30_few v0 raw0 W (h0.below hb)
  have HAW := Lib.hid (fun W => law30_awake W)
  obtain ⟨fB, hfB⟩ : ∃ x, x = fewV raw0 := ⟨_, rfl⟩
  rw [← hfB] at hF
  have HF := Lib.hid hF
  have HFB := Lib.hid hfB.symm
  clear hfB hF
  cases fB
  · go_enter Tryz.func5, Tryz.ntmps5
    have HS := Lib.hid (St.start w)
    go_wp2_with fail
    refine (HF.out _ HS.out.below).mono ?_
    rintro e w2 ⟨rfl, hb2⟩
    have HS2 := Lib.hid (HS.out.call hb2)
    clear hb2 HS
    go_wp2_with fail
    refine (HAW.out _).mono ?_
    rintro e w3 ⟨rfl, hb3⟩
    have HS3 := Lib.hid (HS2.out.call hb3)
    clear hb3 HS2
    go_wp2
    go_ret
    have HS4 : Hid (St w [] _) := Lib.hid HS3.out
    exact ⟨rfl, HS4.out.below⟩
  · have hs0 := (fewV_in HFB.out).2.mono (show 24 ≤ 100000 by decide)
    have hp0 : ∀ u ∈ raw0, W64 u.party := fun u hu => W64_of (hday u hu)
    have c3 := fun W (hb : Below w.heap.size w W) => vote_Threshold v0 raw0 W (h0.below hb) hs0 hp0
    have c4 := fun W (hb : Below w.heap.size w W) => ref_Threshold v0 raw0 W (h0.below hb) hs0
    have z2 := thresholdR_small hs0
    generalize thresholdR raw0 = r2 at *
    have hq0 := fun W (hb : Below w.heap.size w W) => law30_Voters v1 ts W (h1.below hb) hok
    obtain ⟨hln, hall⟩ := votersOf_all hok
    have hsm : SmallV 8 (votersOf ts) := fun u hu => (hall u hu).1
    have hpar : ∀ u ∈ votersOf ts, W64 u.party := fun u hu => W64_of (by have := (hall u hu).2; omega)
    clear hall h1 hok
    generalize votersOf ts = x at *
    have HQ0 := Lib.hid hq0
    clear hq0
    have c1 := fun v W (h : VotersL W v x) => vote_Threshold v x W h (hsm.mono (by decide)) hpar
    have c2 := fun v W (h : VotersL W v x) => ref_Threshold v x W h (hsm.mono (by decide))
    have z1 := thresholdR_small (hsm.mono (show 8 ≤ 100000 by decide))
    generalize thresholdR x = r1 at *
    obtain ⟨p, b1, n1⟩ := r1
    obtain ⟨q, b2, n2⟩ := r2
    dsimp only at *
    have q1 := fun W => eql_same z1 (by decide) W
    have q2 := fun W => eql_same z2 (by decide) W
    unfold rat raw at *
    generalize negB p = np at *
    generalize numB p = bp at *
    generalize denomB p = dp at *
    generalize negB q = nq at *
    generalize numB q = bq at *
    generalize denomB q = dq at *
    have q3 : (n1 == n1) = true := by simp
    have q4 : (n2 == n2) = true := by simp
    have q5 : (b1 == b1) = true := by simp
    have q6 : (b2 == b2) = true := by simp
    have C1 := Lib.hid c1
    have C2 := Lib.hid c2
    have C3 := Lib.hid c3
    have C4 := Lib.hid c4
    have en1 := q1
    have en2 := q2
    clear q1 q2 c1 c2 c3 c4 hsm hpar hs0 hp0 h0 hday HFB z1 z2
    go_enter Tryz.func5, Tryz.ntmps5
    have HS := Lib.hid (St.start w)
    go_wp2_with fail
    refine (HF.out _ HS.out.below).mono ?_
    rintro e w2 ⟨rfl, hb2⟩
    have HS2 := Lib.hid (HS.out.call hb2)
    clear hb2 HS
    go_wp2_with fail
    refine (HQ0.out _ HS2.out.below).mono ?_
    rintro e w3 ⟨v3, rfl, hl3, hb3⟩
    have HS3 := Lib.hid (HS2.out.call hb3)
    have Q_3 := Lib.hid hl3
    clear hl3
    clear hb3 HS2
    have HB0 := Lib.hid HS3.out.below
    clear HS3
    have HT3 := Lib.hid (St.start w3)
    have HZQ := Q_3.out
    have HZQ := Lib.hid HZQ
    clear Q_3
    go_wp2_with fail
    refine (C1.out _ _ (HZQ.out.below HT3.out.below)).mono ?_
    rintro e w4 ⟨rfl, hb4⟩
    have HT4 := Lib.hid (HT3.out.call hb4)
    clear hb4 HT3
    go_wp2_with fail
    have HT5 : Hid (St w3 [⟨w4.heap.size, #[.bool np, .string (bs bp), .string (bs dp)], 23⟩] _) := Lib.hid (St.alloc (HT4.out) #[.bool np, .string (bs bp), .string (bs dp)] 23 _ (by simp))
    refine (C2.out _ _ (HZQ.out.below HT5.out.below)).mono ?_
    rintro e w6 ⟨rfl, hb6⟩
    have HT6 := Lib.hid (HT5.out.call hb6)
    clear hb6 HT4 HT5
    go_wp2_with fail
    have HT7 : Hid (St w3 [⟨w6.heap.size, #[.bool np, .string (bs bp), .string (bs dp)], 23⟩, ⟨w4.heap.size, #[.bool np, .string (bs bp), .string (bs dp)], 23⟩] _) := Lib.hid (St.alloc (HT6.out) #[.bool np, .string (bs bp), .string (bs dp)] 23 _ (by simp))
    refine (C3.out _ (Ext.trans HB0.out HT7.out.below)).mono ?_
    rintro e w8 ⟨rfl, hb8⟩
    have HT8 := Lib.hid (HT7.out.call hb8)
    clear hb8 HT6 HT7
    go_wp2_with fail
    have HT9 : Hid (St w3 [⟨w8.heap.size, #[.bool nq, .string (bs bq), .string (bs dq)], 23⟩, ⟨w6.heap.size, #[.bool np, .string (bs bp), .string (bs dp)], 23⟩, ⟨w4.heap.size, #[.bool np, .string (bs bp), .string (bs dp)], 23⟩] _) := Lib.hid (St.alloc (HT8.out) #[.bool nq, .string (bs bq), .string (bs dq)] 23 _ (by simp))
    refine (C4.out _ (Ext.trans HB0.out HT9.out.below)).mono ?_
    rintro e w10 ⟨rfl, hb10⟩
    have HT10 := Lib.hid (HT9.out.call hb10)
    clear hb10 HT8 HT9
    go_wp2_with fail
    have HT11 : Hid (St w3 [⟨w10.heap.size, #[.bool nq, .string (bs bq), .string (bs dq)], 23⟩, ⟨w8.heap.size, #[.bool nq, .string (bs bq), .string (bs dq)], 23⟩, ⟨w6.heap.size, #[.bool np, .string (bs bp), .string (bs dp)], 23⟩, ⟨w4.heap.size, #[.bool np, .string (bs bp), .string (bs dp)], 23⟩] _) := Lib.hid (St.alloc (HT10.out) #[.bool nq, .string (bs bq), .string (bs dq)] 23 _ (by simp))
    refine (HAW.out _).mono ?_
    rintro e w12 ⟨rfl, hb12⟩
    have HT12 := Lib.hid (HT11.out.call hb12)
    clear hb12 HT10 HT11
    have x1 := HT12.out.cell 3 rfl 0 rfl
    have x2 := HT12.out.cell 3 rfl 1 rfl
    have x3 := HT12.out.cell 3 rfl 2 rfl
    have x4 := HT12.out.cell 2 rfl 0 rfl
    have x5 := HT12.out.cell 2 rfl 1 rfl
    have x6 := HT12.out.cell 2 rfl 2 rfl
    have x7 := HT12.out.cell 1 rfl 0 rfl
    have x8 := HT12.out.cell 1 rfl 1 rfl
    have x9 := HT12.out.cell 1 rfl 2 rfl
    have x10 := HT12.out.cell 0 rfl 0 rfl
    have x11 := HT12.out.cell 0 rfl 1 rfl
    have x12 := HT12.out.cell 0 rfl 2 rfl
    go_wp2
    go_ret
    have HT13 : Hid (St w3 [⟨w10.heap.size, #[.bool nq, .string (bs bq), .string (bs dq)], 23⟩, ⟨w8.heap.size, #[.bool nq, .string (bs bq), .string (bs dq)], 23⟩, ⟨w6.heap.size, #[.bool np, .string (bs bp), .string (bs dp)], 23⟩, ⟨w4.heap.size, #[.bool np, .string (bs bp), .string (bs dp)], 23⟩] _) := Lib.hid HT12.out
    exact ⟨rfl, Ext.trans HB0.out HT13.out.below⟩
end Go.Proofs.YtakoagjpmdcddaaGreatDoor
