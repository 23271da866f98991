/-
VoteCount: the law walked (printed by gen_vot11.py).
-/
import Derived.Test.YtakoagjpmdcddaaGreatDoorVtE
namespace Go.Proofs.YtakoagjpmdcddaaGreatDoor
open Go.RowKit

set_option maxRecDepth 100000 in
set_option maxHeartbeats 3000000 in
theorem law_VoteCount (v1 : Value) (ts : List Qua) (m : Int) (v0 : Value) (raw0 : List Vtr) (fn : Bool) (fa fb : List UInt8) (w : World) (h1 : Quas w v1 ts) (hok : ∀ t ∈ ts, t.ok) (hm : 0 ≤ m ∧ m ≤ 255) (h0 : VotersL w v0 raw0) (hday : ∀ u ∈ raw0, VtrDay u) :
    Calls Tryz.prog 6 #[v1, .int .u8 m, v0, raw fn fa fb] w fun e w' => e = .returned (.bool true) ∧ Below w.heap.size w w' := by
  have hF := fun W (hb : Below w.heap.size w W) => law30_few v0 raw0 W (h0.below hb)
  have hG := fun W => law0_Few fn fa fb W
  have HAW := Lib.hid (fun W => law30_awake W)
  obtain ⟨fB, hfB⟩ : ∃ x, x = fewV raw0 := ⟨_, rfl⟩
  obtain ⟨gB, hgB⟩ : ∃ x, x = fewR fa fb := ⟨_, rfl⟩
  rw [← hfB] at hF
  rw [← hgB] at hG
  unfold raw at hG
  have HF := Lib.hid hF
  have HG := Lib.hid hG
  have HFB := Lib.hid hfB.symm
  have HGB := Lib.hid hgB.symm
  clear hfB hF hgB hG
  cases fB
  · unfold raw
    go_enter Tryz.func6, Tryz.ntmps6
    have HS := Lib.hid (St.start w)
    go_wp2_with fail
    have HS2 : Hid (St w [⟨w.heap.size, #[.bool fn, .string (bs fa), .string (bs fb)], 23⟩] _) := Lib.hid (St.alloc (HS.out) #[.bool fn, .string (bs fa), .string (bs fb)] 23 _ (by simp))
    refine (HF.out _ HS2.out.below).mono ?_
    rintro e w3 ⟨rfl, hb3⟩
    have HS3 := Lib.hid (HS2.out.call hb3)
    clear hb3 HS HS2
    go_wp2_with fail
    refine (HAW.out _).mono ?_
    rintro e w4 ⟨rfl, hb4⟩
    have HS4 := Lib.hid (HS3.out.call hb4)
    clear hb4 HS3
    go_wp2
    go_ret
    have HS5 : Hid (St w [⟨w.heap.size, #[.bool fn, .string (bs fa), .string (bs fb)], 23⟩] _) := Lib.hid HS4.out
    exact ⟨rfl, HS5.out.below⟩
  · cases gB
    · unfold raw
      go_enter Tryz.func6, Tryz.ntmps6
      have HS := Lib.hid (St.start w)
      go_wp2_with fail
      have HS2 : Hid (St w [⟨w.heap.size, #[.bool fn, .string (bs fa), .string (bs fb)], 23⟩] _) := Lib.hid (St.alloc (HS.out) #[.bool fn, .string (bs fa), .string (bs fb)] 23 _ (by simp))
      refine (HF.out _ HS2.out.below).mono ?_
      rintro e w3 ⟨rfl, hb3⟩
      have HS3 := Lib.hid (HS2.out.call hb3)
      clear hb3 HS HS2
      have x1 := HS3.out.cell 0 rfl 0 rfl
      have x2 := HS3.out.cell 0 rfl 1 rfl
      have x3 := HS3.out.cell 0 rfl 2 rfl
      go_wp2_with fail
      refine (HG.out _).mono ?_
      rintro e w4 ⟨rfl, hb4⟩
      have HS4 := Lib.hid (HS3.out.call hb4)
      clear hb4 HS3
      clear x1 x2 x3
      go_wp2_with fail
      refine (HAW.out _).mono ?_
      rintro e w5 ⟨rfl, hb5⟩
      have HS5 := Lib.hid (HS4.out.call hb5)
      clear hb5 HS4
      go_wp2
      go_ret
      have HS6 : Hid (St w [⟨w.heap.size, #[.bool fn, .string (bs fa), .string (bs fb)], 23⟩] _) := Lib.hid HS5.out
      exact ⟨rfl, HS6.out.below⟩
    · have hs0 := (fewV_in HFB.out).2.mono (show 24 ≤ 100000 by decide)
      have hfl : fa.length ≤ 17179869184 ∧ fb.length ≤ 17179869184 := by
        have := HGB.out
        unfold fewR at this
        simp only [Bool.and_eq_true, decide_eq_true_eq] at this
        omega
      have hp0 : ∀ u ∈ raw0, W64 u.party := fun u hu => W64_of (hday u hu)
      have c3 := fun W (hb : Below w.heap.size w W) => vote_Count v0 raw0 fn fa fb W (h0.below hb) hs0 hp0 hfl.1 hfl.2
      have c4 := fun W (hb : Below w.heap.size w W) => ref_Count v0 raw0 fn fa fb W (h0.below hb) hs0 hfl.1 hfl.2
      have z2 := countR_small hs0 (decR fn fa fb)
      generalize hr2 : countR raw0 (decR fn fa fb) = r2 at *
      have hq0 := fun W (hb : Below w.heap.size w W) => law30_Voters v1 ts W (h1.below hb) hok
      obtain ⟨hln, hall⟩ := votersOf_all hok
      have hsm : SmallV 8 (votersOf ts) := fun u hu => (hall u hu).1
      have hpar : ∀ u ∈ votersOf ts, W64 u.party := fun u hu => W64_of (by have := (hall u hu).2; omega)
      clear hall h1 hok
      generalize votersOf ts = x at *
      have HQ0 := Lib.hid hq0
      clear hq0
      have e1 : Int.tmod m 14 = m % 14 := Int.tmod_eq_emod_of_nonneg hm.1
      have e2 : IntKind.u8.wrap (m % 14) = m % 14 := by rw [IntKind.wrap_u8]; omega
      have e3 : IntKind.i64.wrap (m % 14) = m % 14 := IntWalk.i64_in _ (by omega)
      have hR := fun W => law0_Ratio (m % 14) 12 W (by omega) (by omega) (by decide) (by decide)
      rw [show (12 : Int).toNat = 12 from rfl] at hR
      have rs := rateI_sized (n := m % 14) (d := 12) (by decide) (by omega) (by decide)
      generalize mkRat (m % 14) 12 = r at *
      have c1 := fun v W (h : VotersL W v x) => vote_Count v x (negB r) (numB r) (denomB r) W h (hsm.mono (by decide)) hpar (Nat.le_trans rs.num (by decide)) (Nat.le_trans rs.denom (by decide))
      have c2 := fun v W (h : VotersL W v x) => ref_Count v x (negB r) (numB r) (denomB r) W h (hsm.mono (by decide)) (Nat.le_trans rs.num (by decide)) (Nat.le_trans rs.denom (by decide))
      rw [show decR (negB r) (numB r) (denomB r) = r from dec_enc r] at c1 c2
      have z1 := countR_small (hsm.mono (show 8 ≤ 100000 by decide)) r
      generalize countR x r = r1 at *
      obtain ⟨t1, n1⟩ := r1
      obtain ⟨t2, n2⟩ := r2
      dsimp only at *
      have q1 := fun W => tly_same z1 W
      have q2 := fun W => tly_same z2 W
      unfold tly tlyC at *
      generalize negB t1.amount = nxa at *
      generalize numB t1.amount = axa at *
      generalize denomB t1.amount = dxa at *
      generalize negB t1.yes = nxf at *
      generalize numB t1.yes = axf at *
      generalize denomB t1.yes = dxf at *
      generalize ((t1.heads : Nat) : Int) = mx at *
      generalize ((t1.yesHeads : Nat) : Int) = kx at *
      generalize negB t2.amount = nza at *
      generalize numB t2.amount = aza at *
      generalize denomB t2.amount = dza at *
      generalize negB t2.yes = nzf at *
      generalize numB t2.yes = azf at *
      generalize denomB t2.yes = dzf at *
      generalize ((t2.heads : Nat) : Int) = mz at *
      generalize ((t2.yesHeads : Nat) : Int) = kz at *
      unfold rat raw at *
      generalize negB r = nr at *
      generalize numB r = br at *
      generalize denomB r = dr at *
      have q3 : (n1 == n1) = true := by simp
      have q4 : (n2 == n2) = true := by simp
      have HR := Lib.hid hR
      have C1 := Lib.hid c1
      have C2 := Lib.hid c2
      have C3 := Lib.hid c3
      have C4 := Lib.hid c4
      have Q1 := Lib.hid q1
      have Q2 := Lib.hid q2
      clear hR c1 c2 c3 c4 rs hsm hpar hs0 hfl hp0 hr2 h0 hday hm HFB HGB z1 z2 q1 q2
      have en1 := Q1.out
      have en2 := Q2.out
      clear Q1 Q2
      go_enter Tryz.func6, Tryz.ntmps6
      have HS := Lib.hid (St.start w)
      go_wp2_with fail
      have HS2 : Hid (St w [⟨w.heap.size, #[.bool fn, .string (bs fa), .string (bs fb)], 23⟩] _) := Lib.hid (St.alloc (HS.out) #[.bool fn, .string (bs fa), .string (bs fb)] 23 _ (by simp))
      refine (HF.out _ HS2.out.below).mono ?_
      rintro e w3 ⟨rfl, hb3⟩
      have HS3 := Lib.hid (HS2.out.call hb3)
      clear hb3 HS HS2
      have x1 := HS3.out.cell 0 rfl 0 rfl
      have x2 := HS3.out.cell 0 rfl 1 rfl
      have x3 := HS3.out.cell 0 rfl 2 rfl
      go_wp2_with fail
      refine (HG.out _).mono ?_
      rintro e w4 ⟨rfl, hb4⟩
      have HS4 := Lib.hid (HS3.out.call hb4)
      clear hb4 HS3
      clear x1 x2 x3
      go_wp2_with fail
      refine (HQ0.out _ HS4.out.below).mono ?_
      rintro e w5 ⟨v5, rfl, hl5, hb5⟩
      have HS5 := Lib.hid (HS4.out.call hb5)
      have Q_5 := Lib.hid hl5
      clear hl5
      clear hb5 HS4
      have HB0 := Lib.hid HS5.out.below
      have HBK := Lib.hid (HS5.out.blk 0 rfl)
      have HBL := Lib.hid (HS5.out.lt 0 rfl)
      clear HS5
      have HT5 := Lib.hid (St.start w5)
      have HBX : Hid (∀ W, Below w5.heap.size w5 W → ∀ (j : Nat) (v : Value), (#[.bool fn, .string (bs fa), .string (bs fb)] : Array Value)[j]? = some v → W.cell? ⟨w.heap.size, j, none⟩ = some v) := fun W hb j v hv => (HBK.out.below hb HBL.out).cell j v hv
      have HZQ := Q_5.out
      have HZQ := Lib.hid HZQ
      clear Q_5
      go_wp2_with fail
      refine (HR.out _).mono ?_
      rintro e w6 ⟨rfl, hb6⟩
      have HT6 := Lib.hid (HT5.out.call hb6)
      clear hb6 HT5
      go_wp2_with fail
      refine (C1.out _ _ (HZQ.out.below HT6.out.below)).mono ?_
      rintro e w7 ⟨rfl, hb7⟩
      have HT7 := Lib.hid (HT6.out.call hb7)
      clear hb7 HT6
      go_wp2_with fail
      have HT8 : Hid (St w5 [⟨w7.heap.size, #[.bool nxa, .string (bs axa), .string (bs dxa), .bool nxf, .string (bs axf), .string (bs dxf), .int .i64 mx, .int .i64 kx], 52⟩] _) := Lib.hid (St.alloc (HT7.out) #[.bool nxa, .string (bs axa), .string (bs dxa), .bool nxf, .string (bs axf), .string (bs dxf), .int .i64 mx, .int .i64 kx] 52 _ (by simp))
      refine (HR.out _).mono ?_
      rintro e w9 ⟨rfl, hb9⟩
      have HT9 := Lib.hid (HT8.out.call hb9)
      clear hb9 HT7 HT8
      go_wp2_with fail
      refine (C2.out _ _ (HZQ.out.below HT9.out.below)).mono ?_
      rintro e w10 ⟨rfl, hb10⟩
      have HT10 := Lib.hid (HT9.out.call hb10)
      clear hb10 HT9
      have x4 : w.heap.size < w10.heap.size := Nat.lt_of_lt_of_le HBL.out HT10.out.below.size
      have x5 : ¬ w.heap.size = w10.heap.size := by omega
      have x6 := HBX.out _ HT10.out.below 0 _ rfl
      have x7 := HBX.out _ HT10.out.below 1 _ rfl
      have x8 := HBX.out _ HT10.out.below 2 _ rfl
      go_wp2_with fail
      have HT11 : Hid (St w5 [⟨w10.heap.size, #[.bool nxa, .string (bs axa), .string (bs dxa), .bool nxf, .string (bs axf), .string (bs dxf), .int .i64 mx, .int .i64 kx], 52⟩, ⟨w7.heap.size, #[.bool nxa, .string (bs axa), .string (bs dxa), .bool nxf, .string (bs axf), .string (bs dxf), .int .i64 mx, .int .i64 kx], 52⟩] _) := Lib.hid (St.alloc (HT10.out) #[.bool nxa, .string (bs axa), .string (bs dxa), .bool nxf, .string (bs axf), .string (bs dxf), .int .i64 mx, .int .i64 kx] 52 _ (by simp))
      refine (C3.out _ (Ext.trans HB0.out HT11.out.below)).mono ?_
      rintro e w12 ⟨rfl, hb12⟩
      have HT12 := Lib.hid (HT11.out.call hb12)
      clear hb12 HT10 HT11
      clear x4 x5 x6 x7 x8
      have x9 : w.heap.size < w12.heap.size := Nat.lt_of_lt_of_le HBL.out HT12.out.below.size
      have x10 : ¬ w.heap.size = w12.heap.size := by omega
      have x11 := HBX.out _ HT12.out.below 0 _ rfl
      have x12 := HBX.out _ HT12.out.below 1 _ rfl
      have x13 := HBX.out _ HT12.out.below 2 _ rfl
      go_wp2_with fail
      have HT13 : Hid (St w5 [⟨w12.heap.size, #[.bool nza, .string (bs aza), .string (bs dza), .bool nzf, .string (bs azf), .string (bs dzf), .int .i64 mz, .int .i64 kz], 52⟩, ⟨w10.heap.size, #[.bool nxa, .string (bs axa), .string (bs dxa), .bool nxf, .string (bs axf), .string (bs dxf), .int .i64 mx, .int .i64 kx], 52⟩, ⟨w7.heap.size, #[.bool nxa, .string (bs axa), .string (bs dxa), .bool nxf, .string (bs axf), .string (bs dxf), .int .i64 mx, .int .i64 kx], 52⟩] _) := Lib.hid (St.alloc (HT12.out) #[.bool nza, .string (bs aza), .string (bs dza), .bool nzf, .string (bs azf), .string (bs dzf), .int .i64 mz, .int .i64 kz] 52 _ (by simp))
      refine (C4.out _ (Ext.trans HB0.out HT13.out.below)).mono ?_
      rintro e w14 ⟨rfl, hb14⟩
      have HT14 := Lib.hid (HT13.out.call hb14)
      clear hb14 HT12 HT13
      clear x9 x10 x11 x12 x13
      go_wp2_with fail
      have HT15 : Hid (St w5 [⟨w14.heap.size, #[.bool nza, .string (bs aza), .string (bs dza), .bool nzf, .string (bs azf), .string (bs dzf), .int .i64 mz, .int .i64 kz], 52⟩, ⟨w12.heap.size, #[.bool nza, .string (bs aza), .string (bs dza), .bool nzf, .string (bs azf), .string (bs dzf), .int .i64 mz, .int .i64 kz], 52⟩, ⟨w10.heap.size, #[.bool nxa, .string (bs axa), .string (bs dxa), .bool nxf, .string (bs axf), .string (bs dxf), .int .i64 mx, .int .i64 kx], 52⟩, ⟨w7.heap.size, #[.bool nxa, .string (bs axa), .string (bs dxa), .bool nxf, .string (bs axf), .string (bs dxf), .int .i64 mx, .int .i64 kx], 52⟩] _) := Lib.hid (St.alloc (HT14.out) #[.bool nza, .string (bs aza), .string (bs dza), .bool nzf, .string (bs azf), .string (bs dzf), .int .i64 mz, .int .i64 kz] 52 _ (by simp))
      refine (HAW.out _).mono ?_
      rintro e w16 ⟨rfl, hb16⟩
      have HT16 := Lib.hid (HT15.out.call hb16)
      clear hb16 HT14 HT15
      have x14 := HT16.out.cell 3 rfl 0 rfl
      have x15 := HT16.out.cell 3 rfl 1 rfl
      have x16 := HT16.out.cell 3 rfl 2 rfl
      have x17 := HT16.out.cell 3 rfl 3 rfl
      have x18 := HT16.out.cell 3 rfl 4 rfl
      have x19 := HT16.out.cell 3 rfl 5 rfl
      have x20 := HT16.out.cell 3 rfl 6 rfl
      have x21 := HT16.out.cell 3 rfl 7 rfl
      have x22 := HT16.out.cell 2 rfl 0 rfl
      have x23 := HT16.out.cell 2 rfl 1 rfl
      have x24 := HT16.out.cell 2 rfl 2 rfl
      have x25 := HT16.out.cell 2 rfl 3 rfl
      have x26 := HT16.out.cell 2 rfl 4 rfl
      have x27 := HT16.out.cell 2 rfl 5 rfl
      have x28 := HT16.out.cell 2 rfl 6 rfl
      have x29 := HT16.out.cell 2 rfl 7 rfl
      have x30 := HT16.out.cell 1 rfl 0 rfl
      have x31 := HT16.out.cell 1 rfl 1 rfl
      have x32 := HT16.out.cell 1 rfl 2 rfl
      have x33 := HT16.out.cell 1 rfl 3 rfl
      have x34 := HT16.out.cell 1 rfl 4 rfl
      have x35 := HT16.out.cell 1 rfl 5 rfl
      have x36 := HT16.out.cell 1 rfl 6 rfl
      have x37 := HT16.out.cell 1 rfl 7 rfl
      have x38 := HT16.out.cell 0 rfl 0 rfl
      have x39 := HT16.out.cell 0 rfl 1 rfl
      have x40 := HT16.out.cell 0 rfl 2 rfl
      have x41 := HT16.out.cell 0 rfl 3 rfl
      have x42 := HT16.out.cell 0 rfl 4 rfl
      have x43 := HT16.out.cell 0 rfl 5 rfl
      have x44 := HT16.out.cell 0 rfl 6 rfl
      have x45 := HT16.out.cell 0 rfl 7 rfl
      go_wp2
      go_ret
      have HT17 : Hid (St w5 [⟨w14.heap.size, #[.bool nza, .string (bs aza), .string (bs dza), .bool nzf, .string (bs azf), .string (bs dzf), .int .i64 mz, .int .i64 kz], 52⟩, ⟨w12.heap.size, #[.bool nza, .string (bs aza), .string (bs dza), .bool nzf, .string (bs azf), .string (bs dzf), .int .i64 mz, .int .i64 kz], 52⟩, ⟨w10.heap.size, #[.bool nxa, .string (bs axa), .string (bs dxa), .bool nxf, .string (bs axf), .string (bs dxf), .int .i64 mx, .int .i64 kx], 52⟩, ⟨w7.heap.size, #[.bool nxa, .string (bs axa), .string (bs dxa), .bool nxf, .string (bs axf), .string (bs dxf), .int .i64 mx, .int .i64 kx], 52⟩] _) := Lib.hid HT16.out
      exact ⟨rfl, Ext.trans HB0.out HT17.out.below⟩
end Go.Proofs.YtakoagjpmdcddaaGreatDoor
