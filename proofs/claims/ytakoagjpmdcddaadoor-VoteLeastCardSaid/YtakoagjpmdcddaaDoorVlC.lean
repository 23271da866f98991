/-
VoteLeast: the law walked (printed by gen_vl.py).
-/
import Derived.Test.YtakoagjpmdcddaaDoorVlA
namespace Go.Proofs.YtakoagjpmdcddaaDoor
open Go.RowKit

set_option maxRecDepth 100000 in
set_option maxHeartbeats 2000000 in
theorem law_VoteLeast (v1 : Value) (ts : List Qua) (m : Int) (w : World) (h1 : Quas w v1 ts) (hok : ∀ t ∈ ts, t.ok) (hm : 0 ≤ m ∧ m ≤ 65535) :
    Calls Tryd.prog 4 #[v1, .int .u16 m] w fun e w' => e = .returned (.bool true) ∧ Below w.heap.size w w' := by
  have HAW := Lib.hid (fun W => law30_awake W)
  have hq0 := fun W (hb : Below w.heap.size w W) => law30_Voters v1 ts W (h1.below hb) hok
  obtain ⟨hln, hall⟩ := votersOf_all hok
  have hck := votersOf_check hok
  have hsm : SmallV 8 (votersOf ts) := fun u hu => (hall u hu).1
  have hpar : ∀ u ∈ votersOf ts, W64 u.party := fun u hu => W64_of (by have := (hall u hu).2; omega)
  have ham : ∀ u ∈ votersOf ts, 0 ≤ u.amount ∧ 0 ≤ u.ask := fun u hu => (hall u hu).2.2.2
  clear hall h1 hok
  generalize votersOf ts = x at *
  have HQ := Lib.hid hq0
  clear hq0
  have e1 : Int.tmod m 121 = m % 121 := Int.tmod_eq_emod_of_nonneg hm.1
  have e2 : IntKind.u16.wrap (m % 121) = m % 121 := by rw [IntKind.wrap_u16]; omega
  have e3 : IntKind.i64.wrap (m % 121) = m % 121 := IntWalk.i64_in _ (by omega)
  have hR := fun W => law0_Ratio (m % 121) 120 W (by omega) (by omega) (by decide) (by decide)
  rw [show (120 : Int).toNat = 120 from rfl] at hR
  have hT := fun v W (h : VotersL W v x) => vote_Threshold v x W h (hsm.mono (by decide)) hpar
  have r0 : 0 ≤ mkRat (m % 121) 120 := mkRat_nonneg' (by omega) (by decide)
  have r1 : mkRat (m % 121) 120 ≤ 1 := mkRat_le_one (by decide) (by omega)
  have rs := rateI_sized (n := m % 121) (d := 120) (by decide) (by omega) (by decide)
  generalize mkRat (m % 121) 120 = r at *
  have hA := fun v W (h : VotersL W v x) => vote_Accepts v x (negB r) (numB r) (denomB r) W h (hsm.mono (by decide)) hpar (Nat.le_trans rs.num (by decide)) (Nat.le_trans rs.denom (by decide))
  rw [show decR (negB r) (numB r) (denomB r) = r from dec_enc r] at hA
  have hle := thr_least ham r0 r1
  have ht8 := thrTo_sized (by decide) hsm x.length (Nat.le_refl _)
  rw [thrTo_end] at ht8
  have hres : thresholdR x = ((thrV x).1, (thrV x).2, 0) := by unfold thresholdR; rw [hck]; rfl
  have hacc : acceptsR x r = (passedV (tallyV x r), 0) := by unfold acceptsR; rw [hck]; rfl
  rw [hres] at hT
  rw [hacc, hle] at hA
  dsimp only at hT hA
  generalize (thrV x).1 = t at *
  have hCm := fun W => ref_Compare (negB r) (numB r) (denomB r) (negB t) (numB t) (denomB t) W (Nat.le_trans rs.num (by decide)) (Nat.le_trans rs.denom (by decide)) (Nat.le_trans ht8.num (by decide)) (Nat.le_trans ht8.denom (by decide))
  rw [show decR (negB r) (numB r) (denomB r) = r from dec_enc r, show decR (negB t) (numB t) (denomB t) = t from dec_enc t] at hCm
  have hdc : decide (0 ≤ sgn (r - t).num) = decide (t ≤ r) := by
    rw [Bool.eq_iff_iff, decide_eq_true_eq, decide_eq_true_eq, sgn_nonneg_iff]
    constructor <;> intro h <;> grind
  generalize sgn (r - t).num = cc at *
  obtain ⟨dB, hdB⟩ : ∃ y, y = decide (t ≤ r) := ⟨_, rfl⟩
  rw [← hdB] at hA hdc
  obtain ⟨oB, hoB⟩ : ∃ y, y = (thrV x).2 := ⟨_, rfl⟩
  rw [← hoB] at hT hA
  clear hres hacc hle ht8 hdB hoB r0 r1 rs ham hck hpar hsm hm
  unfold rat raw at *
  generalize negB r = nr at *
  generalize numB r = br at *
  generalize denomB r = dr at *
  generalize negB t = nt at *
  generalize numB t = bt at *
  generalize denomB t = dt at *
  have HR := Lib.hid hR
  have HT := Lib.hid hT
  have HA := Lib.hid hA
  have HCM := Lib.hid hCm
  clear hR hT hA hCm
  cases oB
  · go_enter Tryd.func4, Tryd.ntmps4
    have HS := Lib.hid (St.start w)
    go_wp2_with fail
    refine (HQ.out _ HS.out.below).mono ?_
    rintro e w2 ⟨v2, rfl, hl2, hb2⟩
    have HS2 := Lib.hid (HS.out.call hb2)
    have Q_2 := Lib.hid hl2
    clear hl2
    clear hb2 HS
    go_wp2_with fail
    refine (HT.out _ _ Q_2.out).mono ?_
    rintro e w3 ⟨rfl, hb3⟩
    have HS3 := Lib.hid (HS2.out.call hb3)
    have Q_3 := Lib.hid (Q_2.out.below hb3)
    clear Q_2
    clear hb3 HS2
    go_wp2_with fail
    have HS4 : Hid (St w [⟨w3.heap.size, #[.bool nt, .string (bs bt), .string (bs dt)], 28⟩] _) := Lib.hid (St.alloc (HS3.out) #[.bool nt, .string (bs bt), .string (bs dt)] 28 _ (by simp))
    refine (HR.out _).mono ?_
    rintro e w5 ⟨rfl, hb5⟩
    have HS5 := Lib.hid (HS4.out.call hb5)
    have Q_5 := Lib.hid (Q_3.out.below (Ext.trans (Ext.alloc (Below.refl w3.heap.size w3) (Obj.cells #[.bool nt, .string (bs bt), .string (bs dt)] 28)) hb5))
    clear Q_3
    clear hb5 HS3 HS4
    go_wp2_with fail
    have HS6 : Hid (St w [⟨w5.heap.size, #[.bool nr, .string (bs br), .string (bs dr)], 28⟩, ⟨w3.heap.size, #[.bool nt, .string (bs bt), .string (bs dt)], 28⟩] _) := Lib.hid (St.alloc (HS5.out) #[.bool nr, .string (bs br), .string (bs dr)] 28 _ (by simp))
    refine (HA.out _ _ (Q_5.out.below (Ext.alloc (Below.refl w5.heap.size w5) (Obj.cells #[.bool nr, .string (bs br), .string (bs dr)] 28)))).mono ?_
    rintro e w7 ⟨rfl, hb7⟩
    have HS7 := Lib.hid (HS6.out.call hb7)
    have Q_7 := Lib.hid (Q_5.out.below (Ext.trans (Ext.alloc (Below.refl w5.heap.size w5) (Obj.cells #[.bool nr, .string (bs br), .string (bs dr)] 28)) hb7))
    clear Q_5
    clear hb7 HS5 HS6
    go_wp2_with fail
    refine (HAW.out _).mono ?_
    rintro e w8 ⟨rfl, hb8⟩
    have HS8 := Lib.hid (HS7.out.call hb8)
    have Q_8 := Lib.hid (Q_7.out.below hb8)
    clear Q_7
    clear hb8 HS7
    go_wp2
    go_ret
    have HS9 : Hid (St w [⟨w5.heap.size, #[.bool nr, .string (bs br), .string (bs dr)], 28⟩, ⟨w3.heap.size, #[.bool nt, .string (bs bt), .string (bs dt)], 28⟩] _) := Lib.hid HS8.out
    exact ⟨rfl, HS9.out.below⟩
  · go_enter Tryd.func4, Tryd.ntmps4
    have HS := Lib.hid (St.start w)
    go_wp2_with fail
    refine (HQ.out _ HS.out.below).mono ?_
    rintro e w2 ⟨v2, rfl, hl2, hb2⟩
    have HS2 := Lib.hid (HS.out.call hb2)
    have Q_2 := Lib.hid hl2
    clear hl2
    clear hb2 HS
    go_wp2_with fail
    refine (HT.out _ _ Q_2.out).mono ?_
    rintro e w3 ⟨rfl, hb3⟩
    have HS3 := Lib.hid (HS2.out.call hb3)
    have Q_3 := Lib.hid (Q_2.out.below hb3)
    clear Q_2
    clear hb3 HS2
    go_wp2_with fail
    have HS4 : Hid (St w [⟨w3.heap.size, #[.bool nt, .string (bs bt), .string (bs dt)], 28⟩] _) := Lib.hid (St.alloc (HS3.out) #[.bool nt, .string (bs bt), .string (bs dt)] 28 _ (by simp))
    refine (HR.out _).mono ?_
    rintro e w5 ⟨rfl, hb5⟩
    have HS5 := Lib.hid (HS4.out.call hb5)
    have Q_5 := Lib.hid (Q_3.out.below (Ext.trans (Ext.alloc (Below.refl w3.heap.size w3) (Obj.cells #[.bool nt, .string (bs bt), .string (bs dt)] 28)) hb5))
    clear Q_3
    clear hb5 HS3 HS4
    go_wp2_with fail
    have HS6 : Hid (St w [⟨w5.heap.size, #[.bool nr, .string (bs br), .string (bs dr)], 28⟩, ⟨w3.heap.size, #[.bool nt, .string (bs bt), .string (bs dt)], 28⟩] _) := Lib.hid (St.alloc (HS5.out) #[.bool nr, .string (bs br), .string (bs dr)] 28 _ (by simp))
    refine (HA.out _ _ (Q_5.out.below (Ext.alloc (Below.refl w5.heap.size w5) (Obj.cells #[.bool nr, .string (bs br), .string (bs dr)] 28)))).mono ?_
    rintro e w7 ⟨rfl, hb7⟩
    have HS7 := Lib.hid (HS6.out.call hb7)
    have Q_7 := Lib.hid (Q_5.out.below (Ext.trans (Ext.alloc (Below.refl w5.heap.size w5) (Obj.cells #[.bool nr, .string (bs br), .string (bs dr)] 28)) hb7))
    clear Q_5
    clear hb7 HS5 HS6
    go_wp2_with fail
    refine (HAW.out _).mono ?_
    rintro e w8 ⟨rfl, hb8⟩
    have HS8 := Lib.hid (HS7.out.call hb8)
    have Q_8 := Lib.hid (Q_7.out.below hb8)
    clear Q_7
    clear hb8 HS7
    have x1 := HS8.out.cell 0 rfl 0 rfl
    have x2 := HS8.out.cell 0 rfl 1 rfl
    have x3 := HS8.out.cell 0 rfl 2 rfl
    have x4 := HS8.out.cell 1 rfl 0 rfl
    have x5 := HS8.out.cell 1 rfl 1 rfl
    have x6 := HS8.out.cell 1 rfl 2 rfl
    go_wp2_with fail
    refine (HCM.out _).mono ?_
    rintro e w9 ⟨rfl, hb9⟩
    have HS9 := Lib.hid (HS8.out.call hb9)
    have Q_9 := Lib.hid (Q_8.out.below hb9)
    clear Q_8
    clear hb9 HS8
    clear x1 x2 x3 x4 x5 x6
    go_wp2
    go_ret
    have HS10 : Hid (St w [⟨w5.heap.size, #[.bool nr, .string (bs br), .string (bs dr)], 28⟩, ⟨w3.heap.size, #[.bool nt, .string (bs bt), .string (bs dt)], 28⟩] _) := Lib.hid HS9.out
    exact ⟨rfl, HS10.out.below⟩
end Go.Proofs.YtakoagjpmdcddaaDoor
