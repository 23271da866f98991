/-
VoteCheck: the law walked (printed by gen_vl.py).
-/
import Derived.Test.YtakoagjpmdcddaaDoorVlA
namespace Go.Proofs.YtakoagjpmdcddaaDoor
open Go.RowKit

set_option maxRecDepth 100000 in
set_option maxHeartbeats 2000000 in
theorem law_VoteCheck (v0 : Value) (raw0 : List Vtr) (v1 : Value) (ts : List Qua) (m : Int) (w : World) (h0 : VotersL w v0 raw0) (_ : ∀ u ∈ raw0, VtrDay u) (h1 : Quas w v1 ts) (hok : ∀ t ∈ ts, t.ok) (hm : 0 ≤ m ∧ m ≤ 255) :
    Calls Tryd.prog 3 #[v0, v1, .int .u8 m] w fun e w' => e = .returned (.bool true) ∧ Below w.heap.size w w' := by
  have hF := fun W (hb : Below w.heap.size w W) => law30_few v0 raw0 W (h0.below hb)
  have HAW := Lib.hid (fun W => law30_awake W)
  obtain ⟨fB, hfB⟩ : ∃ x, x = fewV raw0 := ⟨_, rfl⟩
  rw [← hfB] at hF
  have HF := Lib.hid hF
  have HFB := Lib.hid hfB.symm
  clear hfB hF
  cases fB
  · go_enter Tryd.func3, Tryd.ntmps3
    have HS := Lib.hid (St.start w)
    go_wp2_with fail
    refine (HF.out _ HS.out.below).mono ?_
    rintro e w2 ⟨rfl, hb2⟩
    have HS2 := Lib.hid (HS.out.call hb2)
    clear hb2 HS
    go_wp2_with fail
    refine (HAW.out _).mono ?_
    rintro e w3 ⟨rfl, hb3⟩
    have HS3 := Lib.hid (HS2.out.call hb3)
    clear hb3 HS2
    go_wp2
    go_ret
    have HS4 : Hid (St w [] _) := Lib.hid HS3.out
    exact ⟨rfl, HS4.out.below⟩
  · obtain ⟨i0, hi0, hz0, hz1, hz2⟩ := info_parts info_voter
    have HI := Lib.hid hi0
    have hsr := (fewV_in HFB.out).2.mono (show 24 ≤ 68719476736 by decide)
    have hC := fun W (hb : Below w.heap.size w W) => vote_Check v0 raw0 W (h0.below hb) hsr
    have hR := fun W (hb : Below w.heap.size w W) => ref_CheckVoters v0 raw0 W (h0.below hb) hsr
    obtain ⟨n1, hn1⟩ : ∃ x, x = checkV raw0 := ⟨_, rfl⟩
    rw [← hn1] at hC hR
    have HC := Lib.hid hC
    have HR := Lib.hid hR
    have hq0 := fun W (hb : Below w.heap.size w W) => law0_Voters v1 ts W (h1.below hb) hok
    have hsm : SmallV 8 (votersOf ts) := fun u hu => ((votersOf_all hok).2 u hu).1
    have hln := (votersOf_all hok).1
    generalize votersOf ts = x at *
    have HQ := Lib.hid hq0
    have e2 : Int.tmod m 70 = m % 70 := Int.tmod_eq_emod_of_nonneg hm.1
    have e3 : IntKind.u8.wrap (m % 70) = m % 70 := by rw [IntKind.wrap_u8]; omega
    have e4 : IntKind.i64.wrap (m % 70) = m % 70 := IntWalk.i64_in _ (by omega)
    obtain ⟨q, hqd⟩ : ∃ y, y = m % 70 := ⟨_, rfl⟩
    rw [← hqd] at e2 e3 e4
    have hq1 : 0 ≤ q ∧ q < 70 := by omega
    have e5 : m % 70 = q := hqd.symm
    clear HFB hsr hC hR hn1 hq0 h0 h1 hok hm hi0 hqd
    go_enter Tryd.func3, Tryd.ntmps3
    have HS := Lib.hid (St.start w)
    go_wp2_with fail
    refine (HF.out _ HS.out.below).mono ?_
    rintro e w2 ⟨rfl, hb2⟩
    have HS2 := Lib.hid (HS.out.call hb2)
    clear hb2 HS
    go_wp2_with fail
    have HSB := Lib.hid HS2.out.below
    refine (HQ.out _ HS2.out.below).mono ?_
    rintro e w3 ⟨v3, rfl, hl3, hb3⟩
    have HS3 := Lib.hid (HS2.out.call hb3)
    have Q_3 := Lib.hid hl3
    clear hl3
    clear hb3 HS2
    go_wp2
    have HQB := Lib.hid (Q_3.out.base (show w.heap.size ≤ _ from HSB.out.size))
    clear Q_3
    go_loopw [7] (fun v wr => ∃ k : Nat, x.length + k ≤ 70 ∧ (k = 0 ∨ 0 < x.length) ∧ Hid (Grows wr w.heap.size 30 8 v (x.length + k) (flat Vtr.enc (padV x k))) ∧ Hid (St w [] wr)) (fun v _ => 70 - (match v with | .slice _ n _ => n | _ => 0))
    case atStart => exact ⟨0, by omega, .inl rfl, by show Grows _ _ _ _ _ _ _; rw [padV_zero]; exact HQB.out, HS3.out⟩
    case round =>
      clear HQB HS3 HQ
      obtain ⟨k, hk, hk0, HG, HS⟩ := hrel
      obtain ⟨wo, hwo⟩ : ∃ wo : World, wo = wr := ⟨_, rfl⟩
      subst hwo
      have HV := Lib.hid (HG.out.voters (padV_len x k))
      obtain ⟨A, c, hvd, hl, hc⟩ := HV.out.slice
      rw [padV_len] at hvd
      subst hvd
      by_cases h0 : 0 < x.length
      · have d0 : decide ((0 : Int) < ((x.length + k : Nat) : Int)) = true := decide_eq_true (by omega)
        by_cases hlt : ((x.length + k : Nat) : Int) < q
        · have d1 : decide (((x.length + k : Nat) : Int) < q) = true := decide_eq_true hlt
          obtain ⟨b, o, u, rfl, hbb, hq0, hx⟩ := HV.out.at_ (j := 0) (by rw [padV_len]; omega)
          have hx0 : x[0]? = some u := by unfold padV at hq0; rwa [List.getElem?_append_left h0] at hq0
          have HPS := Lib.hid (padV_snoc hx0 k)
          have HX := Lib.hid hx
          have f1 : (0 : Int) < ((x.length + k : Nat) : Int) := by omega
          have HT := Lib.hid (St.start wo)
          clear hx hq0 hx0
          have x1 : b < wo.heap.size := Nat.lt_of_lt_of_le hbb HT.out.below.size
          have x2 : ¬ b = wo.heap.size := by omega
          have x3 := HX.out _ HT.out.below 0 _ rfl
          try simp only [Nat.zero_mul, Nat.add_zero] at x3
          have x4 := HX.out _ HT.out.below 1 _ rfl
          try simp only [Nat.zero_mul, Nat.add_zero] at x4
          have x5 := HX.out _ HT.out.below 2 _ rfl
          try simp only [Nat.zero_mul, Nat.add_zero] at x5
          have x6 := HX.out _ HT.out.below 3 _ rfl
          try simp only [Nat.zero_mul, Nat.add_zero] at x6
          have x7 := HX.out _ HT.out.below 4 _ rfl
          try simp only [Nat.zero_mul, Nat.add_zero] at x7
          have x8 := HX.out _ HT.out.below 5 _ rfl
          try simp only [Nat.zero_mul, Nat.add_zero] at x8
          have x9 := HX.out _ HT.out.below 6 _ rfl
          try simp only [Nat.zero_mul, Nat.add_zero] at x9
          have x10 := HX.out _ HT.out.below 7 _ rfl
          try simp only [Nat.zero_mul, Nat.add_zero] at x10
          have hsz := HS.out.below.size
          have hgr := HG.out
          go_wp2_with (at_builtin; refine wpList_push wo rfl _ _ 22 rfl w.heap.size 30 i0 _ 8 96 Tryd.underlying22 HI.out hz0 hz1 hz2 rfl (by decide) vtr_len (.slice (some ⟨b, o, none⟩) (x.length + k) c) (x.length + k) (padV x k) (by simp [Act.eval]) (by exact hgr) u _ ?c1 (by simp [Act.eval]) (vtr_cells _) (by unfold maxLen; omega) (by omega) hsz ?_)
          case c1 => rfl
          intro v9 w9 hown9 hb9
          rw [← HPS.out] at hown9
          have HG9 : Hid (Grows w9 w.heap.size 30 8 v9 (x.length + (k + 1)) (flat Vtr.enc (padV x (k + 1)))) := hown9
          have HS9 := Lib.hid (St.of (HS.out.below.trans hb9))
          clear hown9 hb9 hgr
          obtain ⟨A9, c9, hvd9, _, _⟩ := (HG9.out.voters (padV_len x (k + 1))).slice
          rw [padV_len] at hvd9
          subst hvd9
          go_wp2
          go_roundw
          case rel => exact ⟨k + 1, by omega, .inr h0, HG9.out, HS9.out⟩
          case measure => simp <;> omega
        · have d1 : decide (((x.length + k : Nat) : Int) < q) = false := decide_eq_false hlt
          have hsp : SmallV 68719476736 (padV x k) := (padV_small hsm h0 k).mono (by decide)
          have hPC := fun v W (h : VotersL W v (padV x k)) => vote_Check v (padV x k) W h hsp
          have hPR := fun v W (h : VotersL W v (padV x k)) => ref_CheckVoters v (padV x k) W h hsp
          obtain ⟨n2, hn2⟩ : ∃ z, z = checkV (padV x k) := ⟨_, rfl⟩
          rw [← hn2] at hPC hPR
          have HPC := Lib.hid hPC
          have HPR := Lib.hid hPR
          have q1 : (n1 == n1) = true := by simp
          have q2 : (n2 == n2) = true := by simp
          clear hPC hPR hn2 hsp HG
          go_wp2_with fail
          refine (HAW.out _).mono ?_
          rintro e w4 ⟨rfl, hb4⟩
          have HS4 := Lib.hid (HS.out.call hb4)
          have P_4 := Lib.hid (HV.out.below hb4)
          clear HV
          clear hb4 HS
          go_wp2_with fail
          refine (HC.out _ HS4.out.below).mono ?_
          rintro e w5 ⟨rfl, hb5⟩
          have HS5 := Lib.hid (HS4.out.call hb5)
          have P_5 := Lib.hid (P_4.out.below hb5)
          clear P_4
          clear hb5 HS4
          go_wp2_with fail
          refine (HR.out _ HS5.out.below).mono ?_
          rintro e w6 ⟨rfl, hb6⟩
          have HS6 := Lib.hid (HS5.out.call hb6)
          have P_6 := Lib.hid (P_5.out.below hb6)
          clear P_5
          clear hb6 HS5
          go_wp2_with fail
          refine (HPC.out _ _ P_6.out).mono ?_
          rintro e w7 ⟨rfl, hb7⟩
          have HS7 := Lib.hid (HS6.out.call hb7)
          have P_7 := Lib.hid (P_6.out.below hb7)
          clear P_6
          clear hb7 HS6
          go_wp2_with fail
          refine (HPR.out _ _ P_7.out).mono ?_
          rintro e w8 ⟨rfl, hb8⟩
          have HS8 := Lib.hid (HS7.out.call hb8)
          have P_8 := Lib.hid (P_7.out.below hb8)
          clear P_7
          clear hb8 HS7
          go_wp2
          go_ret
          have HS9 : Hid (St w [] _) := Lib.hid HS8.out
          exact ⟨rfl, HS9.out.below⟩
      · obtain rfl : k = 0 := by omega
        have d0 : decide ((0 : Int) < ((x.length + 0 : Nat) : Int)) = false := decide_eq_false (by omega)
        have hsp : SmallV 68719476736 (padV x 0) := by rw [padV_zero]; exact hsm.mono (by decide)
        have hPC := fun v W (h : VotersL W v (padV x 0)) => vote_Check v (padV x 0) W h hsp
        have hPR := fun v W (h : VotersL W v (padV x 0)) => ref_CheckVoters v (padV x 0) W h hsp
        obtain ⟨n2, hn2⟩ : ∃ z, z = checkV (padV x 0) := ⟨_, rfl⟩
        rw [← hn2] at hPC hPR
        have HPC := Lib.hid hPC
        have HPR := Lib.hid hPR
        have q1 : (n1 == n1) = true := by simp
        have q2 : (n2 == n2) = true := by simp
        clear hPC hPR hn2 hsp HG
        go_wp2_with fail
        refine (HAW.out _).mono ?_
        rintro e w4 ⟨rfl, hb4⟩
        have HS4 := Lib.hid (HS.out.call hb4)
        have P_4 := Lib.hid (HV.out.below hb4)
        clear HV
        clear hb4 HS
        go_wp2_with fail
        refine (HC.out _ HS4.out.below).mono ?_
        rintro e w5 ⟨rfl, hb5⟩
        have HS5 := Lib.hid (HS4.out.call hb5)
        have P_5 := Lib.hid (P_4.out.below hb5)
        clear P_4
        clear hb5 HS4
        go_wp2_with fail
        refine (HR.out _ HS5.out.below).mono ?_
        rintro e w6 ⟨rfl, hb6⟩
        have HS6 := Lib.hid (HS5.out.call hb6)
        have P_6 := Lib.hid (P_5.out.below hb6)
        clear P_5
        clear hb6 HS5
        go_wp2_with fail
        refine (HPC.out _ _ P_6.out).mono ?_
        rintro e w7 ⟨rfl, hb7⟩
        have HS7 := Lib.hid (HS6.out.call hb7)
        have P_7 := Lib.hid (P_6.out.below hb7)
        clear P_6
        clear hb7 HS6
        go_wp2_with fail
        refine (HPR.out _ _ P_7.out).mono ?_
        rintro e w8 ⟨rfl, hb8⟩
        have HS8 := Lib.hid (HS7.out.call hb8)
        have P_8 := Lib.hid (P_7.out.below hb8)
        clear P_7
        clear hb8 HS7
        go_wp2
        go_ret
        have HS9 : Hid (St w [] _) := Lib.hid HS8.out
        exact ⟨rfl, HS9.out.below⟩
end Go.Proofs.YtakoagjpmdcddaaDoor
