/-
VoteOrder: the law walked (printed by gen_vl2.py).
-/
import Derived.Test.YtakoagjpmdcddaaDoorVlA
import Derived.Test.YtakoagjpmdcddaaDoorVtQ
import Derived.Test.YtakoagjpmdcddaaDoorInz
import Derived.Test.YtakoagjpmdcddaaDoorApl
namespace Go.Proofs.YtakoagjpmdcddaaDoor
open Go.RowKit

/-- A place in a list. -/
def pickZ (k : Int) (n : Nat) : Nat := if n = 0 then 0 else (k % (n : Int)).toNat
theorem pickZ_le (k : Int) (n : Nat) : pickZ k n ≤ n := by
  unfold pickZ
  split
  · omega
  · rename_i h
    have h1 := Int.emod_lt_of_pos k (show (0 : Int) < n by omega)
    have h2 := Int.emod_nonneg k (show (n : Int) ≠ 0 by omega)
    omega

set_option maxRecDepth 100000 in
set_option maxHeartbeats 1000000 in
theorem law0_Pick (k : Int) (n : Nat) (w : World) (hk : 0 ≤ k ∧ k ≤ 1000000) (hn : n ≤ 1000000) :
    Calls Tryd.prog 16 #[.int .i64 k, .int .i64 (n : Nat)] w fun e w' => e = .returned (.int .i64 (pickZ k n : Nat)) ∧ Below w.heap.size w w' := by
  by_cases h0 : n = 0
  · subst h0
    have R : Hid (pickZ k 0 = 0) := rfl
    have d1 : decide (((0 : Nat) : Int) ≤ 0) = true := rfl
    go_enter Tryd.func16, Tryd.ntmps16
    have HS := Lib.hid (St.start w)
    go_wp2
    go_ret
    have HS2 : Hid (St w [] _) := Lib.hid HS.out
    rw [R.out]
    exact ⟨rfl, HS2.out.below⟩
  · have d1 : decide ((n : Int) ≤ 0) = false := decide_eq_false (by omega)
    have d2 : ¬ ((n : Int) = 0) := by omega
    have d3 : ((n : Int) == 0) = false := by rw [beq_eq_false_iff_ne]; exact d2
    have d4 : ¬ n = 0 := h0
    have h1 := Int.emod_lt_of_pos k (show (0 : Int) < n by omega)
    have h2 := Int.emod_nonneg k (show (n : Int) ≠ 0 by omega)
    have e1 : Int.tmod k n = k % n := Int.tmod_eq_emod_of_nonneg hk.1
    have e2 : IntKind.i64.wrap (k % n) = k % n := IntWalk.i64_in _ (by omega)
    have e3 : IntKind.i64.wrap (k % n + n) = k % n + n := IntWalk.i64_in _ (by omega)
    have e4 : Int.tmod (k % n + n) n = k % n := by
      rw [Int.tmod_eq_emod_of_nonneg (by omega), Int.add_emod_right, Int.emod_emod_of_dvd _ (Int.dvd_refl _)]
    have R : Hid ((pickZ k n : Int) = k % n) := by
      show _ = _
      unfold pickZ
      rw [if_neg h0, Int.toNat_of_nonneg h2]
    obtain ⟨q, hq⟩ : ∃ q, q = k % (n : Int) := ⟨_, rfl⟩
    rw [← hq] at e1 e2 e3 e4 R
    have e5 : k % (n : Int) = q := hq.symm
    clear hq h1 h2
    go_enter Tryd.func16, Tryd.ntmps16
    have HS := Lib.hid (St.start w)
    go_wp2
    go_ret
    have HS2 : Hid (St w [] _) := Lib.hid HS.out
    rw [R.out]
    exact ⟨rfl, HS2.out.below⟩

set_option maxRecDepth 100000 in
set_option maxHeartbeats 2000000 in
theorem law_VoteOrder (v1 : Value) (ts : List Qua) (m k : Int) (w : World) (h1 : Quas w v1 ts) (hok : ∀ t ∈ ts, t.ok) (hm : 0 ≤ m ∧ m ≤ 255) (hk : 0 ≤ k ∧ k ≤ 255) :
    Calls Tryd.prog 5 #[v1, .int .u8 m, .int .u8 k] w fun e w' => e = .returned (.bool true) ∧ Below w.heap.size w w' := by
  have HAW := Lib.hid (fun W => law30_awake W)
  have hq0 := fun W (hb : Below w.heap.size w W) => law30_Voters v1 ts W (h1.below hb) hok
  obtain ⟨hln, hall⟩ := votersOf_all hok
  have hck := votersOf_check hok
  have hsm : SmallV 8 (votersOf ts) := fun u hu => (hall u hu).1
  have hgood : ∀ u ∈ votersOf ts, 0 ≤ u.party ∧ 0 ≤ u.amount ∧ 0 ≤ u.ask := fun u hu => ⟨(hall u hu).2.1, (hall u hu).2.2.2⟩
  have hpar : ∀ u ∈ votersOf ts, W64 u.party := fun u hu => W64_of (by have := (hall u hu).2; omega)
  clear hall h1 hok
  generalize votersOf ts = x at *
  have HQ0 := Lib.hid hq0
  clear hq0
  obtain ⟨i0, hi0, hz0, hz1, hz2⟩ := info_parts info_voter
  have HI := Lib.hid hi0
  have e1 : Int.tmod m 14 = m % 14 := Int.tmod_eq_emod_of_nonneg hm.1
  have e2 : IntKind.u8.wrap (m % 14) = m % 14 := by rw [IntKind.wrap_u8]; omega
  have e3 : IntKind.i64.wrap (m % 14) = m % 14 := IntWalk.i64_in _ (by omega)
  have e4 : IntKind.i64.wrap k = k := IntWalk.i64_in _ (by omega)
  have hPk := fun W => law0_Pick k x.length W (by omega) (by omega)
  have hpl := pickZ_le k x.length
  generalize pickZ k x.length = kk at *
  have hR := fun W => law0_Ratio (m % 14) 12 W (by omega) (by omega) (by decide) (by decide)
  rw [show (12 : Int).toNat = 12 from rfl] at hR
  have rs := rateI_sized (n := m % 14) (d := 12) (by decide) (by omega) (by decide)
  generalize mkRat (m % 14) 12 = r at *
  have hmem : ∀ u ∈ x.drop kk ++ x.take kk, u ∈ x := fun u hu => by
    rcases List.mem_append.1 hu with h | h
    · exact List.mem_of_mem_drop h
    · exact List.mem_of_mem_take h
  have c1 := fun v W (h : VotersL W v x) => vote_Count v x (negB r) (numB r) (denomB r) W h (hsm.mono (by decide)) hpar (Nat.le_trans rs.num (by decide)) (Nat.le_trans rs.denom (by decide))
  have c2 := fun v W (h : VotersL W v (x.drop kk ++ x.take kk)) => vote_Count v _ (negB r) (numB r) (denomB r) W h (fun u hu => hsm.mono (by decide) u (hmem u hu)) (fun u hu => hpar u (hmem u hu)) (Nat.le_trans rs.num (by decide)) (Nat.le_trans rs.denom (by decide))
  rw [show decR (negB r) (numB r) (denomB r) = r from dec_enc r] at c1 c2
  have hcy := turn_check (by omega) hgood kk
  have hres : countR x r = (tallyV x r, 0) := by unfold countR; rw [hck]; rfl
  have hres2 : countR (x.drop kk ++ x.take kk) r = (tallyV x r, 0) := by unfold countR; rw [hcy, turn_take]; rfl
  rw [hres] at c1
  rw [hres2] at c2
  have zt := tally_size (hsm.mono (show 8 ≤ 100000 by decide)) (by omega) r
  have q1 := fun W => tly_same zt W
  have hcells : ∀ y ∈ x.drop kk, ∀ c ∈ y.enc, c.oneCell' = true := fun y _ => vtr_cells y
  have hcells2 : ∀ y ∈ x.take kk, ∀ c ∈ y.enc, c.oneCell' = true := fun y _ => vtr_cells y
  have hl1 : (x.drop kk).length = x.length - kk := List.length_drop
  have hl2 : (x.take kk).length = kk := by rw [List.length_take]; omega
  generalize tallyV x r = t at *
  dsimp only at c1 c2
  unfold tly tlyC at *
  unfold rat raw at *
  generalize negB r = nr at *
  generalize numB r = br at *
  generalize denomB r = dr at *
  have HP := Lib.hid hPk
  have HR := Lib.hid hR
  have C1 := Lib.hid c1
  have C2 := Lib.hid c2
  have Q1 := Lib.hid q1
  have HC1 := Lib.hid hcells
  have HC2 := Lib.hid hcells2
  clear hPk hR c1 c2 q1 hres hres2 hcy zt hmem hgood hpar hsm hck rs hi0 hcells hcells2
  go_enter Tryd.func5, Tryd.ntmps5
  have HS := Lib.hid (St.start w)
  go_wp2_with fail
  refine (HQ0.out _ HS.out.below).mono ?_
  rintro e w2 ⟨v2, rfl, hl2, hb2⟩
  have HS2 := Lib.hid (HS.out.call hb2)
  have Q_2 := Lib.hid hl2
  clear hl2
  clear hb2 HS
  have HB0 := Lib.hid HS2.out.below
  clear HS2
  have HT2 := Lib.hid (St.start w2)
  have HZQ := Q_2.out
  have HZQ := Lib.hid HZQ
  clear Q_2
  obtain ⟨A, c, rfl, hl, hc⟩ := HZQ.out.slice
  go_wp2_with fail
  refine (HP.out _).mono ?_
  rintro e w3 ⟨rfl, hb3⟩
  have HT3 := Lib.hid (HT2.out.call hb3)
  clear hb3 HT2
  go_wp2
  have HBZ := Lib.hid HT3.out.below
  clear HT3
  obtain ⟨u1, hu1⟩ : ∃ u, u = sliced A kk x.length c 8 := ⟨_, rfl⟩
  obtain ⟨u2, hu2⟩ : ∃ u, u = Value.slice A kk c := ⟨_, rfl⟩
  have hs1 := (HZQ.out.below HBZ.out).sliced (l := kk) (h := x.length) hpl (Nat.le_refl _)
  have hs2 := (HZQ.out.below HBZ.out).first (h := kk) hpl
  rw [← hu1, List.take_length] at hs1
  rw [← hu2] at hs2
  have HS1 := Lib.hid hs1
  have HS2 := Lib.hid hs2
  have HU1 := Lib.hid hu1
  have HU2 := Lib.hid hu2
  clear hs1 hs2 hu1 hu2
  have b0 : (0 : Int) ≤ ((kk : Nat) : Int) := by omega
  have b1 : ((kk : Nat) : Int) ≤ ((x.length : Nat) : Int) := by omega
  have b2 : ((kk : Nat) : Int) ≤ ((c : Nat) : Int) := by omega
  refine wp_region_chain 9 0 4 8 [undef, .slice A x.length c, .int .i64 (kk : Nat), u1, undef, .slice A x.length c, .int .i64 (kk : Nat), u2, undef] (fun W z => ∃ g cp, z = .slice (some ⟨g, 0, none⟩) (0) cp ∧ World.ownsRow W w3.heap.size 30 8 (.slice (some ⟨g, 0, none⟩) (0) cp) (0) (flat Vtr.enc ([]))) (fun W z => ∃ g cp, z = .slice (some ⟨g, 0, none⟩) (0 + (x.drop kk).length) cp ∧ World.ownsRow W w3.heap.size 30 8 (.slice (some ⟨g, 0, none⟩) (0 + (x.drop kk).length) cp) (0 + (x.drop kk).length) (flat Vtr.enc (x.drop kk))) (fun W z => ∃ g cp, z = .slice (some ⟨g, 0, none⟩) (0 + (x.drop kk).length + (x.take kk).length) cp ∧ World.ownsRow W w3.heap.size 30 8 (.slice (some ⟨g, 0, none⟩) (0 + (x.drop kk).length + (x.take kk).length) cp) (0 + (x.drop kk).length + (x.take kk).length) (flat Vtr.enc (x.drop kk ++ x.take kk))) rfl (by kernel_rfl) (by kernel_rfl) (by kernel_rfl) (by kernel_rfl) (by kernel_rfl) (by decide) (by decide) (by decide) ?_ ?_
  refine ⟨?_, ?_, ?_, ?_, ?_, ?_, ?_, ?_, ?_, trivial⟩
  · intro xx af wv hbx hev hev0 hd
    rw [if_pos rfl]
    clear hev hev0 hd
    go_wp2
    exact StepC.mk _ ((Below.refl _ wv).alloc hbx.size _ |>.mono (Nat.le_refl _)) ⟨_, 0, rfl, World.ownsRow_made wv #[] 0 hbx.size (by unfold maxLen; omega) (by simp)⟩
  · intro xx af wv hbx hev hev0 hd
    have e7 : af.tmps[7]?.getD undef = .slice A x.length c := hev0 7 rfl
    clear hev hev0 hd
    rw [if_neg (by decide), if_neg (by decide), if_neg (by decide)]
    go_wp2
    exact StepV.mk _
  · intro xx af wv hbx hev hev0 hd
    have e8 : af.tmps[8]?.getD undef = .int .i64 (kk : Nat) := hev0 8 rfl
    clear hev hev0 hd
    rw [if_neg (by decide), if_neg (by decide), if_neg (by decide)]
    go_wp2
    exact StepV.mk _
  · intro xx af wv hbx hev hev0 hd
    have e22 := hev 1 _ 22 rfl rfl
    have d1 : xx 1 = .slice A x.length c := hd ⟨1, .data⟩ (by simp) rfl (by decide) (by decide) (by decide)
    rw [d1] at e22
    have e23 := hev 2 _ 23 rfl rfl
    have d2 : xx 2 = .int .i64 (kk : Nat) := hd ⟨2, .data⟩ (by simp) rfl (by decide) (by decide) (by decide)
    rw [d2] at e23
    clear hev hev0 hd d1 d2
    rw [if_neg (by decide), if_neg (by decide), if_neg (by decide)]
    go_wp2
    all_goals (refine ⟨rfl, _, rfl, ?_, rfl⟩)
    all_goals (show _ = u1)
    all_goals (rw [HU1.out]; unfold sliced)
    · rename_i h
      rw [if_pos h]
      congr 1
      omega
    · rename_i h
      rw [if_neg h]
  · intro xx af wv hbx hev hev0 hd
    have e21 := hev 0 _ 21 rfl rfl
    have eu := hev 3 _ 24 rfl rfl
    have d3 : xx 3 = u1 := hd ⟨3, .data⟩ (by simp) rfl (by decide) (by decide) (by decide)
    rw [d3] at eu
    clear hev hev0 hd d3
    rw [if_neg (by decide), if_pos rfl]
    rintro ⟨g, cp, hxg, hown⟩
    rw [hxg] at e21
    go_wp2_with (at_builtin; refine wpList_append_list wv rfl _ _ 22 rfl w3.heap.size 30 i0 _ 8 96 Tryd.underlying22 HI.out hz0 hz1 hz2 rfl (by decide) vtr_len g cp (0) ([]) (by rw [eval_tmp]; exact e21) hown u1 (x.drop kk) w3 HS1.out hbx (by rw [eval_tmp]; exact eu) HC1.out (by unfold maxLen; omega) (by omega) hbx.size ?_)
    intro g' cp' w' hown' hb'
    go_wp2
    exact StepC.mk _ hb' ⟨g', cp', rfl, hown'⟩
  · intro xx af wv hbx hev hev0 hd
    have e7 : af.tmps[7]?.getD undef = .slice A x.length c := hev0 7 rfl
    clear hev hev0 hd
    rw [if_neg (by decide), if_neg (by decide), if_neg (by decide)]
    go_wp2
    exact StepV.mk _
  · intro xx af wv hbx hev hev0 hd
    have e8 : af.tmps[8]?.getD undef = .int .i64 (kk : Nat) := hev0 8 rfl
    clear hev hev0 hd
    rw [if_neg (by decide), if_neg (by decide), if_neg (by decide)]
    go_wp2
    exact StepV.mk _
  · intro xx af wv hbx hev hev0 hd
    have e26 := hev 5 _ 26 rfl rfl
    have d5 : xx 5 = .slice A x.length c := hd ⟨5, .data⟩ (by simp) rfl (by decide) (by decide) (by decide)
    rw [d5] at e26
    have e27 := hev 6 _ 27 rfl rfl
    have d6 : xx 6 = .int .i64 (kk : Nat) := hd ⟨6, .data⟩ (by simp) rfl (by decide) (by decide) (by decide)
    rw [d6] at e27
    clear hev hev0 hd d5 d6
    rw [if_neg (by decide), if_neg (by decide), if_neg (by decide)]
    go_wp2
    refine ⟨rfl, _, rfl, ?_, rfl⟩
    show _ = u2
    rw [HU2.out]
  · intro xx af wv hbx hev hev0 hd
    have e25 := hev 4 _ 25 rfl rfl
    have eu := hev 7 _ 28 rfl rfl
    have d7 : xx 7 = u2 := hd ⟨7, .data⟩ (by simp) rfl (by decide) (by decide) (by decide)
    rw [d7] at eu
    clear hev hev0 hd d7
    rw [if_neg (by decide), if_neg (by decide), if_pos rfl]
    rintro ⟨g, cp, hxg, hown⟩
    rw [hxg] at e25
    go_wp2_with (at_builtin; refine wpList_append_list wv rfl _ _ 22 rfl w3.heap.size 30 i0 _ 8 96 Tryd.underlying22 HI.out hz0 hz1 hz2 rfl (by decide) vtr_len g cp (0 + (x.drop kk).length) (x.drop kk) (by rw [eval_tmp]; exact e25) hown u2 (x.take kk) w3 HS2.out hbx (by rw [eval_tmp]; exact eu) HC2.out (by unfold maxLen; omega) (by omega) hbx.size ?_)
    intro g' cp' w' hown' hb'
    go_wp2
    exact StepC.mk _ hb' ⟨g', cp', rfl, hown'⟩
  intro xx wE hbE hv hrow
  obtain ⟨g, cp, hxg, hown⟩ := hrow
  have hv1 : xx 1 = .slice A x.length c := hv 1 (by decide) (by decide) (by decide) (by decide)
  have hv2 : xx 2 = .int .i64 (kk : Nat) := hv 2 (by decide) (by decide) (by decide) (by decide)
  have hv3 : xx 3 = u1 := hv 3 (by decide) (by decide) (by decide) (by decide)
  have hv5 : xx 5 = .slice A x.length c := hv 5 (by decide) (by decide) (by decide) (by decide)
  have hv6 : xx 6 = .int .i64 (kk : Nat) := hv 6 (by decide) (by decide) (by decide) (by decide)
  have hv7 : xx 7 = u2 := hv 7 (by decide) (by decide) (by decide) (by decide)
  obtain ⟨x0, hx0⟩ : ∃ z, z = xx 0 := ⟨_, rfl⟩
  obtain ⟨x4, hx4⟩ : ∃ z, z = xx 4 := ⟨_, rfl⟩
  clear hv
  simp only [List.take, List.drop, fillA, Act.put]
  simp only [hxg, ← hx0, ← hx4, hv1, hv2, hv3, hv5, hv6, hv7]
  clear hxg hx0 hx4 hv1 hv2 hv3 hv5 hv6 hv7
  obtain ⟨ny, hny⟩ : ∃ z, z = 0 + (x.drop kk).length + (x.take kk).length := ⟨_, rfl⟩
  rw [← hny] at hown ⊢
  have hnl : (x.drop kk ++ x.take kk).length = ny := by rw [List.length_append, hny]; omega
  have HY := Lib.hid (Slc.of_own vtr_len hown hnl)
  have HBY := Lib.hid (Ext.trans HBZ.out hbE)
  have HTE := Lib.hid (St.start wE)
  clear hown hbE hny hnl hl1 hl2
  go_wp2_with fail
  refine (HR.out _).mono ?_
  rintro e w5 ⟨rfl, hb5⟩
  have HTE5 := Lib.hid (HTE.out.call hb5)
  clear hb5 HTE
  go_wp2_with fail
  refine (C1.out _ _ (HZQ.out.below (Ext.trans HBY.out HTE5.out.below))).mono ?_
  rintro e w6 ⟨rfl, hb6⟩
  have HTE6 := Lib.hid (HTE5.out.call hb6)
  clear hb6 HTE5
  go_wp2_with fail
  have HTE7 : Hid (St wE [⟨w6.heap.size, #[.bool (negB (t.amount)), .string (bs (numB (t.amount))), .string (bs (denomB (t.amount))), .bool (negB (t.yes)), .string (bs (numB (t.yes))), .string (bs (denomB (t.yes))), .int .i64 (t.heads : Nat), .int .i64 (t.yesHeads : Nat)], 45⟩] _) := Lib.hid (St.alloc (HTE6.out) #[.bool (negB (t.amount)), .string (bs (numB (t.amount))), .string (bs (denomB (t.amount))), .bool (negB (t.yes)), .string (bs (numB (t.yes))), .string (bs (denomB (t.yes))), .int .i64 (t.heads : Nat), .int .i64 (t.yesHeads : Nat)] 45 _ (by simp))
  refine (HR.out _).mono ?_
  rintro e w8 ⟨rfl, hb8⟩
  have HTE8 := Lib.hid (HTE7.out.call hb8)
  clear hb8 HTE6 HTE7
  go_wp2_with fail
  refine (C2.out _ _ (HY.out.below HTE8.out.below)).mono ?_
  rintro e w9 ⟨rfl, hb9⟩
  have HTE9 := Lib.hid (HTE8.out.call hb9)
  clear hb9 HTE8
  go_wp2_with fail
  have HTE10 : Hid (St wE [⟨w9.heap.size, #[.bool (negB (t.amount)), .string (bs (numB (t.amount))), .string (bs (denomB (t.amount))), .bool (negB (t.yes)), .string (bs (numB (t.yes))), .string (bs (denomB (t.yes))), .int .i64 (t.heads : Nat), .int .i64 (t.yesHeads : Nat)], 45⟩, ⟨w6.heap.size, #[.bool (negB (t.amount)), .string (bs (numB (t.amount))), .string (bs (denomB (t.amount))), .bool (negB (t.yes)), .string (bs (numB (t.yes))), .string (bs (denomB (t.yes))), .int .i64 (t.heads : Nat), .int .i64 (t.yesHeads : Nat)], 45⟩] _) := Lib.hid (St.alloc (HTE9.out) #[.bool (negB (t.amount)), .string (bs (numB (t.amount))), .string (bs (denomB (t.amount))), .bool (negB (t.yes)), .string (bs (numB (t.yes))), .string (bs (denomB (t.yes))), .int .i64 (t.heads : Nat), .int .i64 (t.yesHeads : Nat)] 45 _ (by simp))
  refine (HAW.out _).mono ?_
  rintro e w11 ⟨rfl, hb11⟩
  have HTE11 := Lib.hid (HTE10.out.call hb11)
  clear hb11 HTE9 HTE10
  have x1 := HTE11.out.cell 1 rfl 0 rfl
  have x2 := HTE11.out.cell 1 rfl 1 rfl
  have x3 := HTE11.out.cell 1 rfl 2 rfl
  have x4 := HTE11.out.cell 1 rfl 3 rfl
  have x5 := HTE11.out.cell 1 rfl 4 rfl
  have x6 := HTE11.out.cell 1 rfl 5 rfl
  have x7 := HTE11.out.cell 1 rfl 6 rfl
  have x8 := HTE11.out.cell 1 rfl 7 rfl
  have x9 := HTE11.out.cell 0 rfl 0 rfl
  have x10 := HTE11.out.cell 0 rfl 1 rfl
  have x11 := HTE11.out.cell 0 rfl 2 rfl
  have x12 := HTE11.out.cell 0 rfl 3 rfl
  have x13 := HTE11.out.cell 0 rfl 4 rfl
  have x14 := HTE11.out.cell 0 rfl 5 rfl
  have x15 := HTE11.out.cell 0 rfl 6 rfl
  have x16 := HTE11.out.cell 0 rfl 7 rfl
  have en := Q1.out
  go_wp2
  go_ret
  have HTE12 : Hid (St wE [⟨w9.heap.size, #[.bool (negB (t.amount)), .string (bs (numB (t.amount))), .string (bs (denomB (t.amount))), .bool (negB (t.yes)), .string (bs (numB (t.yes))), .string (bs (denomB (t.yes))), .int .i64 (t.heads : Nat), .int .i64 (t.yesHeads : Nat)], 45⟩, ⟨w6.heap.size, #[.bool (negB (t.amount)), .string (bs (numB (t.amount))), .string (bs (denomB (t.amount))), .bool (negB (t.yes)), .string (bs (numB (t.yes))), .string (bs (denomB (t.yes))), .int .i64 (t.heads : Nat), .int .i64 (t.yesHeads : Nat)], 45⟩] _) := Lib.hid HTE11.out
  exact ⟨rfl, Ext.trans HB0.out (Ext.trans HBY.out HTE12.out.below)⟩
end Go.Proofs.YtakoagjpmdcddaaDoor
