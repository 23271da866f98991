/-
The laws' voters, their test of shortness, their example (printed by gen_vot6.py).
-/
import Derived.Test.YtakoagjpmdcddaaDoorVotI
import Derived.Test.YtakoagjpmdcddaaDoorVG
import Derived.Test.YtakoagjpmdcddaaDoorVI
namespace Go.Proofs.YtakoagjpmdcddaaDoor
open Go.RowKit

set_option maxRecDepth 100000 in
theorem info_voter : (Tryd.prog.info? 30).map (fun i => (i.zero, i.size, i.bytes)) = some (some (.agg #[.int .i64 0, .bool false, .string ⟨#[]⟩, .string ⟨#[]⟩, .bool false, .string ⟨#[]⟩, .string ⟨#[]⟩, .bool false]), 8, 96) := by kernel_rfl
theorem vtr_cells (v : Vtr) : ∀ u ∈ v.enc, u.oneCell' = true := by
  intro u hu
  unfold Vtr.enc at hu
  simp only [List.mem_cons, List.mem_nil_iff, or_false] at hu
  rcases hu with rfl | rfl | rfl | rfl | rfl | rfl | rfl | rfl <;> rfl
theorem enc_int {n : Nat} (h : n < 256) (h0 : n ≠ 0) : rat ((n : Nat) : Rat) = raw false [UInt8.ofNat n] [] := by
  unfold rat numB denomB denB
  rw [show ((n : Nat) : Rat).num.natAbs = n by rw [Rat.num_natCast]; rfl, show ((n : Nat) : Rat).den = 1 from Rat.den_natCast n, bytesOf_small h h0, if_pos rfl]
  have : negB ((n : Nat) : Rat) = false := by
    unfold negB
    refine decide_eq_false ?_
    have : (0 : Rat) ≤ ((n : Nat) : Rat) := by rw [← Rat.num_nonneg, Rat.num_natCast]; omega
    grind
  rw [this]

set_option maxRecDepth 100000 in
set_option maxHeartbeats 2000000 in
theorem law0_Voters (v : Value) (ts : List Qua) (w : World) (h : Quas w v ts) (hok : ∀ t ∈ ts, t.ok) :
    Calls Tryd.prog 9 #[v] w fun e w' => ∃ v', e = .returned v' ∧ Grows w' w.heap.size 30 8 v' (votersOf ts).length (flat Vtr.enc (votersOf ts)) ∧ Below w.heap.size w w' := by
  obtain ⟨i0, hi0, hz0, hz1, hz2⟩ := info_parts info_voter
  have HI := Lib.hid hi0
  have H := Lib.hid h
  have HOK := Lib.hid hok
  obtain ⟨A, c, rfl, hl, hc⟩ := h.slice
  clear h hok hi0
  go_enter Tryd.func9, Tryd.ntmps9
  have HS := Lib.hid (St.start w)
  go_wp2
  go_loopw [3, 4] (fun l i wr => ∃ k : Nat, k ≤ ts.length ∧ k ≤ 7 ∧ i = .int .i64 k ∧ Hid (Grows wr w.heap.size 30 8 l k (flat Vtr.enc ((ts.take k).map quaV))) ∧ Hid (St w [] wr)) (fun _ i _ => ts.length - (intOf i).toNat)
  case atStart => exact ⟨0, Nat.zero_le _, Nat.zero_le _, rfl, ⟨rfl, .inl ⟨rfl, rfl⟩⟩, HS.out⟩
  case round =>
    obtain ⟨k, hk, hk7, rfl, HG, HS⟩ := hrel
    obtain ⟨wo, hwo⟩ : ∃ wo : World, wo = wr := ⟨_, rfl⟩
    subst hwo
    have hln : ((ts.take k).map quaV).length = k := by rw [List.length_map, List.length_take]; omega
    by_cases hlt : k < ts.length
    · by_cases hlt7 : k < 7
      · obtain ⟨b, o, t, rfl, hbb, ht, hx⟩ := H.out.at_ hlt
        obtain ⟨ok1, ok2, ok3, ok4⟩ := HOK.out t (List.mem_of_getElem? ht)
        have hft := votersOf_snoc ht
        have hA := fun W => law0_Amount t.b W ok2
        have hR := fun W => law0_Ratio ((t.c : Int) % 14) 12 W (by omega) (by omega) (by decide) (by decide)
        change ∀ W, Calls Tryd.prog _ _ _ (fun e w' => e = .returned (rat (quaR t)) ∧ _) at hR
        obtain ⟨eB, heB⟩ : ∃ x, x = decide (t.d % 6 = 0) := ⟨_, rfl⟩
        have henc : Hid ((quaV t).enc = [.int .i64 ((t.a : Int) % 5), .bool (negB (amountR t.b)), .string (bs (numB (amountR t.b))), .string (bs (denomB (amountR t.b))), .bool (negB (quaR t)), .string (bs (numB (quaR t))), .string (bs (denomB (quaR t))), .bool eB]) := by
          rw [heB]; rfl
        have hq6 : ((t.d : Int) % 6 == 0) = eB := by rw [heB, Bool.eq_iff_iff]; simp; omega
        generalize amountR t.b = am at *
        generalize quaR t = r at *
        unfold rat raw at hA hR
        have HA := Lib.hid hA
        have HR := Lib.hid hR
        have HX := Lib.hid hx
        have HFT := Lib.hid hft
        clear hA hR hx ht hft heB
        generalize (ts.take k).map quaV = out at *
        have e1 : Int.tmod (t.a : Int) 5 = (t.a : Int) % 5 := Int.tmod_eq_emod_of_nonneg (by omega)
        have e2 : Int.tmod (t.c : Int) 14 = (t.c : Int) % 14 := Int.tmod_eq_emod_of_nonneg (by omega)
        have e3 : Int.tmod (t.d : Int) 6 = (t.d : Int) % 6 := Int.tmod_eq_emod_of_nonneg (by omega)
        have e4 : IntKind.u16.wrap ((t.a : Int) % 5) = (t.a : Int) % 5 := by rw [IntKind.wrap_u16]; omega
        have e5 : IntKind.u16.wrap ((t.c : Int) % 14) = (t.c : Int) % 14 := by rw [IntKind.wrap_u16]; omega
        have e6 : IntKind.u16.wrap ((t.d : Int) % 6) = (t.d : Int) % 6 := by rw [IntKind.wrap_u16]; omega
        have e7 : IntKind.i64.wrap ((t.a : Int) % 5) = (t.a : Int) % 5 := IntWalk.i64_in _ (by omega)
        have e8 : IntKind.i64.wrap ((t.c : Int) % 14) = (t.c : Int) % 14 := IntWalk.i64_in _ (by omega)
        have f6 : ((k : Nat) : Int) < (ts.length : Int) := by omega
        have f7 : (0 : Int) ≤ ((k : Nat) : Int) := by omega
        have f8 : decide (((k : Nat) : Int) < 7) = true := decide_eq_true (by omega)
        have f9 : decide (((k : Nat) : Int) < (ts.length : Int)) = true := decide_eq_true f6
        go_wp2
        refine wp_region_facts 31 [fun _ vv => vv = u3, fun _ vv => vv = .slice (some ⟨b, o, none⟩) ts.length c, fun _ vv => vv = .int .i64 (k : Nat), fun _ vv => vv = .pointer (some ⟨b, o + k * 4, none⟩), fun _ vv => vv = .pointer (some ⟨b, o + k * 4, none⟩), fun _ vv => vv = .int .u16 (t.a : Nat), fun _ vv => vv = .int .u16 ((t.a : Int) % 5), fun _ vv => vv = .int .i64 ((t.a : Int) % 5), fun _ vv => vv = .slice (some ⟨b, o, none⟩) ts.length c, fun _ vv => vv = .int .i64 (k : Nat), fun _ vv => vv = .pointer (some ⟨b, o + k * 4, none⟩), fun _ vv => vv = .pointer (some ⟨b, o + k * 4 + 1, none⟩), fun _ vv => vv = .int .u16 (t.b : Nat), fun _ vv => vv = .agg #[.bool (negB (am)), .string (bs (numB (am))), .string (bs (denomB (am)))], fun _ vv => vv = .slice (some ⟨b, o, none⟩) ts.length c, fun _ vv => vv = .int .i64 (k : Nat), fun _ vv => vv = .pointer (some ⟨b, o + k * 4, none⟩), fun _ vv => vv = .pointer (some ⟨b, o + k * 4 + 2, none⟩), fun _ vv => vv = .int .u16 (t.c : Nat), fun _ vv => vv = .int .u16 ((t.c : Int) % 14), fun _ vv => vv = .int .i64 ((t.c : Int) % 14), fun _ vv => vv = .agg #[.bool (negB (r)), .string (bs (numB (r))), .string (bs (denomB (r)))], fun _ vv => vv = .slice (some ⟨b, o, none⟩) ts.length c, fun _ vv => vv = .int .i64 (k : Nat), fun _ vv => vv = .pointer (some ⟨b, o + k * 4, none⟩), fun _ vv => vv = .pointer (some ⟨b, o + k * 4 + 3, none⟩), fun _ vv => vv = .int .u16 (t.d : Nat), fun _ vv => vv = .int .u16 ((t.d : Int) % 6), fun _ vv => vv = .bool eB, fun _ vv => vv = .agg #[.int .i64 ((t.a : Int) % 5), .bool (negB (am)), .string (bs (numB (am))), .string (bs (denomB (am))), .bool (negB (r)), .string (bs (numB (r))), .string (bs (denomB (r))), .bool eB], fun ww vv => ∃ g, vv = .slice (some ⟨g, 0, none⟩) 1 1 ∧ wo.heap.size ≤ g ∧ Blk ww g #[.int .i64 ((t.a : Int) % 5), .bool (negB (am)), .string (bs (numB (am))), .string (bs (denomB (am))), .bool (negB (r)), .string (bs (numB (r))), .string (bs (denomB (r))), .bool eB] 30] rfl (by kernel_rfl) (by kernel_rfl) (by kernel_rfl) ⟨fun _ _ _ h _ => h, fun _ _ _ h _ => h, fun _ _ _ h _ => h, fun _ _ _ h _ => h, fun _ _ _ h _ => h, fun _ _ _ h _ => h, fun _ _ _ h _ => h, fun _ _ _ h _ => h, fun _ _ _ h _ => h, fun _ _ _ h _ => h, fun _ _ _ h _ => h, fun _ _ _ h _ => h, fun _ _ _ h _ => h, fun _ _ _ h _ => h, fun _ _ _ h _ => h, fun _ _ _ h _ => h, fun _ _ _ h _ => h, fun _ _ _ h _ => h, fun _ _ _ h _ => h, fun _ _ _ h _ => h, fun _ _ _ h _ => h, fun _ _ _ h _ => h, fun _ _ _ h _ => h, fun _ _ _ h _ => h, fun _ _ _ h _ => h, fun _ _ _ h _ => h, fun _ _ _ h _ => h, fun _ _ _ h _ => h, fun _ _ _ h _ => h, fun _ _ _ h _ => h, fun _ _ _ ⟨g, e, hg, h⟩ hb => ⟨g, e, hg, h.below hb h.lt⟩, trivial⟩ ?_ ?_
        refine ⟨?_, ?_, ?_, ?_, ?_, ?_, ?_, ?_, ?_, ?_, ?_, ?_, ?_, ?_, ?_, ?_, ?_, ?_, ?_, ?_, ?_, ?_, ?_, ?_, ?_, ?_, ?_, ?_, ?_, ?_, ?_, trivial⟩
        · intro xx af wv hbx hev hev0 hd
          have e3 : af.tmps[3]?.getD undef = u3 := hev0 3 rfl
          clear hev hev0 hd
          go_wp2
          exact StepQ.mk _ (Below.refl _ _) rfl
        · intro xx af wv hbx hev hev0 hd
          have e0 : af.tmps[0]?.getD undef = .slice (some ⟨b, o, none⟩) ts.length c := hev0 0 rfl
          clear hev hev0 hd
          go_wp2
          exact StepQ.mk _ (Below.refl _ _) rfl
        · intro xx af wv hbx hev hev0 hd
          have e4 : af.tmps[4]?.getD undef = .int .i64 (k : Nat) := hev0 4 rfl
          clear hev hev0 hd
          go_wp2
          exact StepQ.mk _ (Below.refl _ _) rfl
        · intro xx af wv hbx hev hev0 hd
          have e16 := hev 1 _ 16 rfl rfl
          have d1 : xx 1 = .slice (some ⟨b, o, none⟩) ts.length c := hd ⟨1, .data⟩ (by simp) rfl
          rw [d1] at e16
          clear d1
          have e17 := hev 2 _ 17 rfl rfl
          have d2 : xx 2 = .int .i64 (k : Nat) := hd ⟨2, .data⟩ (by simp) rfl
          rw [d2] at e17
          clear d2
          clear hev hev0 hd
          go_wp2
          exact StepQ.mk _ (Below.refl _ _) rfl
        · intro xx af wv hbx hev hev0 hd
          have e18 := hev 3 _ 18 rfl rfl
          have d3 : xx 3 = .pointer (some ⟨b, o + k * 4, none⟩) := hd ⟨3, .data⟩ (by simp) rfl
          rw [d3] at e18
          clear d3
          clear hev hev0 hd
          go_wp2
          exact StepQ.mk _ (Below.refl _ _) rfl
        · intro xx af wv hbx hev hev0 hd
          have e19 := hev 4 _ 19 rfl rfl
          have d4 : xx 4 = .pointer (some ⟨b, o + k * 4, none⟩) := hd ⟨4, .data⟩ (by simp) rfl
          rw [d4] at e19
          clear d4
          clear hev hev0 hd
          have hs1 := Lib.hid (HS.out.call hbx)
          have y0 := HX.out _ hs1.out.below 0 _ rfl
          rw [Nat.add_zero] at y0
          go_wp2
          exact StepQ.mk _ (Below.refl _ _) rfl
        · intro xx af wv hbx hev hev0 hd
          have e20 := hev 5 _ 20 rfl rfl
          have d5 : xx 5 = .int .u16 (t.a : Nat) := hd ⟨5, .data⟩ (by simp) rfl
          rw [d5] at e20
          clear d5
          clear hev hev0 hd
          go_wp2
          exact StepQ.mk _ (Below.refl _ _) rfl
        · intro xx af wv hbx hev hev0 hd
          have e21 := hev 6 _ 21 rfl rfl
          have d6 : xx 6 = .int .u16 ((t.a : Int) % 5) := hd ⟨6, .data⟩ (by simp) rfl
          rw [d6] at e21
          clear d6
          clear hev hev0 hd
          go_wp2
          exact StepQ.mk _ (Below.refl _ _) rfl
        · intro xx af wv hbx hev hev0 hd
          have e0 : af.tmps[0]?.getD undef = .slice (some ⟨b, o, none⟩) ts.length c := hev0 0 rfl
          clear hev hev0 hd
          go_wp2
          exact StepQ.mk _ (Below.refl _ _) rfl
        · intro xx af wv hbx hev hev0 hd
          have e4 : af.tmps[4]?.getD undef = .int .i64 (k : Nat) := hev0 4 rfl
          clear hev hev0 hd
          go_wp2
          exact StepQ.mk _ (Below.refl _ _) rfl
        · intro xx af wv hbx hev hev0 hd
          have e23 := hev 8 _ 23 rfl rfl
          have d8 : xx 8 = .slice (some ⟨b, o, none⟩) ts.length c := hd ⟨8, .data⟩ (by simp) rfl
          rw [d8] at e23
          clear d8
          have e24 := hev 9 _ 24 rfl rfl
          have d9 : xx 9 = .int .i64 (k : Nat) := hd ⟨9, .data⟩ (by simp) rfl
          rw [d9] at e24
          clear d9
          clear hev hev0 hd
          go_wp2
          exact StepQ.mk _ (Below.refl _ _) rfl
        · intro xx af wv hbx hev hev0 hd
          have e25 := hev 10 _ 25 rfl rfl
          have d10 : xx 10 = .pointer (some ⟨b, o + k * 4, none⟩) := hd ⟨10, .data⟩ (by simp) rfl
          rw [d10] at e25
          clear d10
          clear hev hev0 hd
          go_wp2
          exact StepQ.mk _ (Below.refl _ _) rfl
        · intro xx af wv hbx hev hev0 hd
          have e26 := hev 11 _ 26 rfl rfl
          have d11 : xx 11 = .pointer (some ⟨b, o + k * 4 + 1, none⟩) := hd ⟨11, .data⟩ (by simp) rfl
          rw [d11] at e26
          clear d11
          clear hev hev0 hd
          have hs1 := Lib.hid (HS.out.call hbx)
          have y0 := HX.out _ hs1.out.below 1 _ rfl
          go_wp2
          exact StepQ.mk _ (Below.refl _ _) rfl
        · intro xx af wv hbx hev hev0 hd
          have e27 := hev 12 _ 27 rfl rfl
          have d12 : xx 12 = .int .u16 (t.b : Nat) := hd ⟨12, .data⟩ (by simp) rfl
          rw [d12] at e27
          clear d12
          clear hev hev0 hd
          go_wp2_with fail
          refine (HA.out _).mono ?_
          rintro e w8 ⟨rfl, hb8⟩
          go_wp2
          exact StepQ.mk _ hb8 rfl
        · intro xx af wv hbx hev hev0 hd
          have e0 : af.tmps[0]?.getD undef = .slice (some ⟨b, o, none⟩) ts.length c := hev0 0 rfl
          clear hev hev0 hd
          go_wp2
          exact StepQ.mk _ (Below.refl _ _) rfl
        · intro xx af wv hbx hev hev0 hd
          have e4 : af.tmps[4]?.getD undef = .int .i64 (k : Nat) := hev0 4 rfl
          clear hev hev0 hd
          go_wp2
          exact StepQ.mk _ (Below.refl _ _) rfl
        · intro xx af wv hbx hev hev0 hd
          have e29 := hev 14 _ 29 rfl rfl
          have d14 : xx 14 = .slice (some ⟨b, o, none⟩) ts.length c := hd ⟨14, .data⟩ (by simp) rfl
          rw [d14] at e29
          clear d14
          have e30 := hev 15 _ 30 rfl rfl
          have d15 : xx 15 = .int .i64 (k : Nat) := hd ⟨15, .data⟩ (by simp) rfl
          rw [d15] at e30
          clear d15
          clear hev hev0 hd
          go_wp2
          exact StepQ.mk _ (Below.refl _ _) rfl
        · intro xx af wv hbx hev hev0 hd
          have e31 := hev 16 _ 31 rfl rfl
          have d16 : xx 16 = .pointer (some ⟨b, o + k * 4, none⟩) := hd ⟨16, .data⟩ (by simp) rfl
          rw [d16] at e31
          clear d16
          clear hev hev0 hd
          go_wp2
          exact StepQ.mk _ (Below.refl _ _) rfl
        · intro xx af wv hbx hev hev0 hd
          have e32 := hev 17 _ 32 rfl rfl
          have d17 : xx 17 = .pointer (some ⟨b, o + k * 4 + 2, none⟩) := hd ⟨17, .data⟩ (by simp) rfl
          rw [d17] at e32
          clear d17
          clear hev hev0 hd
          have hs1 := Lib.hid (HS.out.call hbx)
          have y0 := HX.out _ hs1.out.below 2 _ rfl
          go_wp2
          exact StepQ.mk _ (Below.refl _ _) rfl
        · intro xx af wv hbx hev hev0 hd
          have e33 := hev 18 _ 33 rfl rfl
          have d18 : xx 18 = .int .u16 (t.c : Nat) := hd ⟨18, .data⟩ (by simp) rfl
          rw [d18] at e33
          clear d18
          clear hev hev0 hd
          go_wp2
          exact StepQ.mk _ (Below.refl _ _) rfl
        · intro xx af wv hbx hev hev0 hd
          have e34 := hev 19 _ 34 rfl rfl
          have d19 : xx 19 = .int .u16 ((t.c : Int) % 14) := hd ⟨19, .data⟩ (by simp) rfl
          rw [d19] at e34
          clear d19
          clear hev hev0 hd
          go_wp2
          exact StepQ.mk _ (Below.refl _ _) rfl
        · intro xx af wv hbx hev hev0 hd
          have e35 := hev 20 _ 35 rfl rfl
          have d20 : xx 20 = .int .i64 ((t.c : Int) % 14) := hd ⟨20, .data⟩ (by simp) rfl
          rw [d20] at e35
          clear d20
          clear hev hev0 hd
          go_wp2_with fail
          refine (HR.out _).mono ?_
          rintro e w8 ⟨rfl, hb8⟩
          go_wp2
          exact StepQ.mk _ hb8 rfl
        · intro xx af wv hbx hev hev0 hd
          have e0 : af.tmps[0]?.getD undef = .slice (some ⟨b, o, none⟩) ts.length c := hev0 0 rfl
          clear hev hev0 hd
          go_wp2
          exact StepQ.mk _ (Below.refl _ _) rfl
        · intro xx af wv hbx hev hev0 hd
          have e4 : af.tmps[4]?.getD undef = .int .i64 (k : Nat) := hev0 4 rfl
          clear hev hev0 hd
          go_wp2
          exact StepQ.mk _ (Below.refl _ _) rfl
        · intro xx af wv hbx hev hev0 hd
          have e37 := hev 22 _ 37 rfl rfl
          have d22 : xx 22 = .slice (some ⟨b, o, none⟩) ts.length c := hd ⟨22, .data⟩ (by simp) rfl
          rw [d22] at e37
          clear d22
          have e38 := hev 23 _ 38 rfl rfl
          have d23 : xx 23 = .int .i64 (k : Nat) := hd ⟨23, .data⟩ (by simp) rfl
          rw [d23] at e38
          clear d23
          clear hev hev0 hd
          go_wp2
          exact StepQ.mk _ (Below.refl _ _) rfl
        · intro xx af wv hbx hev hev0 hd
          have e39 := hev 24 _ 39 rfl rfl
          have d24 : xx 24 = .pointer (some ⟨b, o + k * 4, none⟩) := hd ⟨24, .data⟩ (by simp) rfl
          rw [d24] at e39
          clear d24
          clear hev hev0 hd
          go_wp2
          exact StepQ.mk _ (Below.refl _ _) rfl
        · intro xx af wv hbx hev hev0 hd
          have e40 := hev 25 _ 40 rfl rfl
          have d25 : xx 25 = .pointer (some ⟨b, o + k * 4 + 3, none⟩) := hd ⟨25, .data⟩ (by simp) rfl
          rw [d25] at e40
          clear d25
          clear hev hev0 hd
          have hs1 := Lib.hid (HS.out.call hbx)
          have y0 := HX.out _ hs1.out.below 3 _ rfl
          go_wp2
          exact StepQ.mk _ (Below.refl _ _) rfl
        · intro xx af wv hbx hev hev0 hd
          have e41 := hev 26 _ 41 rfl rfl
          have d26 : xx 26 = .int .u16 (t.d : Nat) := hd ⟨26, .data⟩ (by simp) rfl
          rw [d26] at e41
          clear d26
          clear hev hev0 hd
          go_wp2
          exact StepQ.mk _ (Below.refl _ _) rfl
        · intro xx af wv hbx hev hev0 hd
          have e42 := hev 27 _ 42 rfl rfl
          have d27 : xx 27 = .int .u16 ((t.d : Int) % 6) := hd ⟨27, .data⟩ (by simp) rfl
          rw [d27] at e42
          clear d27
          clear hev hev0 hd
          go_wp2
          exact StepQ.mk _ (Below.refl _ _) rfl
        · intro xx af wv hbx hev hev0 hd
          have e22 := hev 7 _ 22 rfl rfl
          have d7 : xx 7 = .int .i64 ((t.a : Int) % 5) := hd ⟨7, .data⟩ (by simp) rfl
          rw [d7] at e22
          clear d7
          have e28 := hev 13 _ 28 rfl rfl
          have d13 : xx 13 = .agg #[.bool (negB (am)), .string (bs (numB (am))), .string (bs (denomB (am)))] := hd ⟨13, .data⟩ (by simp) rfl
          rw [d13] at e28
          clear d13
          have e36 := hev 21 _ 36 rfl rfl
          have d21 : xx 21 = .agg #[.bool (negB (r)), .string (bs (numB (r))), .string (bs (denomB (r)))] := hd ⟨21, .data⟩ (by simp) rfl
          rw [d21] at e36
          clear d21
          have e43 := hev 28 _ 43 rfl rfl
          have d28 : xx 28 = .bool eB := hd ⟨28, .data⟩ (by simp) rfl
          rw [d28] at e43
          clear d28
          clear hev hev0 hd
          go_wp2
          exact StepQ.mk _ (Below.refl _ _) rfl
        · intro xx af wv hbx hev hev0 hd
          have e44 := hev 29 _ 44 rfl rfl
          have d29 : xx 29 = .agg #[.int .i64 ((t.a : Int) % 5), .bool (negB (am)), .string (bs (numB (am))), .string (bs (denomB (am))), .bool (negB (r)), .string (bs (numB (r))), .string (bs (denomB (r))), .bool eB] := hd ⟨29, .data⟩ (by simp) rfl
          rw [d29] at e44
          clear d29
          clear hev hev0 hd
          go_wp2
          exact StepQ.mk _ (Ext.alloc (Below.refl _ _) _) ⟨_, rfl, hbx.size, Blk.new _ _ _⟩
        intro xx w2 hb9 hv
        have hv0 : xx 0 = u3 := hv 0 (by decide)
        have hv1 : xx 1 = .slice (some ⟨b, o, none⟩) ts.length c := hv 1 (by decide)
        have hv2 : xx 2 = .int .i64 (k : Nat) := hv 2 (by decide)
        have hv3 : xx 3 = .pointer (some ⟨b, o + k * 4, none⟩) := hv 3 (by decide)
        have hv4 : xx 4 = .pointer (some ⟨b, o + k * 4, none⟩) := hv 4 (by decide)
        have hv5 : xx 5 = .int .u16 (t.a : Nat) := hv 5 (by decide)
        have hv6 : xx 6 = .int .u16 ((t.a : Int) % 5) := hv 6 (by decide)
        have hv7 : xx 7 = .int .i64 ((t.a : Int) % 5) := hv 7 (by decide)
        have hv8 : xx 8 = .slice (some ⟨b, o, none⟩) ts.length c := hv 8 (by decide)
        have hv9 : xx 9 = .int .i64 (k : Nat) := hv 9 (by decide)
        have hv10 : xx 10 = .pointer (some ⟨b, o + k * 4, none⟩) := hv 10 (by decide)
        have hv11 : xx 11 = .pointer (some ⟨b, o + k * 4 + 1, none⟩) := hv 11 (by decide)
        have hv12 : xx 12 = .int .u16 (t.b : Nat) := hv 12 (by decide)
        have hv13 : xx 13 = .agg #[.bool (negB (am)), .string (bs (numB (am))), .string (bs (denomB (am)))] := hv 13 (by decide)
        have hv14 : xx 14 = .slice (some ⟨b, o, none⟩) ts.length c := hv 14 (by decide)
        have hv15 : xx 15 = .int .i64 (k : Nat) := hv 15 (by decide)
        have hv16 : xx 16 = .pointer (some ⟨b, o + k * 4, none⟩) := hv 16 (by decide)
        have hv17 : xx 17 = .pointer (some ⟨b, o + k * 4 + 2, none⟩) := hv 17 (by decide)
        have hv18 : xx 18 = .int .u16 (t.c : Nat) := hv 18 (by decide)
        have hv19 : xx 19 = .int .u16 ((t.c : Int) % 14) := hv 19 (by decide)
        have hv20 : xx 20 = .int .i64 ((t.c : Int) % 14) := hv 20 (by decide)
        have hv21 : xx 21 = .agg #[.bool (negB (r)), .string (bs (numB (r))), .string (bs (denomB (r)))] := hv 21 (by decide)
        have hv22 : xx 22 = .slice (some ⟨b, o, none⟩) ts.length c := hv 22 (by decide)
        have hv23 : xx 23 = .int .i64 (k : Nat) := hv 23 (by decide)
        have hv24 : xx 24 = .pointer (some ⟨b, o + k * 4, none⟩) := hv 24 (by decide)
        have hv25 : xx 25 = .pointer (some ⟨b, o + k * 4 + 3, none⟩) := hv 25 (by decide)
        have hv26 : xx 26 = .int .u16 (t.d : Nat) := hv 26 (by decide)
        have hv27 : xx 27 = .int .u16 ((t.d : Int) % 6) := hv 27 (by decide)
        have hv28 : xx 28 = .bool eB := hv 28 (by decide)
        have hv29 : xx 29 = .agg #[.int .i64 ((t.a : Int) % 5), .bool (negB (am)), .string (bs (numB (am))), .string (bs (denomB (am))), .bool (negB (r)), .string (bs (numB (r))), .string (bs (denomB (r))), .bool eB] := hv 29 (by decide)
        obtain ⟨g2, hv30, hlg30, hB30⟩ := hv 30 (by decide)
        clear hv
        simp only [List.take, List.drop, fillA, Act.put]
        simp only [hv0, hv1, hv2, hv3, hv4, hv5, hv6, hv7, hv8, hv9, hv10, hv11, hv12, hv13, hv14, hv15, hv16, hv17, hv18, hv19, hv20, hv21, hv22, hv23, hv24, hv25, hv26, hv27, hv28, hv29, hv30]
        clear hv0 hv1 hv2 hv3 hv4 hv5 hv6 hv7 hv8 hv9 hv10 hv11 hv12 hv13 hv14 hv15 hv16 hv17 hv18 hv19 hv20 hv21 hv22 hv23 hv24 hv25 hv26 hv27 hv28 hv29 hv30
        have HS2 := Lib.hid (HS.out.fill hb9 hlg30 hB30)
        clear hlg30 hB30
        have HG_2 := Lib.hid (HG.out.below hb9)
        clear HG
        clear hb9 HS
        try simp only [List.setIfInBounds_toArray, List.set_cons_zero, List.set_cons_succ]
        have hsz := HS2.out.below.size
        have HB9 := Lib.hid HS2.out.below
        have hblk := HS2.out.blk 0 rfl
        have hgr : World.ownsRow w2 w.heap.size 30 8 u3 k (flat Vtr.enc out) := HG_2.out
        go_wp2_with (at_builtin; refine wpList_push_at _ rfl _ _ 22 rfl w.heap.size 30 i0 _ 8 96 Tryd.underlying22 HI.out hz0 hz1 hz2 rfl (by decide) vtr_len u3 k out (by simp [Act.eval]) hgr (quaV t) g2 _ hblk ?c1 (by simp [Act.eval]) (vtr_cells _) (by unfold maxLen; omega) (by omega) hsz ?_)
        case c1 => exact henc.out.symm
        intro v2 w2 hown2 hb2
        rw [← HFT.out] at hown2
        have HG2 := Lib.hid hown2
        have HS9 := Lib.hid (St.of (HB9.out.trans hb2))
        clear hown2 hblk hgr hb2 HS2 HG_2 HFT
        go_wp2
        go_roundw
        case rel => exact ⟨k + 1, by omega, by omega, by go_num, HG2.out, HS9.out⟩
        case measure => simp [intOf]; omega
      · obtain rfl : k = 7 := by omega
        have e9 : decide ((7 : Int) < (ts.length : Int)) = true := decide_eq_true (by omega)
        go_wp2
        go_ret
        have hvl : (votersOf ts).length = 7 := hln
        rw [hvl]
        exact ⟨_, rfl, HG.out, HS.out.below⟩
    · obtain rfl : k = ts.length := by omega
      go_wp2
      go_ret
      have hvo : votersOf ts = (ts.take ts.length).map quaV := by unfold votersOf; rw [List.take_length, List.take_of_length_le hk7]
      rw [hvo, hln]
      exact ⟨_, rfl, HG.out, HS.out.below⟩

set_option maxRecDepth 100000 in
set_option maxHeartbeats 1000000 in
theorem law30_few (v : Value) (l : List Vtr) (w : World) (h : VotersL w v l) :
    Calls Tryd.prog 7 #[v] w fun e w' => e = .returned (.bool (fewV l)) ∧ Below w.heap.size w w' := by
  have H := Lib.hid h
  obtain ⟨A, c, rfl, hl, hc⟩ := h.slice
  clear h
  by_cases hlen : 10 < l.length
  · have hd : decide ((10 : Int) < (l.length : Int)) = true := decide_eq_true (by omega)
    have HR : Hid (fewV l = false) := by show _ = _; unfold fewV; rw [decide_eq_false (by omega)]; rfl
    go_enter Tryd.func7, Tryd.ntmps7
    have HS := Lib.hid (St.start w)
    go_wp2
    go_ret
    have HS2 : Hid (St w [] _) := Lib.hid HS.out
    rw [HR.out]
    exact ⟨rfl, HS2.out.below⟩
  · have hd : decide ((10 : Int) < (l.length : Int)) = false := decide_eq_false (by omega)
    go_enter Tryd.func7, Tryd.ntmps7
    have HS := Lib.hid (St.start w)
    go_wp2
    go_loopw [3] (fun i wr => ∃ k : Nat, k ≤ l.length ∧ i = .int .i64 k ∧ Hid ((l.take k).all fewVt = true) ∧ Hid (St w [] wr)) (fun i _ => l.length - (intOf i).toNat)
    case atStart => exact ⟨0, Nat.zero_le _, rfl, rfl, HS.out⟩
    case round =>
      obtain ⟨k, hk, rfl, hck, HS⟩ := hrel
      by_cases hlt : k < l.length
      · obtain ⟨b, o, u, rfl, hbb, hq, hx⟩ := H.out.at_ hlt
        have HX := Lib.hid hx
        have HTA := Lib.hid (take_all (f := fewVt) hq)
        have HIN := Lib.hid (List.mem_of_getElem? hq)
        have hF := fun W => law0_Few u.an u.aa u.ab W
        have hG := fun W => law0_Few u.kn u.ka u.kb W
        obtain ⟨fB, hfB⟩ : ∃ x, x = fewR u.aa u.ab := ⟨_, rfl⟩
        obtain ⟨gB, hgB⟩ : ∃ x, x = fewR u.ka u.kb := ⟨_, rfl⟩
        rw [← hfB] at hF
        rw [← hgB] at hG
        have HFB : Hid (fewVt u = (fB && gB)) := by show _ = _; rw [hfB, hgB]; rfl
        unfold raw at hF hG
        have HF := Lib.hid hF
        have HG := Lib.hid hG
        have e0 : (0 : Int) ≤ ((k : Nat) : Int) := by omega
        have e1 : ((k : Nat) : Int) < (l.length : Int) := by omega
        clear hx hq hF hG hfB hgB
        cases fB
        · have x1 := HX.out _ HS.out.below 1 _ rfl
          have x2 := HX.out _ HS.out.below 2 _ rfl
          have x3 := HX.out _ HS.out.below 3 _ rfl
          go_wp2_with fail
          refine (HF.out _).mono ?_
          rintro e w2 ⟨rfl, hb2⟩
          have HS2 := Lib.hid (HS.out.call hb2)
          clear hb2 HS
          clear x1 x2 x3
          go_wp2
          go_ret
          have HS3 : Hid (St w [] _) := Lib.hid HS2.out
          have HR : fewV l = false := by
            unfold fewV; rw [Bool.and_eq_false_iff]; right; rw [List.all_eq_false]; exact ⟨u, HIN.out, by rw [HFB.out]; simp⟩
          rw [HR]
          exact ⟨rfl, HS3.out.below⟩
        · cases gB
          · have x1 := HX.out _ HS.out.below 1 _ rfl
            have x2 := HX.out _ HS.out.below 2 _ rfl
            have x3 := HX.out _ HS.out.below 3 _ rfl
            go_wp2_with fail
            refine (HF.out _).mono ?_
            rintro e w2 ⟨rfl, hb2⟩
            have HS2 := Lib.hid (HS.out.call hb2)
            clear hb2 HS
            clear x1 x2 x3
            have x4 := HX.out _ HS2.out.below 4 _ rfl
            have x5 := HX.out _ HS2.out.below 5 _ rfl
            have x6 := HX.out _ HS2.out.below 6 _ rfl
            go_wp2_with fail
            refine (HG.out _).mono ?_
            rintro e w3 ⟨rfl, hb3⟩
            have HS3 := Lib.hid (HS2.out.call hb3)
            clear hb3 HS2
            clear x4 x5 x6
            go_wp2
            go_ret
            have HS4 : Hid (St w [] _) := Lib.hid HS3.out
            have HR : fewV l = false := by
              unfold fewV; rw [Bool.and_eq_false_iff]; right; rw [List.all_eq_false]; exact ⟨u, HIN.out, by rw [HFB.out]; simp⟩
            rw [HR]
            exact ⟨rfl, HS4.out.below⟩
          · have x1 := HX.out _ HS.out.below 1 _ rfl
            have x2 := HX.out _ HS.out.below 2 _ rfl
            have x3 := HX.out _ HS.out.below 3 _ rfl
            go_wp2_with fail
            refine (HF.out _).mono ?_
            rintro e w2 ⟨rfl, hb2⟩
            have HS2 := Lib.hid (HS.out.call hb2)
            clear hb2 HS
            clear x1 x2 x3
            have x4 := HX.out _ HS2.out.below 4 _ rfl
            have x5 := HX.out _ HS2.out.below 5 _ rfl
            have x6 := HX.out _ HS2.out.below 6 _ rfl
            go_wp2_with fail
            refine (HG.out _).mono ?_
            rintro e w3 ⟨rfl, hb3⟩
            have HS3 := Lib.hid (HS2.out.call hb3)
            clear hb3 HS2
            clear x4 x5 x6
            go_wp2
            have HS4 : Hid (St w [] _) := Lib.hid HS3.out
            go_roundw
            case rel => exact ⟨k + 1, by omega, by go_num, by show _ = _; rw [HTA.out, hck.out, HFB.out]; rfl, HS4.out.sub (List.nil_sublist _)⟩
            case measure => simp [intOf]; omega
      · obtain rfl : k = l.length := by omega
        go_wp2
        go_ret
        have HS2 : Hid (St w [] _) := Lib.hid HS.out
        have HR : fewV l = true := by
          have := hck.out
          rw [List.take_length] at this
          unfold fewV; rw [this, decide_eq_true (by omega)]; rfl
        rw [HR]
        exact ⟨rfl, HS2.out.below⟩

theorem awakeV_par : ∀ u ∈ awakeV, W64 u.party := by
  intro u hu
  unfold awakeV at hu
  simp only [List.mem_cons, List.mem_nil_iff, or_false] at hu
  rcases hu with rfl | rfl | rfl <;> (unfold W64; decide)
theorem awakeV_res : thresholdR awakeV = (mkRat 1 2, true, 0) := by unfold thresholdR; rw [awakeV_check, awakeV_thr]; rfl
theorem enc_1_2 : rat (mkRat 1 2) = raw false [1] [2] := enc_small (by decide +kernel) (n := 1) (d := 2) (by decide +kernel) (by decide +kernel) (by decide) (by decide) (by decide) (by decide)
theorem enc_1_4 : rat (mkRat 1 4) = raw false [1] [4] := enc_small (by decide +kernel) (n := 1) (d := 4) (by decide +kernel) (by decide +kernel) (by decide) (by decide) (by decide) (by decide)
theorem enc_3_4 : rat (mkRat 3 4) = raw false [3] [4] := enc_small (by decide +kernel) (n := 3) (d := 4) (by decide +kernel) (by decide +kernel) (by decide) (by decide) (by decide) (by decide)

set_option maxRecDepth 100000 in
set_option maxHeartbeats 1000000 in
theorem law30_awake (w : World) : Calls Tryd.prog 8 #[] w fun e w' => e = .returned (.bool true) ∧ Below w.heap.size w w' := by
  have w6 := fun W => law0_Whole 60 W (by decide) (by decide)
  have w2 := fun W => law0_Whole 20 W (by decide) (by decide)
  rw [show ((60 : Int) : Rat) = ((60 : Nat) : Rat) from rfl, enc_int (by decide) (by decide)] at w6
  rw [show ((20 : Int) : Rat) = ((20 : Nat) : Rat) from rfl, enc_int (by decide) (by decide)] at w2
  have r1 := fun W => law0_Ratio 1 2 W (by decide) (by decide) (by decide) (by decide)
  have r2 := fun W => law0_Ratio 1 4 W (by decide) (by decide) (by decide) (by decide)
  have r3 := fun W => law0_Ratio 3 4 W (by decide) (by decide) (by decide) (by decide)
  rw [show (2 : Int).toNat = 2 from rfl, enc_1_2] at r1
  rw [show (4 : Int).toNat = 4 from rfl, enc_1_4] at r2
  rw [show (4 : Int).toNat = 4 from rfl, enc_3_4] at r3
  have t1 := fun (v : Value) W (h : VotersL W v awakeV) => vote_Threshold v awakeV W h (awakeV_small.mono (by decide)) awakeV_par
  rw [awakeV_res] at t1
  dsimp only at t1
  rw [enc_1_2] at t1
  have q1 := fun W => rat_eql false false [1] [1] [2] [2] (by decide) (by decide) (by decide) (by decide) true (by simp) W
  unfold raw at *
  have W6 := Lib.hid w6
  have W2 := Lib.hid w2
  have R1 := Lib.hid r1
  have R2 := Lib.hid r2
  have R3 := Lib.hid r3
  have T1 := Lib.hid t1
  have Q1 := Lib.hid q1
  clear w6 w2 r1 r2 r3 t1 q1
  go_enter Tryd.func8, Tryd.ntmps8
  have HS := Lib.hid (St.start w)
  go_wp2_with fail
  refine (W6.out _).mono ?_
  rintro e w2 ⟨rfl, hb2⟩
  have HS2 := Lib.hid (HS.out.call hb2)
  clear hb2 HS
  go_wp2_with fail
  refine (R1.out _).mono ?_
  rintro e w3 ⟨rfl, hb3⟩
  have HS3 := Lib.hid (HS2.out.call hb3)
  clear hb3 HS2
  go_wp2_with fail
  refine (W2.out _).mono ?_
  rintro e w4 ⟨rfl, hb4⟩
  have HS4 := Lib.hid (HS3.out.call hb4)
  clear hb4 HS3
  go_wp2_with fail
  refine (R2.out _).mono ?_
  rintro e w5 ⟨rfl, hb5⟩
  have HS5 := Lib.hid (HS4.out.call hb5)
  clear hb5 HS4
  go_wp2_with fail
  refine (W2.out _).mono ?_
  rintro e w6 ⟨rfl, hb6⟩
  have HS6 := Lib.hid (HS5.out.call hb6)
  clear hb6 HS5
  go_wp2_with fail
  refine (R3.out _).mono ?_
  rintro e w7 ⟨rfl, hb7⟩
  have HS7 := Lib.hid (HS6.out.call hb7)
  clear hb7 HS6
  go_wp2_with fail
  have HS8 : Hid (St w [⟨w7.heap.size, #[.int .i64 0, .bool false, .string (bs [60]), .string (bs []), .bool false, .string (bs [1]), .string (bs [2]), .bool false, .int .i64 1, .bool false, .string (bs [20]), .string (bs []), .bool false, .string (bs [1]), .string (bs [4]), .bool false, .int .i64 2, .bool false, .string (bs [20]), .string (bs []), .bool false, .string (bs [3]), .string (bs [4]), .bool false], 30⟩] _) := Lib.hid (St.alloc (HS7.out) #[.int .i64 0, .bool false, .string (bs [60]), .string (bs []), .bool false, .string (bs [1]), .string (bs [2]), .bool false, .int .i64 1, .bool false, .string (bs [20]), .string (bs []), .bool false, .string (bs [1]), .string (bs [4]), .bool false, .int .i64 2, .bool false, .string (bs [20]), .string (bs []), .bool false, .string (bs [3]), .string (bs [4]), .bool false] 30 _ (by simp))
  refine (T1.out _ _ (Slc.of_blk vtr_len (HS8.out.blk 0 rfl) rfl rfl (by decide) (by decide))).mono ?_
  rintro e w9 ⟨rfl, hb9⟩
  have HS9 := Lib.hid (HS8.out.call hb9)
  clear hb9 HS7 HS8
  go_wp2
  have HS10 : Hid (St w [⟨w9.heap.size, #[.bool false, .string (bs [1]), .string (bs [2])], 28⟩, ⟨w7.heap.size, #[.int .i64 0, .bool false, .string (bs [60]), .string (bs []), .bool false, .string (bs [1]), .string (bs [2]), .bool false, .int .i64 1, .bool false, .string (bs [20]), .string (bs []), .bool false, .string (bs [1]), .string (bs [4]), .bool false, .int .i64 2, .bool false, .string (bs [20]), .string (bs []), .bool false, .string (bs [3]), .string (bs [4]), .bool false], 30⟩] _) := Lib.hid (St.alloc (HS9.out) #[.bool false, .string (bs [1]), .string (bs [2])] 28 _ (by simp))
  clear HS9
  refine wp_region_facts 10 [fun _ vv => vv = .int .i64 0, fun _ vv => vv = .bool true, fun _ vv => vv = .bool true, fun _ vv => vv = .bool true, fun _ vv => vv = .bool true, fun _ vv => vv = .bool true, fun _ vv => vv = .agg #[.bool false, .string (bs [1]), .string (bs [2])], fun _ vv => vv = .agg #[.bool false, .string (bs [1]), .string (bs [2])], fun _ vv => vv = .bool true, fun _ vv => vv = .bool true] rfl (by kernel_rfl) (by kernel_rfl) (by kernel_rfl) ⟨fun _ _ _ h _ => h, fun _ _ _ h _ => h, fun _ _ _ h _ => h, fun _ _ _ h _ => h, fun _ _ _ h _ => h, fun _ _ _ h _ => h, fun _ _ _ h _ => h, fun _ _ _ h _ => h, fun _ _ _ h _ => h, fun _ _ _ h _ => h, trivial⟩ ?_ ?_
  refine ⟨?_, ?_, ?_, ?_, ?_, ?_, ?_, ?_, ?_, ?_, trivial⟩
  · intro xx af wv hbx hev hev0 hd
    have e4 : af.tmps[4]?.getD undef = .int .i64 0 := hev0 4 rfl
    clear hev hev0 hd
    go_wp2
    exact StepQ.mk _ (Below.refl _ _) rfl
  · intro xx af wv hbx hev hev0 hd
    have e21 := hev 0 _ 21 rfl rfl
    have d0 : xx 0 = .int .i64 0 := hd ⟨0, .data⟩ (by simp) rfl
    rw [d0] at e21
    clear d0
    clear hev hev0 hd
    go_wp2
    exact StepQ.mk _ (Below.refl _ _) rfl
  · intro xx af wv hbx hev hev0 hd
    have e22 := hev 1 _ 22 rfl rfl
    have d1 : xx 1 = .bool true := hd ⟨1, .data⟩ (by simp) rfl
    rw [d1] at e22
    clear d1
    clear hev hev0 hd
    go_wp2
    exact StepQ.mk _ (Below.refl _ _) rfl
  · intro xx af wv hbx hev hev0 hd
    have e23 := hev 2 _ 23 rfl rfl
    have d2 : xx 2 = .bool true := hd ⟨2, .guard⟩ (by simp) rfl
    rw [d2] at e23
    clear d2
    have e3 : af.tmps[3]?.getD undef = .bool true := hev0 3 rfl
    have q23 := getD_bool e23
    clear hev hev0 hd
    go_wp2
    exact StepQ.mk _ (Below.refl _ _) rfl
  · intro xx af wv hbx hev hev0 hd
    have e23 := hev 2 _ 23 rfl rfl
    have d2 : xx 2 = .bool true := hd ⟨2, .data⟩ (by simp) rfl
    rw [d2] at e23
    clear d2
    have e24 := hev 3 _ 24 rfl rfl
    have d3 : xx 3 = .bool true := hd ⟨3, .data⟩ (by simp) rfl
    rw [d3] at e24
    clear d3
    clear hev hev0 hd
    go_wp2
    exact StepQ.mk _ (Below.refl _ _) rfl
  · intro xx af wv hbx hev hev0 hd
    have e25 := hev 4 _ 25 rfl rfl
    have d4 : xx 4 = .bool true := hd ⟨4, .data⟩ (by simp) rfl
    rw [d4] at e25
    clear d4
    clear hev hev0 hd
    go_wp2
    exact StepQ.mk _ (Below.refl _ _) rfl
  · intro xx af wv hbx hev hev0 hd
    have e26 := hev 5 _ 26 rfl rfl
    have d5 : xx 5 = .bool true := hd ⟨5, .guard⟩ (by simp) rfl
    rw [d5] at e26
    clear d5
    have e2 : af.tmps[2]?.getD undef = .pointer (some ⟨w9.heap.size, 0, none⟩) := hev0 2 rfl
    have q26 := getD_bool e26
    clear hev hev0 hd
    have hs1 := Lib.hid (HS10.out.call hbx)
    have y0 := hs1.out.cell 0 rfl 0 rfl
    have y1 := hs1.out.cell 0 rfl 1 rfl
    have y2 := hs1.out.cell 0 rfl 2 rfl
    go_wp2
    exact StepQ.mk _ (Below.refl _ _) rfl
  · intro xx af wv hbx hev hev0 hd
    have e26 := hev 5 _ 26 rfl rfl
    have d5 : xx 5 = .bool true := hd ⟨5, .chain⟩ (by simp) rfl
    rw [d5] at e26
    clear d5
    have q26 := getD_bool e26
    clear hev hev0 hd
    go_wp2_with fail
    refine (R1.out _).mono ?_
    rintro e w8 ⟨rfl, hb8⟩
    go_wp2
    exact StepQ.mk _ hb8 rfl
  · intro xx af wv hbx hev hev0 hd
    have e26 := hev 5 _ 26 rfl rfl
    have d5 : xx 5 = .bool true := hd ⟨5, .guard⟩ (by simp) rfl
    rw [d5] at e26
    clear d5
    have e27 := hev 6 _ 27 rfl rfl
    have d6 : xx 6 = .agg #[.bool false, .string (bs [1]), .string (bs [2])] := hd ⟨6, .data⟩ (by simp) rfl
    rw [d6] at e27
    clear d6
    have e28 := hev 7 _ 28 rfl rfl
    have d7 : xx 7 = .agg #[.bool false, .string (bs [1]), .string (bs [2])] := hd ⟨7, .data⟩ (by simp) rfl
    rw [d7] at e28
    clear d7
    have q26 := getD_bool e26
    clear hev hev0 hd
    have en := Q1.out
    go_wp2
    exact StepQ.mk _ (Below.refl _ _) rfl
  · intro xx af wv hbx hev hev0 hd
    have e26 := hev 5 _ 26 rfl rfl
    have d5 : xx 5 = .bool true := hd ⟨5, .data⟩ (by simp) rfl
    rw [d5] at e26
    clear d5
    have e29 := hev 8 _ 29 rfl rfl
    have d8 : xx 8 = .bool true := hd ⟨8, .data⟩ (by simp) rfl
    rw [d8] at e29
    clear d8
    clear hev hev0 hd
    go_wp2
    exact StepQ.mk _ (Below.refl _ _) rfl
  intro xx w12 hb9 hv
  have hv0 : xx 0 = .int .i64 0 := hv 0 (by decide)
  have hv1 : xx 1 = .bool true := hv 1 (by decide)
  have hv2 : xx 2 = .bool true := hv 2 (by decide)
  have hv3 : xx 3 = .bool true := hv 3 (by decide)
  have hv4 : xx 4 = .bool true := hv 4 (by decide)
  have hv5 : xx 5 = .bool true := hv 5 (by decide)
  have hv6 : xx 6 = .agg #[.bool false, .string (bs [1]), .string (bs [2])] := hv 6 (by decide)
  have hv7 : xx 7 = .agg #[.bool false, .string (bs [1]), .string (bs [2])] := hv 7 (by decide)
  have hv8 : xx 8 = .bool true := hv 8 (by decide)
  have hv9 : xx 9 = .bool true := hv 9 (by decide)
  clear hv
  simp only [List.take, List.drop, fillA, Act.put]
  simp only [hv0, hv1, hv2, hv3, hv4, hv5, hv6, hv7, hv8, hv9]
  clear hv0 hv1 hv2 hv3 hv4 hv5 hv6 hv7 hv8 hv9
  have HS12 := Lib.hid (HS10.out.call hb9)
  clear hb9 HS10
  go_wp2
  go_ret
  have HS13 : Hid (St w [⟨w9.heap.size, #[.bool false, .string (bs [1]), .string (bs [2])], 28⟩, ⟨w7.heap.size, #[.int .i64 0, .bool false, .string (bs [60]), .string (bs []), .bool false, .string (bs [1]), .string (bs [2]), .bool false, .int .i64 1, .bool false, .string (bs [20]), .string (bs []), .bool false, .string (bs [1]), .string (bs [4]), .bool false, .int .i64 2, .bool false, .string (bs [20]), .string (bs []), .bool false, .string (bs [3]), .string (bs [4]), .bool false], 30⟩] _) := Lib.hid HS12.out
  exact ⟨rfl, HS13.out.below⟩
end Go.Proofs.YtakoagjpmdcddaaDoor
