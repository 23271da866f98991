/-
Arguments opened: steps of a rate; pairs of words.
-/
import Derived.Test.YtakoagjpmdcddaaGreatDoorVK
import Derived.Test.YtakoagjpmdcddaaGreatDoorW0
import Derived.Test.YtakoagjpmdcddaaGreatDoorW5
import Derived.Test.YtakoagjpmdcddaaGreatDoorVG
import Derived.Deep.AppendLies
namespace Go.Proofs.YtakoagjpmdcddaaGreatDoor
open Go.ChangeShapes Go.WideShapes Go.ChangeAt Go.ChangeMaps Go.RowKit

section
variable {H : Type} {enc : TypeId × Value → H} {W : World} {base : Nat} {sp : Nat → Bool} {held : Bool}
set_option maxRecDepth 100000 in
theorem cells_step : Tryz.prog.cellsOf 29 = 4 := by kernel_rfl
def StpDay (s : Stp) : Prop := -9223372036854775808 ≤ s.frm ∧ s.frm ≤ 9223372036854775807
/-- Four cells that read as a step. -/
theorem dec_step {n : Nat} {cs : List Value} {y : DataW H × List MemPlace} (h : DataW.trod enc Tryz.prog W base sp held n 29 cs = some y) : ∃ q : Stp, cs = q.enc ∧ StpDay q := by
  obtain ⟨xs, m, rfl, hx, hl, hxl, hf⟩ := DataW.trod_struct Tryz.underlying29 h
  rw [cells_step] at hl
  obtain ⟨c0, c1, c2, c3, rfl⟩ := list4 hl
  obtain ⟨y0, y1, rfl⟩ := list2 (show xs.length = 2 from hxl)
  have h0 := hf 0 _ rfl
  have h1 := hf 1 _ rfl
  simp only [List.getElem_toArray, List.getElem_cons_zero, List.getElem_cons_succ] at h0 h1
  rw [cells_int] at h0
  rw [cells_rat] at h1
  obtain ⟨a, e0, _, wa⟩ := DataW.trod_int Tryz.underlying3 (show DataW.trod enc Tryz.prog W base sp held m 3 [c0] = some y0 from h0)
  obtain ⟨neg, num, den, e1, _, _⟩ := dec_rat (show DataW.trod enc Tryz.prog W base sp held m 23 [c1, c2, c3] = some y1 from h1)
  injection e0 with e0
  unfold ratCells at e1
  simp only [List.cons.injEq, and_true] at e1
  obtain ⟨rfl, rfl, rfl⟩ := e1
  subst e0
  exact ⟨⟨a, neg, num, den⟩, rfl, int_range wa⟩
set_option maxRecDepth 100000 in
theorem cells_arr2 : Tryz.prog.cellsOf 72 = 2 := by kernel_rfl
set_option maxRecDepth 100000 in
/-- Two cells that read as two words. -/
theorem dec_arr2 {n : Nat} {cs : List Value} {y : DataW H × List MemPlace} (h : DataW.trod enc Tryz.prog W base sp held n 72 cs = some y) : ∃ t : Duo, cs = t.enc ∧ t.ok := by
  obtain ⟨xs, m, rfl, hx, hl, hxl, hf⟩ := DataW.trod_array Tryz.underlying72 h
  rw [cells_arr2] at hl
  obtain ⟨c0, c1, rfl⟩ := list2 hl
  obtain ⟨y0, y1, rfl⟩ := list2 (show xs.length = 2 from hxl)
  have h0 := hf 0 (by decide)
  have h1 := hf 1 (by decide)
  rw [cells_u16] at h0 h1
  obtain ⟨a, e0, _, w0⟩ := DataW.trod_int Tryz.underlying37 (show DataW.trod enc Tryz.prog W base sp held m 37 [c0] = some y0 from h0)
  obtain ⟨b, e1, _, w1⟩ := DataW.trod_int Tryz.underlying37 (show DataW.trod enc Tryz.prog W base sp held m 37 [c1] = some y1 from h1)
  injection e0 with e0
  injection e1 with e1
  subst e0; subst e1
  obtain ⟨a0, a1⟩ := u16_range w0
  obtain ⟨b0, b1⟩ := u16_range w1
  refine ⟨⟨a.toNat, b.toNat⟩, ?_, ?_⟩
  · unfold Duo.enc
    dsimp only
    rw [Int.toNat_of_nonneg a0, Int.toNat_of_nonneg b0]
  · unfold Duo.ok
    dsimp only
    omega
end
end Go.Proofs.YtakoagjpmdcddaaGreatDoor

/-
The laws' steps, built out of numbers: the builder walked (printed by gen_steps.py).
-/
namespace Go.Proofs.YtakoagjpmdcddaaGreatDoor
open Go.ChangeShapes Go.WideShapes Go.ChangeAt Go.ChangeMaps Go.RowKit

set_option maxRecDepth 100000 in
theorem info_step : (Tryz.prog.info? 29).map (fun i => (i.zero, i.size, i.bytes)) = some (some (.agg #[.int .i64 0, .bool false, .string ⟨#[]⟩, .string ⟨#[]⟩]), 4, 48) := by kernel_rfl
theorem stp_cells (q : Stp) : ∀ u ∈ q.enc, u.oneCell' = true := by
  intro u hu
  unfold Stp.enc at hu
  simp only [List.mem_cons, List.mem_nil_iff, or_false] at hu
  rcases hu with rfl | rfl | rfl | rfl <;> rfl
theorem stepsFold_take {ts : List Duo} {k : Nat} {t : Duo} (h : ts[k]? = some t) : stepsFold (ts.take (k + 1)) = addS (stepsFold (ts.take k)) t := by rw [take_at h, stepsFold_snoc]

set_option maxRecDepth 100000 in
set_option maxHeartbeats 1000000 in
theorem law0_Steps (v : Value) (ts : List Duo) (w : World) (h : Duos w v ts) (hok : ∀ t ∈ ts, t.ok) :
    Calls Tryz.prog 14 #[v] w fun e w' => ∃ v', e = .returned v' ∧ StepsL w' v' (stepsOf ts) ∧ Below w.heap.size w w' := by
  obtain ⟨i0, hi0, hz0, hz1, hz2⟩ := info_parts info_step
  have HI := Lib.hid hi0
  have H := Lib.hid h
  have HOK := Lib.hid hok
  obtain ⟨A, c, rfl, hl, hc⟩ := h.slice
  clear h hok hi0
  go_enter Tryz.func14, Tryz.ntmps14
  have HS := Lib.hid (St.start w)
  go_wp2
  go_loopw [3, 4, 5] (fun l d i wr => ∃ k : Nat, k ≤ ts.length ∧ k ≤ 5 ∧ i = .int .i64 k ∧ d = .int .i64 ((stepsFold (ts.take k)).2 : Nat) ∧ Hid (Grows wr w.heap.size 29 4 l k (flat Stp.enc (stepsFold (ts.take k)).1)) ∧ Hid (St w [] wr)) (fun _ _ i _ => ts.length - (intOf i).toNat)
  case atStart => exact ⟨0, Nat.zero_le _, Nat.zero_le _, rfl, rfl, ⟨rfl, .inl ⟨rfl, rfl⟩⟩, HS.out⟩
  case round =>
    obtain ⟨k, hk, hk5, rfl, rfl, HG, HS⟩ := hrel
    obtain ⟨wo, hwo⟩ : ∃ wo : World, wo = wr := ⟨_, rfl⟩
    subst hwo
    obtain ⟨_, _, hdn, hln, _⟩ := stepsFold_all (ts.take k) (by rw [List.length_take]; omega)
    rw [List.length_take, Nat.min_eq_left hk] at hdn hln
    by_cases hlt : k < ts.length
    · by_cases hlt5 : k < 5
      · obtain ⟨b, o, t, rfl, hbb, ht, hx⟩ := H.out.at_ hlt
        obtain ⟨ok1, ok2⟩ := HOK.out t (List.mem_of_getElem? ht)
        have hft := stepsFold_take ht
        have R := fun W => law0_Ratio ((t.b : Int) % 12) 100 W (by omega) (by omega) (by decide) (by decide)
        change ∀ W, Calls Tryz.prog _ _ _ (fun e w' => e = .returned (rat (duoR t)) ∧ _) at R
        have henc : Hid ((duoS (stepsFold (ts.take k)).2 t).enc = [.int .i64 (((stepsFold (ts.take k)).2 : Int) + (t.a : Int) % 60), .bool (negB (duoR t)), .string (bs (numB (duoR t))), .string (bs (denomB (duoR t)))]) := by
          show [Value.int .i64 (((stepsFold (ts.take k)).2 + t.a % 60 : Nat) : Int), .bool (negB (duoR t)), .string (bs (numB (duoR t))), .string (bs (denomB (duoR t)))] = _
          rw [Int.natCast_add, Int.natCast_emod]; rfl
        unfold addS at hft
        generalize duoR t = r at *
        unfold rat raw at R
        have HR := Lib.hid R
        have HX := Lib.hid hx
        have HFT := Lib.hid hft
        clear R hx ht hft
        have HG := HG
        generalize stepsFold (ts.take k) = xf at *
        obtain ⟨out, dn⟩ := xf
        dsimp only at hdn hln
        have e1 : Int.tmod (t.a : Int) 60 = (t.a : Int) % 60 := Int.tmod_eq_emod_of_nonneg (by omega)
        have e2 : Int.tmod (t.b : Int) 12 = (t.b : Int) % 12 := Int.tmod_eq_emod_of_nonneg (by omega)
        have e3 : IntKind.i64.wrap ((t.a : Int) % 60) = (t.a : Int) % 60 := IntWalk.i64_in _ (by omega)
        have e4 : IntKind.i64.wrap ((t.b : Int) % 12) = (t.b : Int) % 12 := IntWalk.i64_in _ (by omega)
        have e5 : IntKind.i64.wrap ((dn : Int) + (t.a : Int) % 60) = (dn : Int) + (t.a : Int) % 60 := IntWalk.i64_in _ (by omega)
        have e6 : ((k : Nat) : Int) < (ts.length : Int) := by omega
        have e7 : (0 : Int) ≤ ((k : Nat) : Int) := by omega
        have e8 : decide (((k : Nat) : Int) < 5) = true := decide_eq_true (by omega)
        have e9 : decide (((k : Nat) : Int) < (ts.length : Int)) = true := decide_eq_true e6
        go_wp2
        refine wp_region_facts 20 [fun _ vv => vv = u3, fun _ vv => vv = .int .i64 (dn : Nat), fun _ vv => vv = .slice (some ⟨b, o, none⟩) ts.length c, fun _ vv => vv = .int .i64 (k : Nat), fun _ vv => vv = .pointer (some ⟨b, o + k * 2, none⟩), fun _ vv => vv = .pointer (some ⟨b, o + k * 2, none⟩), fun _ vv => vv = .int .u16 (t.a : Nat), fun _ vv => vv = .int .u16 ((t.a : Int) % 60), fun _ vv => vv = .int .i64 ((t.a : Int) % 60), fun _ vv => vv = .int .i64 ((dn : Int) + (t.a : Int) % 60), fun _ vv => vv = .slice (some ⟨b, o, none⟩) ts.length c, fun _ vv => vv = .int .i64 (k : Nat), fun _ vv => vv = .pointer (some ⟨b, o + k * 2, none⟩), fun _ vv => vv = .pointer (some ⟨b, o + k * 2 + 1, none⟩), fun _ vv => vv = .int .u16 (t.b : Nat), fun _ vv => vv = .int .u16 ((t.b : Int) % 12), fun _ vv => vv = .int .i64 ((t.b : Int) % 12), fun _ vv => vv = .agg #[.bool (negB (r)), .string (bs (numB (r))), .string (bs (denomB (r)))], fun _ vv => vv = .agg #[.int .i64 ((dn : Int) + (t.a : Int) % 60), .bool (negB (r)), .string (bs (numB (r))), .string (bs (denomB (r)))], fun ww vv => ∃ g, vv = .slice (some ⟨g, 0, none⟩) 1 1 ∧ wo.heap.size ≤ g ∧ Blk ww g #[.int .i64 ((dn : Int) + (t.a : Int) % 60), .bool (negB (r)), .string (bs (numB (r))), .string (bs (denomB (r)))] 29] rfl (by kernel_rfl) (by kernel_rfl) (by kernel_rfl) ⟨fun _ _ _ h _ => h, fun _ _ _ h _ => h, fun _ _ _ h _ => h, fun _ _ _ h _ => h, fun _ _ _ h _ => h, fun _ _ _ h _ => h, fun _ _ _ h _ => h, fun _ _ _ h _ => h, fun _ _ _ h _ => h, fun _ _ _ h _ => h, fun _ _ _ h _ => h, fun _ _ _ h _ => h, fun _ _ _ h _ => h, fun _ _ _ h _ => h, fun _ _ _ h _ => h, fun _ _ _ h _ => h, fun _ _ _ h _ => h, fun _ _ _ h _ => h, fun _ _ _ h _ => h, fun _ _ _ ⟨g, e, hg, h⟩ hb => ⟨g, e, hg, h.below hb h.lt⟩, trivial⟩ ?_ ?_
        refine ⟨?_, ?_, ?_, ?_, ?_, ?_, ?_, ?_, ?_, ?_, ?_, ?_, ?_, ?_, ?_, ?_, ?_, ?_, ?_, ?_, trivial⟩
        · intro xx af wv hbx hev hev0 hd
          have e3 : af.tmps[3]?.getD undef = u3 := hev0 3 rfl
          clear hev hev0 hd
          go_wp2
          exact StepQ.mk _ (Below.refl _ _) rfl
        · intro xx af wv hbx hev hev0 hd
          have e4 : af.tmps[4]?.getD undef = .int .i64 (dn : Nat) := hev0 4 rfl
          clear hev hev0 hd
          go_wp2
          exact StepQ.mk _ (Below.refl _ _) rfl
        · intro xx af wv hbx hev hev0 hd
          have e0 : af.tmps[0]?.getD undef = .slice (some ⟨b, o, none⟩) ts.length c := hev0 0 rfl
          clear hev hev0 hd
          go_wp2
          exact StepQ.mk _ (Below.refl _ _) rfl
        · intro xx af wv hbx hev hev0 hd
          have e5 : af.tmps[5]?.getD undef = .int .i64 (k : Nat) := hev0 5 rfl
          clear hev hev0 hd
          go_wp2
          exact StepQ.mk _ (Below.refl _ _) rfl
        · intro xx af wv hbx hev hev0 hd
          have e18 := hev 2 _ 18 rfl rfl
          have d2 : xx 2 = .slice (some ⟨b, o, none⟩) ts.length c := hd ⟨2, .data⟩ (by simp) rfl
          rw [d2] at e18
          clear d2
          have e19 := hev 3 _ 19 rfl rfl
          have d3 : xx 3 = .int .i64 (k : Nat) := hd ⟨3, .data⟩ (by simp) rfl
          rw [d3] at e19
          clear d3
          clear hev hev0 hd
          go_wp2
          exact StepQ.mk _ (Below.refl _ _) rfl
        · intro xx af wv hbx hev hev0 hd
          have e20 := hev 4 _ 20 rfl rfl
          have d4 : xx 4 = .pointer (some ⟨b, o + k * 2, none⟩) := hd ⟨4, .data⟩ (by simp) rfl
          rw [d4] at e20
          clear d4
          clear hev hev0 hd
          go_wp2
          exact StepQ.mk _ (Below.refl _ _) rfl
        · intro xx af wv hbx hev hev0 hd
          have e21 := hev 5 _ 21 rfl rfl
          have d5 : xx 5 = .pointer (some ⟨b, o + k * 2, none⟩) := hd ⟨5, .data⟩ (by simp) rfl
          rw [d5] at e21
          clear d5
          clear hev hev0 hd
          have hs1 := Lib.hid (HS.out.call hbx)
          have y0 := HX.out _ hs1.out.below 0 _ rfl
          rw [Nat.add_zero] at y0
          go_wp2
          exact StepQ.mk _ (Below.refl _ _) rfl
        · intro xx af wv hbx hev hev0 hd
          have e22 := hev 6 _ 22 rfl rfl
          have d6 : xx 6 = .int .u16 (t.a : Nat) := hd ⟨6, .data⟩ (by simp) rfl
          rw [d6] at e22
          clear d6
          clear hev hev0 hd
          go_wp2
          exact StepQ.mk _ (Below.refl _ _) rfl
        · intro xx af wv hbx hev hev0 hd
          have e23 := hev 7 _ 23 rfl rfl
          have d7 : xx 7 = .int .u16 ((t.a : Int) % 60) := hd ⟨7, .data⟩ (by simp) rfl
          rw [d7] at e23
          clear d7
          clear hev hev0 hd
          go_wp2
          exact StepQ.mk _ (Below.refl _ _) rfl
        · intro xx af wv hbx hev hev0 hd
          have e17 := hev 1 _ 17 rfl rfl
          have d1 : xx 1 = .int .i64 (dn : Nat) := hd ⟨1, .data⟩ (by simp) rfl
          rw [d1] at e17
          clear d1
          have e24 := hev 8 _ 24 rfl rfl
          have d8 : xx 8 = .int .i64 ((t.a : Int) % 60) := hd ⟨8, .data⟩ (by simp) rfl
          rw [d8] at e24
          clear d8
          clear hev hev0 hd
          go_wp2
          exact StepQ.mk _ (Below.refl _ _) rfl
        · intro xx af wv hbx hev hev0 hd
          have e0 : af.tmps[0]?.getD undef = .slice (some ⟨b, o, none⟩) ts.length c := hev0 0 rfl
          clear hev hev0 hd
          go_wp2
          exact StepQ.mk _ (Below.refl _ _) rfl
        · intro xx af wv hbx hev hev0 hd
          have e5 : af.tmps[5]?.getD undef = .int .i64 (k : Nat) := hev0 5 rfl
          clear hev hev0 hd
          go_wp2
          exact StepQ.mk _ (Below.refl _ _) rfl
        · intro xx af wv hbx hev hev0 hd
          have e26 := hev 10 _ 26 rfl rfl
          have d10 : xx 10 = .slice (some ⟨b, o, none⟩) ts.length c := hd ⟨10, .data⟩ (by simp) rfl
          rw [d10] at e26
          clear d10
          have e27 := hev 11 _ 27 rfl rfl
          have d11 : xx 11 = .int .i64 (k : Nat) := hd ⟨11, .data⟩ (by simp) rfl
          rw [d11] at e27
          clear d11
          clear hev hev0 hd
          go_wp2
          exact StepQ.mk _ (Below.refl _ _) rfl
        · intro xx af wv hbx hev hev0 hd
          have e28 := hev 12 _ 28 rfl rfl
          have d12 : xx 12 = .pointer (some ⟨b, o + k * 2, none⟩) := hd ⟨12, .data⟩ (by simp) rfl
          rw [d12] at e28
          clear d12
          clear hev hev0 hd
          go_wp2
          exact StepQ.mk _ (Below.refl _ _) rfl
        · intro xx af wv hbx hev hev0 hd
          have e29 := hev 13 _ 29 rfl rfl
          have d13 : xx 13 = .pointer (some ⟨b, o + k * 2 + 1, none⟩) := hd ⟨13, .data⟩ (by simp) rfl
          rw [d13] at e29
          clear d13
          clear hev hev0 hd
          have hs1 := Lib.hid (HS.out.call hbx)
          have y0 := HX.out _ hs1.out.below 1 _ rfl
          go_wp2
          exact StepQ.mk _ (Below.refl _ _) rfl
        · intro xx af wv hbx hev hev0 hd
          have e30 := hev 14 _ 30 rfl rfl
          have d14 : xx 14 = .int .u16 (t.b : Nat) := hd ⟨14, .data⟩ (by simp) rfl
          rw [d14] at e30
          clear d14
          clear hev hev0 hd
          go_wp2
          exact StepQ.mk _ (Below.refl _ _) rfl
        · intro xx af wv hbx hev hev0 hd
          have e31 := hev 15 _ 31 rfl rfl
          have d15 : xx 15 = .int .u16 ((t.b : Int) % 12) := hd ⟨15, .data⟩ (by simp) rfl
          rw [d15] at e31
          clear d15
          clear hev hev0 hd
          go_wp2
          exact StepQ.mk _ (Below.refl _ _) rfl
        · intro xx af wv hbx hev hev0 hd
          have e32 := hev 16 _ 32 rfl rfl
          have d16 : xx 16 = .int .i64 ((t.b : Int) % 12) := hd ⟨16, .data⟩ (by simp) rfl
          rw [d16] at e32
          clear d16
          clear hev hev0 hd
          go_wp2_with fail
          refine (HR.out _).mono ?_
          rintro e w8 ⟨rfl, hb8⟩
          go_wp2
          exact StepQ.mk _ hb8 rfl
        · intro xx af wv hbx hev hev0 hd
          have e25 := hev 9 _ 25 rfl rfl
          have d9 : xx 9 = .int .i64 ((dn : Int) + (t.a : Int) % 60) := hd ⟨9, .data⟩ (by simp) rfl
          rw [d9] at e25
          clear d9
          have e33 := hev 17 _ 33 rfl rfl
          have d17 : xx 17 = .agg #[.bool (negB (r)), .string (bs (numB (r))), .string (bs (denomB (r)))] := hd ⟨17, .data⟩ (by simp) rfl
          rw [d17] at e33
          clear d17
          clear hev hev0 hd
          go_wp2
          exact StepQ.mk _ (Below.refl _ _) rfl
        · intro xx af wv hbx hev hev0 hd
          have e34 := hev 18 _ 34 rfl rfl
          have d18 : xx 18 = .agg #[.int .i64 ((dn : Int) + (t.a : Int) % 60), .bool (negB (r)), .string (bs (numB (r))), .string (bs (denomB (r)))] := hd ⟨18, .data⟩ (by simp) rfl
          rw [d18] at e34
          clear d18
          clear hev hev0 hd
          go_wp2
          exact StepQ.mk _ (Ext.alloc (Below.refl _ _) _) ⟨_, rfl, hbx.size, Blk.new _ _ _⟩
        intro xx w2 hb9 hv
        have hv0 : xx 0 = u3 := hv 0 (by decide)
        have hv1 : xx 1 = .int .i64 (dn : Nat) := hv 1 (by decide)
        have hv2 : xx 2 = .slice (some ⟨b, o, none⟩) ts.length c := hv 2 (by decide)
        have hv3 : xx 3 = .int .i64 (k : Nat) := hv 3 (by decide)
        have hv4 : xx 4 = .pointer (some ⟨b, o + k * 2, none⟩) := hv 4 (by decide)
        have hv5 : xx 5 = .pointer (some ⟨b, o + k * 2, none⟩) := hv 5 (by decide)
        have hv6 : xx 6 = .int .u16 (t.a : Nat) := hv 6 (by decide)
        have hv7 : xx 7 = .int .u16 ((t.a : Int) % 60) := hv 7 (by decide)
        have hv8 : xx 8 = .int .i64 ((t.a : Int) % 60) := hv 8 (by decide)
        have hv9 : xx 9 = .int .i64 ((dn : Int) + (t.a : Int) % 60) := hv 9 (by decide)
        have hv10 : xx 10 = .slice (some ⟨b, o, none⟩) ts.length c := hv 10 (by decide)
        have hv11 : xx 11 = .int .i64 (k : Nat) := hv 11 (by decide)
        have hv12 : xx 12 = .pointer (some ⟨b, o + k * 2, none⟩) := hv 12 (by decide)
        have hv13 : xx 13 = .pointer (some ⟨b, o + k * 2 + 1, none⟩) := hv 13 (by decide)
        have hv14 : xx 14 = .int .u16 (t.b : Nat) := hv 14 (by decide)
        have hv15 : xx 15 = .int .u16 ((t.b : Int) % 12) := hv 15 (by decide)
        have hv16 : xx 16 = .int .i64 ((t.b : Int) % 12) := hv 16 (by decide)
        have hv17 : xx 17 = .agg #[.bool (negB (r)), .string (bs (numB (r))), .string (bs (denomB (r)))] := hv 17 (by decide)
        have hv18 : xx 18 = .agg #[.int .i64 ((dn : Int) + (t.a : Int) % 60), .bool (negB (r)), .string (bs (numB (r))), .string (bs (denomB (r)))] := hv 18 (by decide)
        obtain ⟨g2, hv19, hlg19, hB19⟩ := hv 19 (by decide)
        clear hv
        simp only [List.take, List.drop, fillA, Act.put]
        simp only [hv0, hv1, hv2, hv3, hv4, hv5, hv6, hv7, hv8, hv9, hv10, hv11, hv12, hv13, hv14, hv15, hv16, hv17, hv18, hv19]
        clear hv0 hv1 hv2 hv3 hv4 hv5 hv6 hv7 hv8 hv9 hv10 hv11 hv12 hv13 hv14 hv15 hv16 hv17 hv18 hv19
        have HS2 := Lib.hid (HS.out.fill hb9 hlg19 hB19)
        clear hlg19 hB19
        have HG_2 := Lib.hid (HG.out.below hb9)
        clear HG
        clear hb9 HS
        simp only [List.setIfInBounds_toArray, List.set_cons_zero, List.set_cons_succ]
        have hsz := HS2.out.below.size
        have HB9 := Lib.hid HS2.out.below
        have hblk := HS2.out.blk 0 rfl
        have hgr : World.ownsRow w2 w.heap.size 29 4 u3 k (flat Stp.enc out) := HG_2.out
        go_wp2_with (at_builtin; refine wpList_push_at _ rfl _ _ 24 rfl w.heap.size 29 i0 _ 4 48 Tryz.underlying24 HI.out hz0 hz1 hz2 rfl (by decide) stp_len u3 k out (by simp [Act.eval]) hgr (duoS dn t) g2 _ hblk ?c1 (by simp [Act.eval]) (stp_cells _) (by unfold maxLen; omega) (by omega) hsz ?_)
        case c1 => exact henc.out.symm
        intro v2 w2 hown2 hb2
        obtain ⟨g2, cap, rfl, _, _⟩ := hown2.form (by omega)
        have HG2 : Hid (Grows w2 w.heap.size 29 4 (.slice (some ⟨g2, 0, none⟩) (k + 1) cap) (k + 1) (flat Stp.enc (out ++ [duoS dn t]))) := hown2
        have hc2 := (Slc.of_own stp_len hown2 (by rw [List.length_append, hln]; rfl)).cellAt (j := k) (x := duoS dn t) (by rw [List.getElem?_append_right (by omega), hln]; simp) (Below.refl _ w2) (i := 0) (u := .int .i64 ((dn + t.a % 60 : Nat) : Int)) rfl
        have hc3 : w2.cell? ⟨g2, k * 4, none⟩ = some (.int .i64 ((dn : Int) + (t.a : Int) % 60)) := by rw [Nat.zero_add, Nat.add_zero, Int.natCast_add, Int.natCast_emod] at hc2; exact hc2
        have HS9 := Lib.hid (St.of (HB9.out.trans hb2))
        have HHF := Lib.hid HFT.out
        clear hc2 hown2 hblk hgr hb2 HS2 HG_2 HFT
        have f1 : ((k : Nat) : Int) < ((k : Nat) : Int) + 1 := by omega
        go_wp2
        go_roundw
        case rel => exact ⟨k + 1, by omega, by omega, by go_num, by rw [HHF.out]; show _ = Value.int .i64 ((dn + t.a % 60 + 1 : Nat) : Int); rw [Int.natCast_add, Int.natCast_add, Int.natCast_emod]; rfl, by show Grows _ _ _ _ _ _ _; rw [HHF.out]; exact HG2.out, HS9.out⟩
        case measure => simp [intOf]; omega
      · obtain rfl : k = 5 := by omega
        have e9 : decide ((5 : Int) < (ts.length : Int)) = true := decide_eq_true (by omega)
        go_wp2
        go_ret
        exact ⟨_, rfl, Slc.of_own stp_len HG.out hln, HS.out.below⟩
    · obtain rfl : k = ts.length := by omega
      go_wp2
      go_ret
      have hst : stepsOf ts = (stepsFold (ts.take ts.length)).1 := by unfold stepsOf; rw [List.take_length, List.take_of_length_le hk5]
      rw [hst]
      exact ⟨_, rfl, Slc.of_own stp_len HG.out hln, HS.out.below⟩
end Go.Proofs.YtakoagjpmdcddaaGreatDoor
