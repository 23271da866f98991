/-
The laws' example (printed by gen_pln12.py).
-/
import Derived.Test.YtcllocdhbicpkaaGreatDoorPlsB
import Derived.Test.YtcllocdhbicpkaaGreatDoorPlnX
import Derived.Test.YtcllocdhbicpkaaGreatDoorW0
namespace Go.Proofs.YtcllocdhbicpkaaGreatDoor
open Go.RowKit

theorem enc_int {n : Nat} (h : n < 256) (h0 : n ≠ 0) : rat ((n : Nat) : Rat) = raw false [UInt8.ofNat n] [] := by
 unfold rat numB denomB denB
 rw [show ((n : Nat) : Rat).num.natAbs = n by rw [Rat.num_natCast]; rfl, show ((n : Nat) : Rat).den = 1 from Rat.den_natCast n, bytesOf_small h h0, if_pos rfl]
 have : negB ((n : Nat) : Rat) = false := by
  unfold negB
  refine decide_eq_false ?_
  have : (0 : Rat) ≤ ((n : Nat) : Rat) := by rw [← Rat.num_nonneg, Rat.num_natCast]; omega
  grind
 rw [this]
theorem enc_1_2 : rat (mkRat 1 2) = raw false [1] [2] := enc_small (by decide +kernel) (n := 1) (d := 2) (by decide +kernel) (by decide +kernel) (by decide) (by decide) (by decide) (by decide)
theorem enc_9_10 : rat (mkRat 9 10) = raw false [9] [10] := enc_small (by decide +kernel) (n := 9) (d := 10) (by decide +kernel) (by decide +kernel) (by decide) (by decide) (by decide) (by decide)
def awakeL : List Blc := [⟨1, false, [100], [], false, [], [], false, [1], [2], true⟩, ⟨2, false, [100], [], false, [], [], false, [9], [10], true⟩]
def awakeR : List Rtr := [⟨false, [1], [2]⟩, ⟨false, [1], [2]⟩]
theorem awakeL_small : SmallBl 1000 awakeL := by
 intro b hb
 unfold awakeL at hb
 simp only [List.mem_cons, List.mem_nil_iff, or_false] at hb
 unfold Blc.small
 rcases hb with rfl | rfl <;> simp
theorem awake_search : searchR (decR false [100] []) awakeL = ([mkRat 1 2, mkRat 1 2], true, 0) := by decide +kernel
theorem awake_rates : ([mkRat 1 2, mkRat 1 2] : List Rat).map rtrOf = awakeR := by
 have h : rtrOf (mkRat 1 2) = ⟨false, [1], [2]⟩ := by
  unfold rtrOf
  rw [show negB (mkRat 1 2) = false by decide +kernel, show numB (mkRat 1 2) = [1] by decide +kernel, show denomB (mkRat 1 2) = [2] by decide +kernel]
 rw [List.map_cons, List.map_cons, List.map_nil, h]; rfl
/-- The program's Search, the result as a slice. -/
theorem plan_SearchS (vn : Bool) (va vb : List UInt8) (v : Value) (l : List Blc) (w : World) (h : BlocsL w v l) (hok : SmallBl 1000 l) (lva : va.length ≤ 1000) (lvb : vb.length ≤ 1000) :
  Calls Tryz.prog 21 #[.agg #[.bool vn, .string (bs va), .string (bs vb), v]] w fun e w' => ∃ A c, e = .returned (.tuple #[.slice A (searchR (decR vn va vb) l).1.length c, .bool (searchR (decR vn va vb) l).2.1, .int .i64 (searchR (decR vn va vb) l).2.2]) ∧ RatsL w' (.slice A (searchR (decR vn va vb) l).1.length c) ((searchR (decR vn va vb) l).1.map rtrOf) ∧ Below w.heap.size w w' :=
 (plan_Search vn va vb v l w h hok lva lvb).mono fun e w' ⟨rv, he, hr, hb⟩ => by
  obtain ⟨A, c, hv, _, _⟩ := hr.slice
  rw [List.length_map] at hv
  subst hv
  exact ⟨A, c, he, hr, hb⟩

set_option maxRecDepth 100000 in
set_option maxHeartbeats 2000000 in
theorem law32_awake (w : World) : Calls Tryz.prog 11 #[] w fun e w' => e = .returned (.bool true) ∧ Below w.heap.size w w' := by
 have w1 := fun W => law0_Whole 100 W (by decide) (by decide)
 rw [show ((100 : Int) : Rat) = ((100 : Nat) : Rat) from rfl, enc_int (by decide) (by decide)] at w1
 have r1 := fun W => law0_Ratio 1 2 W (by decide) (by decide) (by decide) (by decide)
 have r2 := fun W => law0_Ratio 9 10 W (by decide) (by decide) (by decide) (by decide)
 rw [show (2 : Int).toNat = 2 from rfl, enc_1_2] at r1
 rw [show (10 : Int).toNat = 10 from rfl, enc_9_10] at r2
 have t1 := fun (v : Value) W (h : BlocsL W v awakeL) => plan_SearchS false [100] [] v awakeL W h awakeL_small (by decide) (by decide)
 rw [awake_search] at t1
 dsimp only at t1
 rw [awake_rates] at t1
 rw [show ([mkRat 1 2, mkRat 1 2] : List Rat).length = 2 from rfl] at t1
 have q1 := fun W => rat_eql false false [1] [1] [2] [2] (by decide) (by decide) (by decide) (by decide) true (by simp) W
 unfold raw at *
 have W1 := Lib.hid w1
 have R1 := Lib.hid r1
 have R2 := Lib.hid r2
 have T1 := Lib.hid t1
 have Q1 := Lib.hid q1
 clear w1 r1 r2 t1 q1
 go_enter Tryz.func11, Tryz.ntmps11
 have HS := Lib.hid (St.start w)
 go_wp2_with fail
 refine (W1.out _).mono ?_
 rintro e w2 ⟨rfl, hb2⟩
 have HS2 := Lib.hid (HS.out.call hb2)
 clear hb2 HS
 go_wp2
 refine wp_st (R := [⟨w2.heap.size, #[.bool false, .string (bs [100]), .string (bs [])], 25⟩]) (St.alloc (HS2.out) #[.bool false, .string (bs [100]), .string (bs [])] 25 (w2.heap.size) (by simp)) ?_
 intro wg3 hb
 have HS3 := Lib.hid hb
 clear hb HS2
 refine wp_region_facts 10 [eQ (.agg #[.bool false, .string (bs [100]), .string (bs [])]), eQ (.agg #[.bool false, .string (bs [100]), .string (bs [])]), eQ (.agg #[.bool false, .string (bs [1]), .string (bs [2])]), eQ (.agg #[.int .i64 1, .bool false, .string (bs [100]), .string (bs []), .bool false, .string (bs []), .string (bs []), .bool false, .string (bs [1]), .string (bs [2]), .bool true]), eQ (.agg #[.bool false, .string (bs [100]), .string (bs [])]), eQ (.agg #[.bool false, .string (bs [9]), .string (bs [10])]), eQ (.agg #[.int .i64 2, .bool false, .string (bs [100]), .string (bs []), .bool false, .string (bs []), .string (bs []), .bool false, .string (bs [9]), .string (bs [10]), .bool true]), fun ww vv => ∃ g, vv = .slice (some ⟨g, 0, none⟩) 2 2 ∧ wg3.heap.size ≤ g ∧ Blk ww g #[.int .i64 1, .bool false, .string (bs [100]), .string (bs []), .bool false, .string (bs []), .string (bs []), .bool false, .string (bs [1]), .string (bs [2]), .bool true, .int .i64 2, .bool false, .string (bs [100]), .string (bs []), .bool false, .string (bs []), .string (bs []), .bool false, .string (bs [9]), .string (bs [10]), .bool true] 59, fun ww vv => ∃ g, vv = .agg #[.bool false, .string (bs [100]), .string (bs []), .slice (some ⟨g, 0, none⟩) 2 2] ∧ wg3.heap.size ≤ g ∧ Blk ww g #[.int .i64 1, .bool false, .string (bs [100]), .string (bs []), .bool false, .string (bs []), .string (bs []), .bool false, .string (bs [1]), .string (bs [2]), .bool true, .int .i64 2, .bool false, .string (bs [100]), .string (bs []), .bool false, .string (bs []), .string (bs []), .bool false, .string (bs [9]), .string (bs [10]), .bool true] 59, fun ww vv => ∃ g, vv = .pointer (some ⟨g, 0, none⟩) ∧ wg3.heap.size ≤ g ∧ Blk ww g #[.bool false, .string (bs []), .string (bs []), .slice none 0 0] 28] rfl (by kernel_rfl) (by kernel_rfl) (by kernel_rfl) ⟨stE, stE, stE, stE, stE, stE, stE, fun _ _ _ ⟨g, e, hg, h⟩ hb => ⟨g, e, hg, h.below hb h.lt⟩, fun _ _ _ ⟨g, e, hg, h⟩ hb => ⟨g, e, hg, h.below hb h.lt⟩, fun _ _ _ ⟨g, e, hg, h⟩ hb => ⟨g, e, hg, h.below hb h.lt⟩, trivial⟩ ?_ ?_
 refine ⟨?_, ?_, ?_, ?_, ?_, ?_, ?_, ?_, ?_, ?_, trivial⟩
 ·intro xx af wv hbx hev hev0 hd; have e1 : af.tmps[1]?.getD undef = .pointer (some ⟨w2.heap.size, 0, none⟩) := hev0 1 rfl; clear hev hev0 hd; have hs1 := Lib.hid (HS3.out.call hbx); obtain ⟨y0, y1, y2⟩ := hs1.out.k0 0 rfl rfl rfl rfl; go_wp2; exact sQ rfl
 ·intro xx af wv hbx hev hev0 hd; have e1 : af.tmps[1]?.getD undef = .pointer (some ⟨w2.heap.size, 0, none⟩) := hev0 1 rfl; clear hev hev0 hd; have hs1 := Lib.hid (HS3.out.call hbx); obtain ⟨y0, y1, y2⟩ := hs1.out.k0 0 rfl rfl rfl rfl; go_wp2; exact sQ rfl
 ·intro xx af wv hbx hev hev0 hd
  clear hev hev0 hd
  go_wp2_with fail
  refine (R1.out _).mono ?_
  rintro e w8 ⟨rfl, hb8⟩
  go_wp2
  exact StepQ.mk _ hb8 rfl
 ·intro xx af wv hbx hev hev0 hd; have e8 := (hev 1 _ 8 rfl rfl).trans (hd ⟨1, .data⟩ (by simp) rfl); have e9 := (hev 2 _ 9 rfl rfl).trans (hd ⟨2, .data⟩ (by simp) rfl); clear hev hev0 hd; go_wp2; exact sQ rfl
 ·intro xx af wv hbx hev hev0 hd; have e1 : af.tmps[1]?.getD undef = .pointer (some ⟨w2.heap.size, 0, none⟩) := hev0 1 rfl; clear hev hev0 hd; have hs1 := Lib.hid (HS3.out.call hbx); obtain ⟨y0, y1, y2⟩ := hs1.out.k0 0 rfl rfl rfl rfl; go_wp2; exact sQ rfl
 ·intro xx af wv hbx hev hev0 hd
  clear hev hev0 hd
  go_wp2_with fail
  refine (R2.out _).mono ?_
  rintro e w8 ⟨rfl, hb8⟩
  go_wp2
  exact StepQ.mk _ hb8 rfl
 ·intro xx af wv hbx hev hev0 hd; have e11 := (hev 4 _ 11 rfl rfl).trans (hd ⟨4, .data⟩ (by simp) rfl); have e12 := (hev 5 _ 12 rfl rfl).trans (hd ⟨5, .data⟩ (by simp) rfl); clear hev hev0 hd; go_wp2; exact sQ rfl
 ·intro xx af wv hbx hev hev0 hd; have e10 := (hev 3 _ 10 rfl rfl).trans (hd ⟨3, .data⟩ (by simp) rfl); have e13 := (hev 6 _ 13 rfl rfl).trans (hd ⟨6, .data⟩ (by simp) rfl); clear hev hev0 hd; go_wp2; exact StepQ.mk _ (Ext.alloc (Below.refl _ _) _) ⟨_, rfl, hbx.size, Blk.new _ _ _⟩
 ·intro xx af wv hbx hev hev0 hd; have e7 := (hev 0 _ 7 rfl rfl).trans (hd ⟨0, .data⟩ (by simp) rfl); have e14 := hev 7 _ 14 rfl rfl; have d7 : ∃ g, (xx 7) = .slice (some ⟨g, 0, none⟩) 2 2 ∧ wg3.heap.size ≤ g ∧ Blk wv g #[.int .i64 1, .bool false, .string (bs [100]), .string (bs []), .bool false, .string (bs []), .string (bs []), .bool false, .string (bs [1]), .string (bs [2]), .bool true, .int .i64 2, .bool false, .string (bs [100]), .string (bs []), .bool false, .string (bs []), .string (bs []), .bool false, .string (bs [9]), .string (bs [10]), .bool true] 59 := hd ⟨7, .data⟩ (by simp) rfl; obtain ⟨g7, hx7, hg7, hB7⟩ := d7; rw [hx7] at e14; clear hev hev0 hd; go_wp2; exact StepQ.mk _ (Below.refl _ _) ⟨g7, rfl, hg7, hB7⟩
 ·intro xx af wv hbx hev hev0 hd; clear hev hev0 hd; go_wp2; exact StepQ.mk _ (Ext.alloc (Below.refl _ _) _) ⟨_, rfl, hbx.size, Blk.new _ _ _⟩
 intro xx w5 hb9 hv
 obtain ⟨g5_8, hv8, hlg8, hB8⟩ := hv 8 (by decide)
 obtain ⟨g5_9, hv9, hlg9, hB9⟩ := hv 9 (by decide)
 simp only [List.take, List.drop, fillA, Act.put]
 simp only [show xx 0 = _ from hv 0 (by decide), show xx 1 = _ from hv 1 (by decide), show xx 2 = _ from hv 2 (by decide), show xx 3 = _ from hv 3 (by decide), show xx 4 = _ from hv 4 (by decide), show xx 5 = _ from hv 5 (by decide), show xx 6 = _ from hv 6 (by decide), hv8, hv9]
 clear hv hv8 hv9
 have hne : g5_8 ≠ g5_9 := by
  intro e
  rw [e] at hB8
  have e2 := Option.some.inj (hB8.symm.trans hB9)
  simp at e2
 have HS5 := Lib.hid (HS3.out.fill2 hb9 hlg8 hB8 hlg9 hB9 hne)
 clear hlg8 hB8 hlg9 hB9 hne
 clear hb9 HS3
 obtain ⟨x1, x2, x3⟩ := HS5.out.k0 0 rfl rfl rfl rfl
 have x4 := HS5.out.cell 0 rfl 3 rfl
 obtain ⟨x5, x6, x7⟩ := HS5.out.f0 0 rfl
 have x8 := HS5.out.frozen 0 rfl 3
 have x9 := HS5.out.ne 0 1 rfl rfl (by decide)
 have x10 := HS5.out.ne 1 0 rfl rfl (by decide)
 have x11 := HS5.out.ne 0 2 rfl rfl (by decide)
 have x12 := HS5.out.ne 2 0 rfl rfl (by decide)
 go_wp2_with fail
 have HS6 : Hid (St w [⟨g5_9, #[.bool false, .string (bs [100]), .string (bs []), .slice (some ⟨g5_8, 0, none⟩) 2 2], 28⟩, ⟨g5_8, #[.int .i64 1, .bool false, .string (bs [100]), .string (bs []), .bool false, .string (bs []), .string (bs []), .bool false, .string (bs [1]), .string (bs [2]), .bool true, .int .i64 2, .bool false, .string (bs [100]), .string (bs []), .bool false, .string (bs []), .string (bs []), .bool false, .string (bs [9]), .string (bs [10]), .bool true], 59⟩, ⟨w2.heap.size, #[.bool false, .string (bs [100]), .string (bs [])], 25⟩] _) := Lib.hid (St.set ((St.set ((St.set ((St.set (HS5.out) 0 rfl 0 _)) 0 rfl 1 _)) 0 rfl 2 _)) 0 rfl 3 _)
 refine (T1.out _ _ (Slc.of_blk blc_len (HS6.out.blk 1 rfl) rfl rfl (by decide) (by decide))).mono ?_
 rintro e w7 ⟨A7, c7, rfl, hl7, hb7⟩
 have HS7 := Lib.hid (HS6.out.call hb7)
 have Q_7 := Lib.hid hl7
 clear hl7
 clear hb7 HS5 HS6
 clear x1 x2 x3 x4 x5 x6 x7 x8 x9 x10 x11 x12
 have HB0 := Lib.hid HS7.out.below
 clear HS7
 have HT7 := Lib.hid (St.start w7)
 have HZQ := Q_7.out
 have HZQ := Lib.hid HZQ
 clear Q_7
 obtain ⟨b, o, t0, hA, hbb, _, _⟩ := HZQ.out.at_ (j := 0) (by decide)
 subst hA
 have HX : Hid (∀ w', Below w7.heap.size w7 w' → ∀ i u, (⟨false, [1], [2]⟩ : Rtr).enc[i]? = some u → w'.cell? ⟨b, o + i, none⟩ = some u) := fun w' hw i u hu => by
  have := HZQ.out.cellAt (j := 0) (x := ⟨false, [1], [2]⟩) rfl hw hu
  rwa [Nat.zero_mul, Nat.add_zero] at this
 have HY : Hid (∀ w', Below w7.heap.size w7 w' → ∀ i u, (⟨false, [1], [2]⟩ : Rtr).enc[i]? = some u → w'.cell? ⟨b, o + 3 + i, none⟩ = some u) := fun w' hw i u hu => HZQ.out.cellAt (j := 1) (x := ⟨false, [1], [2]⟩) rfl hw hu
 go_wp2
 refine wp_region_eq 24 [.int .i64 0, .bool true, .bool true, .bool true, .bool true, .bool true, .slice (some ⟨b, o, none⟩) 2 c7, .int .i64 2, .bool true, .bool true, .bool true, .slice (some ⟨b, o, none⟩) 2 c7, .pointer (some ⟨b, o, none⟩), .agg #[.bool false, .string (bs [1]), .string (bs [2])], .agg #[.bool false, .string (bs [1]), .string (bs [2])], .bool true, .bool true, .bool true, .slice (some ⟨b, o, none⟩) 2 c7, .pointer (some ⟨b, o + 3, none⟩), .agg #[.bool false, .string (bs [1]), .string (bs [2])], .agg #[.bool false, .string (bs [1]), .string (bs [2])], .bool true, .bool true] rfl (by kernel_rfl) (by kernel_rfl) (by kernel_rfl) ?_ ?_
 refine ⟨?_, ?_, ?_, ?_, ?_, ?_, ?_, ?_, ?_, ?_, ?_, ?_, ?_, ?_, ?_, ?_, ?_, ?_, ?_, ?_, ?_, ?_, ?_, ?_, trivial⟩
 ·intro xx af wv hbx hev hev0 hd; have e5 : af.tmps[5]?.getD undef = .int .i64 0 := hev0 5 rfl; clear hev hev0 hd; go_wp2; exact sQ rfl
 ·intro xx af wv hbx hev hev0 hd; have e22 := (hev 0 _ 22 rfl rfl).trans (hd ⟨0, .data⟩ (by simp) rfl); clear hev hev0 hd; go_wp2; exact sQ rfl
 ·intro xx af wv hbx hev hev0 hd; have e23 := (hev 1 _ 23 rfl rfl).trans (hd ⟨1, .data⟩ (by simp) rfl); clear hev hev0 hd; go_wp2; exact sQ rfl
 ·intro xx af wv hbx hev hev0 hd; have e24 := (hev 2 _ 24 rfl rfl).trans (hd ⟨2, .guard⟩ (by simp) rfl); have e4 : af.tmps[4]?.getD undef = .bool true := hev0 4 rfl; have q24 := getD_bool e24; clear hev hev0 hd; go_wp2; exact sQ rfl
 ·intro xx af wv hbx hev hev0 hd; have e24 := (hev 2 _ 24 rfl rfl).trans (hd ⟨2, .data⟩ (by simp) rfl); have e25 := (hev 3 _ 25 rfl rfl).trans (hd ⟨3, .data⟩ (by simp) rfl); clear hev hev0 hd; go_wp2; exact sQ rfl
 ·intro xx af wv hbx hev hev0 hd; have e26 := (hev 4 _ 26 rfl rfl).trans (hd ⟨4, .data⟩ (by simp) rfl); clear hev hev0 hd; go_wp2; exact sQ rfl
 ·intro xx af wv hbx hev hev0 hd; have e27 := (hev 5 _ 27 rfl rfl).trans (hd ⟨5, .guard⟩ (by simp) rfl); have e3 : af.tmps[3]?.getD undef = .slice (some ⟨b, o, none⟩) 2 c7 := hev0 3 rfl; have q27 := getD_bool e27; clear hev hev0 hd; go_wp2; exact sQ rfl
 ·intro xx af wv hbx hev hev0 hd; have e27 := (hev 5 _ 27 rfl rfl).trans (hd ⟨5, .guard⟩ (by simp) rfl); have e28 := (hev 6 _ 28 rfl rfl).trans (hd ⟨6, .data⟩ (by simp) rfl); have q27 := getD_bool e27; clear hev hev0 hd; go_wp2; exact sQ rfl
 ·intro xx af wv hbx hev hev0 hd; have e27 := (hev 5 _ 27 rfl rfl).trans (hd ⟨5, .guard⟩ (by simp) rfl); have e29 := (hev 7 _ 29 rfl rfl).trans (hd ⟨7, .data⟩ (by simp) rfl); have q27 := getD_bool e27; clear hev hev0 hd; go_wp2; exact sQ rfl
 ·intro xx af wv hbx hev hev0 hd; have e27 := (hev 5 _ 27 rfl rfl).trans (hd ⟨5, .data⟩ (by simp) rfl); have e30 := (hev 8 _ 30 rfl rfl).trans (hd ⟨8, .data⟩ (by simp) rfl); clear hev hev0 hd; go_wp2; exact sQ rfl
 ·intro xx af wv hbx hev hev0 hd; have e31 := (hev 9 _ 31 rfl rfl).trans (hd ⟨9, .data⟩ (by simp) rfl); clear hev hev0 hd; go_wp2; exact sQ rfl
 ·intro xx af wv hbx hev hev0 hd; have e32 := (hev 10 _ 32 rfl rfl).trans (hd ⟨10, .guard⟩ (by simp) rfl); have e3 : af.tmps[3]?.getD undef = .slice (some ⟨b, o, none⟩) 2 c7 := hev0 3 rfl; have q32 := getD_bool e32; clear hev hev0 hd; go_wp2; exact sQ rfl
 ·intro xx af wv hbx hev hev0 hd; have e32 := (hev 10 _ 32 rfl rfl).trans (hd ⟨10, .guard⟩ (by simp) rfl); have e33 := (hev 11 _ 33 rfl rfl).trans (hd ⟨11, .data⟩ (by simp) rfl); have q32 := getD_bool e32; clear hev hev0 hd; go_wp2; exact sQ rfl
 ·intro xx af wv hbx hev hev0 hd; have e32 := (hev 10 _ 32 rfl rfl).trans (hd ⟨10, .guard⟩ (by simp) rfl); have e34 := (hev 12 _ 34 rfl rfl).trans (hd ⟨12, .data⟩ (by simp) rfl); have q32 := getD_bool e32; clear hev hev0 hd; have hs1 := Lib.hid (HT7.out.call hbx); obtain ⟨y0, y1, y2⟩ := kE0 (HX.out _ hs1.out.below) rfl rfl rfl; go_wp2; exact sQ rfl
 ·intro xx af wv hbx hev hev0 hd
  have e32 := (hev 10 _ 32 rfl rfl).trans (hd ⟨10, .chain⟩ (by simp) rfl)
  have q32 := getD_bool e32
  clear hev hev0 hd
  go_wp2_with fail
  refine (R1.out _).mono ?_
  rintro e w8 ⟨rfl, hb8⟩
  go_wp2
  exact StepQ.mk _ hb8 rfl
 ·intro xx af wv hbx hev hev0 hd; have e32 := (hev 10 _ 32 rfl rfl).trans (hd ⟨10, .guard⟩ (by simp) rfl); have e35 := (hev 13 _ 35 rfl rfl).trans (hd ⟨13, .data⟩ (by simp) rfl); have e36 := (hev 14 _ 36 rfl rfl).trans (hd ⟨14, .data⟩ (by simp) rfl); have q32 := getD_bool e32; clear hev hev0 hd; have en := Q1.out; go_wp2; exact sQ rfl
 ·intro xx af wv hbx hev hev0 hd; have e32 := (hev 10 _ 32 rfl rfl).trans (hd ⟨10, .data⟩ (by simp) rfl); have e37 := (hev 15 _ 37 rfl rfl).trans (hd ⟨15, .data⟩ (by simp) rfl); clear hev hev0 hd; go_wp2; exact sQ rfl
 ·intro xx af wv hbx hev hev0 hd; have e38 := (hev 16 _ 38 rfl rfl).trans (hd ⟨16, .data⟩ (by simp) rfl); clear hev hev0 hd; go_wp2; exact sQ rfl
 ·intro xx af wv hbx hev hev0 hd; have e39 := (hev 17 _ 39 rfl rfl).trans (hd ⟨17, .guard⟩ (by simp) rfl); have e3 : af.tmps[3]?.getD undef = .slice (some ⟨b, o, none⟩) 2 c7 := hev0 3 rfl; have q39 := getD_bool e39; clear hev hev0 hd; go_wp2; exact sQ rfl
 ·intro xx af wv hbx hev hev0 hd; have e39 := (hev 17 _ 39 rfl rfl).trans (hd ⟨17, .guard⟩ (by simp) rfl); have e40 := (hev 18 _ 40 rfl rfl).trans (hd ⟨18, .data⟩ (by simp) rfl); have q39 := getD_bool e39; clear hev hev0 hd; go_wp2; exact sQ rfl
 ·intro xx af wv hbx hev hev0 hd; have e39 := (hev 17 _ 39 rfl rfl).trans (hd ⟨17, .guard⟩ (by simp) rfl); have e41 := (hev 19 _ 41 rfl rfl).trans (hd ⟨19, .data⟩ (by simp) rfl); have q39 := getD_bool e39; clear hev hev0 hd; have hs1 := Lib.hid (HT7.out.call hbx); obtain ⟨y0, y1, y2⟩ := kE0 (HY.out _ hs1.out.below) rfl rfl rfl; go_wp2; exact sQ rfl
 ·intro xx af wv hbx hev hev0 hd
  have e39 := (hev 17 _ 39 rfl rfl).trans (hd ⟨17, .chain⟩ (by simp) rfl)
  have q39 := getD_bool e39
  clear hev hev0 hd
  go_wp2_with fail
  refine (R1.out _).mono ?_
  rintro e w8 ⟨rfl, hb8⟩
  go_wp2
  exact StepQ.mk _ hb8 rfl
 ·intro xx af wv hbx hev hev0 hd; have e39 := (hev 17 _ 39 rfl rfl).trans (hd ⟨17, .guard⟩ (by simp) rfl); have e42 := (hev 20 _ 42 rfl rfl).trans (hd ⟨20, .data⟩ (by simp) rfl); have e43 := (hev 21 _ 43 rfl rfl).trans (hd ⟨21, .data⟩ (by simp) rfl); have q39 := getD_bool e39; clear hev hev0 hd; have en := Q1.out; go_wp2; exact sQ rfl
 ·intro xx af wv hbx hev hev0 hd; have e39 := (hev 17 _ 39 rfl rfl).trans (hd ⟨17, .data⟩ (by simp) rfl); have e44 := (hev 22 _ 44 rfl rfl).trans (hd ⟨22, .data⟩ (by simp) rfl); clear hev hev0 hd; go_wp2; exact sQ rfl
 intro xx w8 hb9 hv
 simp only [List.take, List.drop, fillA, Act.put]
 simp only [show xx 0 = _ from hv 0 (by decide), show xx 1 = _ from hv 1 (by decide), show xx 2 = _ from hv 2 (by decide), show xx 3 = _ from hv 3 (by decide), show xx 4 = _ from hv 4 (by decide), show xx 5 = _ from hv 5 (by decide), show xx 6 = _ from hv 6 (by decide), show xx 7 = _ from hv 7 (by decide), show xx 8 = _ from hv 8 (by decide), show xx 9 = _ from hv 9 (by decide), show xx 10 = _ from hv 10 (by decide), show xx 11 = _ from hv 11 (by decide), show xx 12 = _ from hv 12 (by decide), show xx 13 = _ from hv 13 (by decide), show xx 14 = _ from hv 14 (by decide), show xx 15 = _ from hv 15 (by decide), show xx 16 = _ from hv 16 (by decide), show xx 17 = _ from hv 17 (by decide), show xx 18 = _ from hv 18 (by decide), show xx 19 = _ from hv 19 (by decide), show xx 20 = _ from hv 20 (by decide), show xx 21 = _ from hv 21 (by decide), show xx 22 = _ from hv 22 (by decide), show xx 23 = _ from hv 23 (by decide)]
 clear hv
 have HT8 := Lib.hid (HT7.out.call hb9)
 clear hb9 HT7
 go_wp2
 go_ret
 have HT9 := Lib.hid HT8.out
 exact ⟨rfl, Ext.trans HB0.out HT9.out.below⟩
end Go.Proofs.YtcllocdhbicpkaaGreatDoor
