/-
Part 35 of the base.
-/
import Derived.Test.YtgdhpghfojccaaaGreatDoorRd33
import Derived.Test.YtgdhpghfojccaaaGreatDoorRd34
set_option maxRecDepth 100000
set_option maxHeartbeats 4000000
namespace Go.Proofs.YtgdhpghfojccaaaGreatDoor
open Go.RowKit
theorem a4y : (Tryz.prog.info? 61).map (·.size) = some 8 := by kernel_rfl
theorem a7n (r : CRow) (h : r.v.oneCell' = true) : ∀ u ∈ r.enc, u.oneCell' = true := by
 intro u hu
 unfold CRow.enc at hu
 simp only [List.mem_cons, List.mem_nil_iff, or_false] at hu
 rcases hu with rfl | rfl | rfl | rfl | rfl | rfl | rfl | rfl <;> first | rfl | exact h
def ClsO (w : World) (base : Nat) (v : Value) (l : List Cls) : Prop := ∃ rs : List CRow, World.ownsRow w base 61 8 v rs.length (flat CRow.enc rs) /\ rs.map (·.c) = l /\ ∀ r ∈ rs, World.ownsRow w base 9 1 r.v r.c.list.length (flat strE r.c.list)
section
variable {w w' : World} {base : Nat} {v : Value} {l : List Cls}
theorem ClsO.nil (w : World) (base : Nat) : ClsO w base (.slice none 0 0) [] := ⟨[], World.ownsRow_nil _ _ _ _, rfl, fun r hr => by cases hr⟩
theorem ClsO.below (h : ClsO w base v l) (hb : Below w.heap.size w w') : ClsO w' base v l := by
 obtain ⟨rs, h1, h2, h3⟩ := h
 exact ⟨rs, Grows.below h1 hb, h2, fun r hr => Grows.below (h3 r hr) hb⟩
theorem ClsO.toL (h : ClsO w base v l) : ClsL w v l := by
 obtain ⟨rs, h1, h2, h3⟩ := h
 exact ⟨rs, Slc.of_own a5y h1 rfl, h2, fun r hr => Slc.of_own a2k (h3 r hr) rfl⟩
theorem ClsO.push {u v' : Value} {c : Cls} {rs : List CRow} (hm : rs.map (·.c) = l) (h1 : World.ownsRow w base 61 8 v rs.length (flat CRow.enc rs)) (h3 : ∀ r ∈ rs, World.ownsRow w base 9 1 r.v r.c.list.length (flat strE r.c.list))
  (hu : World.ownsRow w base 9 1 u c.list.length (flat strE c.list)) (ho : World.ownsRow w' base 61 8 v' (rs.length + 1) (flat CRow.enc (rs ++ [⟨c, u⟩]))) (hg : w.grownBy w' v.ownBlock) : ClsO w' base v' (l ++ [c]) := by
 refine ⟨rs ++ [⟨c, u⟩], by rw [List.length_append]; exact ho, by rw [List.map_append, hm]; rfl, fun r hr => ?_⟩
 rcases List.mem_append.1 hr with hr | hr
 ·exact a2w (h3 r hr) hg (a3g h1 (by decide))
 rw [List.mem_singleton.1 hr]
 exact a2w hu hg (a3g h1 (by decide))
end
theorem clsN0 {x : Qua} (h : x.a % 4 = 0) : clsN x = ⟨1, nmZ (6 + x.b % 3), [], a8d x (1 + x.d % 3), zero3, 0⟩ := by unfold clsN; rw [if_pos h]
theorem clsN1 {x : Qua} (h : x.a % 4 = 1) : clsN x = ⟨2, nmZ (x.b % 9), nmZ (x.c % 9), [], zero3, 0⟩ := by unfold clsN; rw [if_neg (by omega), if_pos h]
theorem clsN2 {x : Qua} (h : x.a % 4 = 2) : clsN x = ⟨3, nmZ (x.b % 6), [], [], enc3 (a2q x.c), 0⟩ := by unfold clsN; rw [if_neg (by omega), if_neg (by omega), if_pos h]
theorem clsN3 {x : Qua} (h : x.a % 4 = 3) : clsN x = ⟨4, nmZ (x.b % 9), [], [], zero3, 0⟩ := by unfold clsN; rw [if_neg (by omega), if_neg (by omega), if_neg (by omega)]
def NamesAt (w : World) (g : Nat) : Prop := g < w.heap.size /\ ∀ W, Below w.heap.size w W -> ∀ k, k < 9 -> W.cell? ⟨g, k, none⟩ = some (.string (bs (nmZ k)))
theorem NamesAt.below {w w' : World} {g : Nat} (h : NamesAt w g) (hb : Below w.heap.size w w') : NamesAt w' g := ⟨Nat.lt_of_lt_of_le h.1 hb.size, fun W hW => h.2 W (hb.trans (hW.mono hb.size))⟩
theorem NamesAt.one {w : World} {g k : Nat} (h : NamesAt w g) (hk : k < 9) : ∀ W, Below w.heap.size w W -> ∀ (j : Nat) (v : Value), [Value.string (bs (nmZ k))][j]? = some v -> W.cell? ⟨g, k + j, none⟩ = some v := a3h fun W hW => h.2 W hW k hk
theorem b8h (v : Value) (xs : List Qua) (w : World) (h : Quas w v xs) (hok : ∀ t ∈ xs, t.ok) :
  Calls Tryz.prog 15 #[v] w fun e w' => ∃ v', e = .returned v' /\ ClsL w' v' (a2u xs) /\ Below w.heap.size w w' := by
 obtain ⟨ic, hic, hcz, hc1, hc8⟩ := c1q
 obtain ⟨is, his, hsz0, hs1, hs8⟩ := b5j
 have HC0 := zh hic
 have HCZ := zh hcz
 have HI0 := zh his
 have HIZ := zh hsz0
 have H := zh h
 have HOK := zh hok
 obtain ⟨A, c, rfl, hl, hc⟩ := h.slice
 clear h hok hic hcz his hsz0
 go_enter Tryz.func15, Tryz.ntmps15
 have HS := zh (St.start w)
 go_wp2
 refine b1p (aL HS #[.string (bs [97]), .string (bs [98]), .string (bs [99]), .string (bs [100]), .string (bs [101]), .string (bs [102]), .string (bs [112]), .string (bs [113]), .string (bs [114])] 9 w.heap.size).out ?_
 intro wn hb
 have HBN := zh hb.below
 have HSN := zh (St.start wn)
 have HNA : Hid (NamesAt wn w.heap.size) := zh ⟨(hb.blk 0 rfl).lt, fun W hW k hk => by have hh := fun (j : Nat) (u : Value) (hu : (#[Value.string (bs [97]), .string (bs [98]), .string (bs [99]), .string (bs [100]), .string (bs [101]), .string (bs [102]), .string (bs [112]), .string (bs [113]), .string (bs [114])] : Array Value)[j]? = some u) => ((hb.blk 0 rfl).below hW (hb.blk 0 rfl).lt).cell j u hu; refine hh k _ ?_; have hk9 : k = 0 \/ k = 1 \/ k = 2 \/ k = 3 \/ k = 4 \/ k = 5 \/ k = 6 \/ k = 7 \/ k = 8 := (by omega); rcases hk9 with rfl | rfl | rfl | rfl | rfl | rfl | rfl | rfl | rfl <;> rfl⟩
 have HNE : Hid (w.heap.size <= wn.heap.size) := zh hb.below.size
 clear hb HS
 obtain ⟨gn, hgn⟩ : ∃ gn, gn = w.heap.size := ⟨_, rfl⟩
 rw [<- hgn] at HNA ⊢
 clear hgn
 go_loopw [3, 5] (fun l i wr => ∃ k : Nat, k <= xs.length /\ k <= 10 /\ i = .int .i64 k /\ Hid (ClsO wr wn.heap.size l ((xs.take k).map clsN)) /\ Hid (St wn [] wr)) (fun _ i _ => xs.length - (intOf i).toNat)
 case atStart => exact ⟨0, Nat.zero_le _, Nat.zero_le _, rfl, ClsO.nil _ _, HSN.out⟩
 case round =>
  clear HSN
  obtain ⟨k, hk, hk10, rfl, HG, HS⟩ := hrel
  obtain ⟨wo, hwo⟩ : ∃ wo : World, wo = wr := ⟨_, rfl⟩
  subst hwo
  by_cases hlt : k < xs.length
  ·by_cases hlt10 : k < 10
   ·obtain ⟨b, o, x, rfl, hbb, ht, hx⟩ := H.out.at_ hlt
    obtain ⟨ok1, ok2, ok3, ok4⟩ := HOK.out x (List.mem_of_getElem? ht)
    have HFT := zh (b8s ht)
    have HX : Hid (∀ W, Below wo.heap.size wo W -> ∀ (i : Nat) (v : Value), x.enc[i]? = some v -> W.cell? ⟨b, o + k * 4 + i, none⟩ = some v) := zh (fun W hW => hx W (HBN.out.trans ((HS.out.below.trans (hW.mono HS.out.below.size)).mono HNE.out)))
    have HBL : Hid (b < wo.heap.size) := zh (Nat.lt_of_lt_of_le hbb (Nat.le_trans HNE.out HS.out.below.size))
    have HNO := zh (HNA.out.below HS.out.below)
    have HT := zh (St.start wo)
    have HKL : Hid ((List.map clsN (xs.take k)).length = k) := zh (by rw [List.length_map, List.length_take]; omega)
    unfold Qua.enc at HX
    clear ht hx hbb
    generalize (xs.take k).map clsN = out at *
    obtain ⟨r9, hr9⟩ : ∃ r : Nat, r = x.b % 9 := ⟨_, rfl⟩
    have hr9l : r9 < 9 := by omega
    have HB9 := zh (HNO.out.one hr9l)
    have b1 : Int.tmod (x.b : Int) 9 = (r9 : Int) := by rw [Int.tmod_eq_emod_of_nonneg (by omega)]; omega
    have b2 : IntKind.u16.wrap (r9 : Int) = (r9 : Int) := by rw [IntKind.wrap_u16]; omega
    have b3 : ((r9 : Nat) : Int) < 9 := by omega
    have b4 : (0 : Int) <= ((r9 : Nat) : Int) := by omega
    have i5 : IntKind.i64.wrap ((k : Int) + 1) = ((k + 1 : Nat) : Int) := by rw [IntWalk.i64_in _ (by omega)]; rfl
    have f6 : ((k : Nat) : Int) < (xs.length : Int) := by omega
    have f7 : (0 : Int) <= ((k : Nat) : Int) := by omega
    have f8 : decide (((k : Nat) : Int) < 10) = true := decide_eq_true (by omega)
    have f9 : decide (((k : Nat) : Int) < (xs.length : Int)) = true := decide_eq_true f6
    have HN9 : Hid (nmZ r9 = nmZ (x.b % 9)) := zh (by rw [hr9])
    clear hr9
    have hk4 : x.a % 4 = 0 \/ x.a % 4 = 1 \/ x.a % 4 = 2 \/ x.a % 4 = 3 := by omega
    rcases hk4 with h4 | h4 | h4 | h4
    ·have a1 : Int.tmod (x.a : Int) 4 = 0 := by rw [Int.tmod_eq_emod_of_nonneg (by omega)]; omega
     have HCN := zh (clsN0 h4)
     obtain ⟨p3, hp3⟩ : ∃ r : Nat, r = 6 + x.b % 3 := ⟨_, rfl⟩
     have hp3l : p3 < 9 := by omega
     have HB3 := zh (HNO.out.one hp3l)
     have c1 : Int.tmod (x.b : Int) 3 = (p3 : Int) - 6 := by rw [Int.tmod_eq_emod_of_nonneg (by omega)]; omega
     have c2 : IntKind.u16.wrap ((p3 : Int) - 6) = (p3 : Int) - 6 := by rw [IntKind.wrap_u16]; omega
     have c2' : (6 : Int) + ((p3 : Int) - 6) = (p3 : Int) := by omega
     have c3 : IntKind.u16.wrap (p3 : Int) = (p3 : Int) := by rw [IntKind.wrap_u16]; omega
     have c4 : ((p3 : Nat) : Int) < 9 := by omega
     have c5 : (0 : Int) <= ((p3 : Nat) : Int) := by omega
     obtain ⟨m3, hm3⟩ : ∃ r : Nat, r = 1 + x.d % 3 := ⟨_, rfl⟩
     have hm3l : m3 <= 3 := by omega
     have d1 : Int.tmod (x.d : Int) 3 = (m3 : Int) - 1 := by rw [Int.tmod_eq_emod_of_nonneg (by omega)]; omega
     have d2 : IntKind.u16.wrap ((m3 : Int) - 1) = (m3 : Int) - 1 := by rw [IntKind.wrap_u16]; omega
     have d3 : IntKind.i64.wrap ((m3 : Int) - 1) = (m3 : Int) - 1 := IntWalk.i64_in _ (by omega)
     have d4 : (1 : Int) + ((m3 : Int) - 1) = (m3 : Int) := by omega
     have d5 : IntKind.i64.wrap (m3 : Int) = (m3 : Int) := IntWalk.i64_in _ (by omega)
     rw [<- hp3, <- hm3] at HCN
     have HM3 := zh hm3l
     clear hp3 hm3 h4
     have x1 : b < wo.heap.size := Nat.lt_of_lt_of_le HBL.out HT.out.below.size
     have x2 : ¬ b = wo.heap.size := by omega
     obtain ⟨x3, x4, x5⟩ := kE0 (HX.out _ HT.out.below) rfl rfl rfl
     have x6 := HX.out _ HT.out.below 3 _ rfl
     go_wp2
     clear x1 x2 x3 x4 x5 x6
     refine b1p (aL HT #[.int .u16 (x.a : Nat), .int .u16 (x.b : Nat), .int .u16 (x.c : Nat), .int .u16 (x.d : Nat)] 95 wo.heap.size).out ?_
     intro wg2 hb
     have HT2 := zh hb
     clear hb HT
     refine a0e 13 [eQ (.pointer (some ⟨wo.heap.size, 0, none⟩)), eQ (.int .u16 (x.a : Nat)), eQ (.int .u16 0), eQ (.int .i64 0), eQ (.int .i64 1), eQ (.slice (some ⟨gn, 0, none⟩) 9 9), eQ (.pointer (some ⟨wo.heap.size, 1, none⟩)), eQ (.int .u16 (x.b : Nat)), eQ (.int .u16 (r9 : Nat)), eQ (.pointer (some ⟨gn, r9, none⟩)), eQ (.string (bs (nmZ r9))), eQ (.agg #[.int .i64 1, .string (bs (nmZ r9)), .string (bs []), .slice none 0 0, .bool false, .string (bs []), .string (bs []), .int .i64 0]), fun ww vv => ∃ g, vv = .pointer (some ⟨g, 0, none⟩) /\ wg2.heap.size <= g /\ Blk ww g #[.int .i64 0, .string (bs []), .string (bs []), .slice none 0 0, .bool false, .string (bs []), .string (bs []), .int .i64 0] 61] rfl (by kernel_rfl) (by kernel_rfl) (by kernel_rfl) ⟨stE, stE, stE, stE, stE, stE, stE, stE, stE, stE, stE, stE, fun _ _ _ ⟨g, e, hg, h⟩ hb => ⟨g, e, hg, h.below hb h.lt⟩, trivial⟩ ?_ ?_
     refine ⟨?_, ?_, ?_, ?_, ?_, ?_, ?_, ?_, ?_, ?_, ?_, ?_, ?_, trivial⟩ <;> (intro xx af wv hbx hev hev0 hd; have H := SH.mk hev hev0 hd; clear hev hev0 hd)
     ·have e6 := H.i 6; clear H; go_wp2; exact sQ rfl
     ·have e24 := H.r 0 24; clear H; have hs1 := zh (HT2.out.call hbx); have y0 := cC hs1 0 0; go_wp2; exact sQ rfl
     ·have e25 := H.r 1 25; clear H; go_wp2; exact sQ rfl
     ·have e26 := H.r 2 26; clear H; go_wp2; exact sQ rfl
     ·have e27 := H.r 3 27; clear H; go_wp2; exact sQ rfl
     ·have e4 := H.i 4; clear H; go_wp2; exact sQ rfl
     ·have e6 := H.i 6; clear H; go_wp2; exact sQ rfl
     ·have e30 := H.r 6 30; clear H; have hs1 := zh (HT2.out.call hbx); have y0 := cC hs1 0 1; go_wp2; exact sQ rfl
     ·have e31 := H.r 7 31; clear H; go_wp2; exact sQ rfl
     ·have e29 := H.r 5 29; have e32 := H.r 8 32; clear H; go_wp2; exact sQ rfl
     ·have e33 := H.r 9 33; clear H; have hs1 := zh (HT2.out.call hbx); have y0 := HB9.out _ hs1.out.below 0 _ rfl; rw [Nat.add_zero] at y0; go_wp2; exact sQ rfl
     ·have e28 := H.r 4 28; have e34 := H.r 10 34; clear H; go_wp2; exact sQ rfl
     ·clear H; go_wp2; exact StepQ.mk _ (Ext.alloc (Below.refl _ _) _) ⟨_, rfl, hbx.size, Blk.new _ _ _⟩
     intro xx w4 hb9 hv
     obtain ⟨g4, hv12, hlg12, hB12⟩ := hv 12 (by decide)
     simp only [List.take, List.drop, a0h, Act.put]
     simp only [vQ hv 0, vQ hv 1, vQ hv 2, vQ hv 3, vQ hv 4, vQ hv 5, vQ hv 6, vQ hv 7, vQ hv 8, vQ hv 9, vQ hv 10, vQ hv 11, hv12]
     clear hv hv12
     have HT4 := zh (HT2.out.fill hb9 hlg12 hB12)
     clear hlg12 hB12 hb9 HT2
     simp only [List.setIfInBounds_toArray, List.set_cons_zero, List.set_cons_succ]
     go_wp2_with (refine a2v rfl _ _ _ rfl HT4.out 0 rfl [.int .i64 1, .string (bs (nmZ r9)), .string (bs []), .slice none 0 0, .bool false, .string (bs []), .string (bs []), .int .i64 0] rfl rfl rfl a4y rfl ?_)
     intro w5 hS5
     have HT5 : Hid (St wo [⟨g4, #[.int .i64 1, .string (bs (nmZ r9)), .string (bs []), .slice none 0 0, .bool false, .string (bs []), .string (bs []), .int .i64 0], 61⟩, _] w5) := zh hS5
     clear hS5 HT4
     have x7 := cC HT5 0 0
     have x8 := cC HT5 1 1
     have x9 := cC HT5 0 1
     have x10 := cF HT5 0 1
     have x11 := cN HT5 0 1
     have x12 := cN HT5 1 0
     have x13 := HB3.out _ HT5.out.below 0 _ rfl
     rw [Nat.add_zero] at x13
     go_wp2
     have HT6 : Hid (St wo [⟨g4, #[.int .i64 1, .string (bs (nmZ p3)), .string (bs []), .slice none 0 0, .bool false, .string (bs []), .string (bs []), .int .i64 0], 61⟩, _] _) := zh (St.set (HT5.out) 0 rfl 1 _)
     go_loopw [8] (fun i_ wr => ∃ (m : Nat) (lv : Value), m <= m3 /\ i_ = .int .i64 m /\ Hid (Grows wr wo.heap.size 9 1 lv m (flat strE (a8d x m))) /\ Hid (St wo [⟨g4, #[.int .i64 1, .string (bs (nmZ p3)), .string (bs []), lv, .bool false, .string (bs []), .string (bs []), .int .i64 0], 61⟩, ⟨wo.heap.size, #[.int .u16 (x.a : Nat), .int .u16 (x.b : Nat), .int .u16 (x.c : Nat), .int .u16 (x.d : Nat)], 95⟩] wr)) (fun i_ _ => m3 - (intOf i_).toNat)
     case atStart => exact ⟨0, .slice none 0 0, Nat.zero_le _, rfl, World.ownsRow_nil _ _ _ _, HT6.out⟩
     case round =>
      clear HT6
      obtain ⟨m, lv, hm, rfl, HL, HV⟩ := hrel
      by_cases hlm : m < m3
      ·obtain ⟨z3, hz3⟩ : ∃ r : Nat, r = x.c / 16 ^ m % 16 := ⟨_, rfl⟩
       obtain ⟨q3, hq3⟩ : ∃ r : Nat, r = z3 % 9 := ⟨_, rfl⟩
       have hq3l : q3 < 9 := by omega
       have HBQ := zh (HNO.out.one hq3l)
       have HLS : Hid (a8d x (m + 1) = a8d x m ++ [nmZ q3]) := zh (by rw [c2e, hq3, hz3]; rfl)
       have HLL := zh (a6u x m)
       have fg0 : decide (((m : Nat) : Int) < (m3 : Int)) = true := decide_eq_true (by omega)
       have j5 : IntKind.i64.wrap ((m : Int) + 1) = ((m + 1 : Nat) : Int) := by rw [IntWalk.i64_in _ (by omega)]; rfl
       obtain ⟨f4, hf4⟩ : ∃ r : Nat, r = 4 * m := ⟨_, rfl⟩
       have hf4l : f4 <= 8 := by have := HM3.out; omega
       obtain ⟨s3, hs3⟩ : ∃ r : Nat, r = x.c / 16 ^ m := ⟨_, rfl⟩
       have hs3l : s3 <= 65535 := by rw [hs3]; exact Nat.le_trans (Nat.div_le_self _ _) ok3
       rw [<- hs3] at hz3
       have fg1 : IntKind.i64.wrap (4 * (m : Int)) = (f4 : Int) := by rw [IntWalk.i64_in _ (by omega)]; omega
       have fg2 : IntKind.u64.wrap (f4 : Int) = (f4 : Int) := by rw [IntKind.wrap_u64]; omega
       have fg3 : (x.c : Int) / 2 ^ f4 = (s3 : Int) := by rw [hs3, hf4, show (2 : Int) ^ (4 * m) = ((16 ^ m : Nat) : Int) by rw [Int.pow_mul]; simp]; exact (Int.natCast_ediv _ _).symm
       have fg4 : bits BinOp.and IntKind.u16 (s3 : Int) 15 = (z3 : Int) := by rw [show (15 : Int) = ((15 : Nat) : Int) from rfl, u16_and_nat s3 15 (by omega) (by decide), hz3, show (15 : Nat) = 2 ^ 4 - 1 from rfl, Nat.and_two_pow_sub_one_eq_mod]
       have fg5 : Int.tmod (z3 : Int) 9 = (q3 : Int) := by rw [Int.tmod_eq_emod_of_nonneg (by omega)]; omega
       have fg6 : IntKind.i64.wrap (z3 : Int) = (z3 : Int) := IntWalk.i64_in _ (by omega)
       have fg7 : IntKind.i64.wrap (q3 : Int) = (q3 : Int) := IntWalk.i64_in _ (by omega)
       have fg8 : ((q3 : Nat) : Int) < 9 := by omega
       have fg9 : (0 : Int) <= ((q3 : Nat) : Int) := by omega
       clear hz3 hq3 hs3 hf4
       have x14 := cC HV 1 3
       go_wp2
       clear x14
       refine a0e 15 [eQ (.pointer (some ⟨g4, 3, none⟩)), eQ (lv), eQ (.slice (some ⟨gn, 0, none⟩) 9 9), eQ (.pointer (some ⟨wo.heap.size, 2, none⟩)), eQ (.int .u16 (x.c : Nat)), eQ (.int .i64 (m : Nat)), eQ (.int .i64 (f4 : Nat)), eQ (.int .u64 (f4 : Nat)), eQ (.int .u16 (s3 : Nat)), eQ (.int .u16 (z3 : Nat)), eQ (.int .i64 (z3 : Nat)), eQ (.int .i64 (q3 : Nat)), eQ (.pointer (some ⟨gn, q3, none⟩)), eQ (.string (bs (nmZ q3))), fun ww vv => ∃ g, vv = .slice (some ⟨g, 0, none⟩) 1 1 /\ wr.heap.size <= g /\ Blk ww g #[.string (bs (nmZ q3))] 9] rfl (by kernel_rfl) (by kernel_rfl) (by kernel_rfl) ⟨stE, stE, stE, stE, stE, stE, stE, stE, stE, stE, stE, stE, stE, stE, fun _ _ _ ⟨g, e, hg, h⟩ hb => ⟨g, e, hg, h.below hb h.lt⟩, trivial⟩ ?_ ?_
       refine ⟨?_, ?_, ?_, ?_, ?_, ?_, ?_, ?_, ?_, ?_, ?_, ?_, ?_, ?_, ?_, trivial⟩ <;> (intro xx af wv hbx hev hev0 hd; have H := SH.mk hev hev0 hd; clear hev hev0 hd)
       ·have e7 := H.i 7; clear H; go_wp2; exact sQ rfl
       ·have e57 := H.r 0 57; clear H; have hs1 := zh (HV.out.call hbx); have y0 := cC hs1 0 3; go_wp2; exact sQ rfl
       ·have e4 := H.i 4; clear H; go_wp2; exact sQ rfl
       ·have e6 := H.i 6; clear H; go_wp2; exact sQ rfl
       ·have e60 := H.r 3 60; clear H; have hs1 := zh (HV.out.call hbx); have y0 := cC hs1 1 2; go_wp2; exact sQ rfl
       ·have e8 := H.i 8; clear H; go_wp2; exact sQ rfl
       ·have e62 := H.r 5 62; clear H; go_wp2; exact sQ rfl
       ·have e63 := H.r 6 63; clear H; go_wp2; exact sQ rfl
       ·have e61 := H.r 4 61; have e64 := H.r 7 64; clear H; go_wp2; exact sQ rfl
       ·have e65 := H.r 8 65; clear H; go_wp2; exact sQ rfl
       ·have e66 := H.r 9 66; clear H; go_wp2; exact sQ rfl
       ·have e67 := H.r 10 67; clear H; go_wp2; exact sQ rfl
       ·have e59 := H.r 2 59; have e68 := H.r 11 68; clear H; go_wp2; exact sQ rfl
       ·have e69 := H.r 12 69; clear H; have hs1 := zh (HV.out.call hbx); have y0 := HBQ.out _ hs1.out.below 0 _ rfl; rw [Nat.add_zero] at y0; go_wp2; exact sQ rfl
       ·have e70 := H.r 13 70; clear H; go_wp2; exact StepQ.mk _ (Ext.alloc (Below.refl _ _) _) ⟨_, rfl, hbx.size, Blk.new _ _ _⟩
       intro xx w7 hb9 hv
       obtain ⟨g7, hv14, hlg14, hB14⟩ := hv 14 (by decide)
       simp only [List.take, List.drop, a0h, Act.put]
       simp only [vQ hv 0, vQ hv 1, vQ hv 2, vQ hv 3, vQ hv 4, vQ hv 5, vQ hv 6, vQ hv 7, vQ hv 8, vQ hv 9, vQ hv 10, vQ hv 11, vQ hv 12, vQ hv 13, hv14]
       clear hv hv14
       have HV7 := zh (HV.out.fill hb9 hlg14 hB14)
       clear hlg14 hB14
       have HL_7 := zh (HL.out.below hb9)
       clear HL hb9 HV
       have hgr : World.ownsRow _ wo.heap.size 9 1 lv m (flat strE (a8d x m)) := HL_7.out
       go_wp2_with (at_builtin; refine a2g _ rfl _ _ 59 rfl wo.heap.size 9 is _ 1 16 Tryz.underlying59 HI0.out HIZ.out hs1 hs8 rfl (by decide) a2k lv m (a8d x m) (by simp [Act.eval]) hgr (nmZ q3) g7 _ (HV7.out.blk 0 rfl) rfl (by simp [Act.eval]) (fun u hu => by rw [List.mem_singleton.1 hu]; rfl) (by unfold maxLen; omega) (by omega) HV7.out.below.size ?_)
       intro v9 w9 hown9 hg9
       have HSA := zh ((HV7.out.sub (List.sublist_cons_self ..)).turnedO hg9 (fun q hq => (World.ownsRow.lt hgr q hq).1) (fun z hz => by rcases List.mem_cons.1 hz with rfl | hz; exact a3c hgr (HV7.out.blk 1 rfl) (by decide); rw [List.mem_singleton.1 hz]; exact a3c hgr (HV7.out.blk 2 rfl) (by decide)))
       rw [<- HLS.out] at hown9
       obtain ⟨g9, c9, rfl, _, _⟩ := World.ownsRow.form hown9 (Nat.succ_pos _)
       have HG9 := zh hown9
       clear hown9 hg9 hgr HV7 HL_7
       have x15 := cC HSA 0 3
       have x16 := cF HSA 0 3
       have x17 := cN HSA 0 1
       have x18 := cN HSA 1 0
       go_wp2
       have HSA8 : Hid (St wo [⟨g4, #[.int .i64 1, .string (bs (nmZ p3)), .string (bs []), .slice (some ⟨g9, 0, none⟩) (m + 1) c9, .bool false, .string (bs []), .string (bs []), .int .i64 0], 61⟩, _] _) := zh (St.set (HSA.out) 0 rfl 3 _)
       go_roundw
       case rel => exact ⟨m + 1, .slice (some ⟨g9, 0, none⟩) (m + 1) c9, by omega, by go_num, a1k HG9.out (HSA.out.blk 0 rfl) (by decide) _, HSA8.out⟩
       case measure => simp [intOf]; omega
      obtain rfl : m = m3 := by omega
      have fg0 : decide (((m : Nat) : Int) < (m : Int)) = false := decide_eq_false (by omega)
      obtain ⟨Al, cl2, hlv, _, _⟩ := (Slc.of_own a2k HL.out (a6u x m)).slice
      rw [a6u] at hlv
      subst hlv
      have x14 := cC HV 1 3
      have x15 := HV.out.lt 1 rfl
      have x16 : ¬ wo.heap.size = wr.heap.size := by omega
      have x17 : ¬ wr.heap.size = wo.heap.size := by omega
      have HV7 := aL HV #[.int .i64 1, .string (bs (nmZ p3)), .string (bs []), .slice Al m cl2, .bool false, .string (bs []), .string (bs []), .int .i64 0] 61 wr.heap.size
      obtain ⟨rs, hrs1, hrs2, hrs3⟩ := HG.out.below HV7.out.below
      have hrl : rs.length = k := by rw [<- List.length_map (f := fun r : CRow => r.c), hrs2]; exact HKL.out
      go_wp2_with (first | (refine wpList_load_mid rfl _ _ rfl (g4) (0) rfl [.int .i64 1, .string (bs (nmZ p3)), .string (bs []), .slice Al m cl2, .bool false, .string (bs []), .string (bs []), .int .i64 0] _ (St.whole HV.out 0 rfl) Tryz.underlying61 rfl a4y ?_) | (at_builtin; refine a2g _ rfl _ _ 23 rfl wn.heap.size 61 ic _ 8 112 Tryz.underlying23 HC0.out HCZ.out hc1 hc8 rfl (by decide) a5y u3 rs.length rs (by simp [Act.eval]) hrs1 ⟨clsN x, .slice Al m cl2⟩ wr.heap.size _ (HV7.out.blk 0 rfl) (by rw [HCN.out]; rfl) (by simp [Act.eval]) (a7n _ rfl) (by unfold maxLen; omega) (by omega) (Nat.le_trans HS.out.below.size HV7.out.below.size) ?_))
      intro v9 w9 hown9 hg9
      have HO9 := zh (ClsO.push (c := clsN x) (u := .slice Al m cl2) hrs2 hrs1 hrs3 (by rw [HCN.out]; show World.ownsRow _ _ _ _ _ (a8d x m).length (flat strE (a8d x m)); rw [a6u]; exact b5y (HL.out.below (Ext.alloc (Below.refl wr.heap.size wr) (Obj.cells #[.int .i64 1, .string (bs (nmZ p3)), .string (bs []), .slice Al m cl2, .bool false, .string (bs []), .string (bs []), .int .i64 0] 61))) HS.out.below.size) (by rw [hrl]; exact hown9) hg9)
      have HS9 : Hid (St wn [] w9) := zh (St.of ((HS.out.below.trans (HV7.out.below.mono HS.out.below.size)).grown hg9 (Nat.le_trans HS.out.below.size HV7.out.below.size) (fun q hq => (World.ownsRow.lt hrs1 q hq).1)))
      rw [<- HFT.out] at HO9
      clear hown9 hg9 hrs1 hrs2 hrs3 hrl x14 x15 x16 x17
      go_wp2
      go_roundw
      case rel => exact ⟨k + 1, by omega, by omega, by go_num, HO9.out, HS9.out⟩
      case measure => simp [intOf]; omega
    ·have a1 : Int.tmod (x.a : Int) 4 = 1 := by rw [Int.tmod_eq_emod_of_nonneg (by omega)]; omega
     have HCN := zh (clsN1 h4)
     obtain ⟨q9, hq9⟩ : ∃ r : Nat, r = x.c % 9 := ⟨_, rfl⟩
     have hq9l : q9 < 9 := by omega
     have HBQ := zh (HNO.out.one hq9l)
     have c1 : Int.tmod (x.c : Int) 9 = (q9 : Int) := by rw [Int.tmod_eq_emod_of_nonneg (by omega)]; omega
     have c3 : IntKind.u16.wrap (q9 : Int) = (q9 : Int) := by rw [IntKind.wrap_u16]; omega
     have c4 : ((q9 : Nat) : Int) < 9 := by omega
     have c5 : (0 : Int) <= ((q9 : Nat) : Int) := by omega
     rw [<- hq9, <- HN9.out] at HCN
     clear hq9 h4
     have x1 : b < wo.heap.size := Nat.lt_of_lt_of_le HBL.out HT.out.below.size
     have x2 : ¬ b = wo.heap.size := by omega
     obtain ⟨x3, x4, x5⟩ := kE0 (HX.out _ HT.out.below) rfl rfl rfl
     have x6 := HX.out _ HT.out.below 3 _ rfl
     go_wp2
     clear x1 x2 x3 x4 x5 x6
     refine b1p (aL HT #[.int .u16 (x.a : Nat), .int .u16 (x.b : Nat), .int .u16 (x.c : Nat), .int .u16 (x.d : Nat)] 95 wo.heap.size).out ?_
     intro wg2 hb
     have HT2 := zh hb
     clear hb HT
     refine a0e 13 [eQ (.pointer (some ⟨wo.heap.size, 0, none⟩)), eQ (.int .u16 (x.a : Nat)), eQ (.int .u16 1), eQ (.int .i64 1), eQ (.int .i64 2), eQ (.slice (some ⟨gn, 0, none⟩) 9 9), eQ (.pointer (some ⟨wo.heap.size, 1, none⟩)), eQ (.int .u16 (x.b : Nat)), eQ (.int .u16 (r9 : Nat)), eQ (.pointer (some ⟨gn, r9, none⟩)), eQ (.string (bs (nmZ r9))), eQ (.agg #[.int .i64 2, .string (bs (nmZ r9)), .string (bs []), .slice none 0 0, .bool false, .string (bs []), .string (bs []), .int .i64 0]), fun ww vv => ∃ g, vv = .pointer (some ⟨g, 0, none⟩) /\ wg2.heap.size <= g /\ Blk ww g #[.int .i64 0, .string (bs []), .string (bs []), .slice none 0 0, .bool false, .string (bs []), .string (bs []), .int .i64 0] 61] rfl (by kernel_rfl) (by kernel_rfl) (by kernel_rfl) ⟨stE, stE, stE, stE, stE, stE, stE, stE, stE, stE, stE, stE, fun _ _ _ ⟨g, e, hg, h⟩ hb => ⟨g, e, hg, h.below hb h.lt⟩, trivial⟩ ?_ ?_
     refine ⟨?_, ?_, ?_, ?_, ?_, ?_, ?_, ?_, ?_, ?_, ?_, ?_, ?_, trivial⟩ <;> (intro xx af wv hbx hev hev0 hd; have H := SH.mk hev hev0 hd; clear hev hev0 hd)
     ·have e6 := H.i 6; clear H; go_wp2; exact sQ rfl
     ·have e24 := H.r 0 24; clear H; have hs1 := zh (HT2.out.call hbx); have y0 := cC hs1 0 0; go_wp2; exact sQ rfl
     ·have e25 := H.r 1 25; clear H; go_wp2; exact sQ rfl
     ·have e26 := H.r 2 26; clear H; go_wp2; exact sQ rfl
     ·have e27 := H.r 3 27; clear H; go_wp2; exact sQ rfl
     ·have e4 := H.i 4; clear H; go_wp2; exact sQ rfl
     ·have e6 := H.i 6; clear H; go_wp2; exact sQ rfl
     ·have e30 := H.r 6 30; clear H; have hs1 := zh (HT2.out.call hbx); have y0 := cC hs1 0 1; go_wp2; exact sQ rfl
     ·have e31 := H.r 7 31; clear H; go_wp2; exact sQ rfl
     ·have e29 := H.r 5 29; have e32 := H.r 8 32; clear H; go_wp2; exact sQ rfl
     ·have e33 := H.r 9 33; clear H; have hs1 := zh (HT2.out.call hbx); have y0 := HB9.out _ hs1.out.below 0 _ rfl; rw [Nat.add_zero] at y0; go_wp2; exact sQ rfl
     ·have e28 := H.r 4 28; have e34 := H.r 10 34; clear H; go_wp2; exact sQ rfl
     ·clear H; go_wp2; exact StepQ.mk _ (Ext.alloc (Below.refl _ _) _) ⟨_, rfl, hbx.size, Blk.new _ _ _⟩
     intro xx w4 hb9 hv
     obtain ⟨g4, hv12, hlg12, hB12⟩ := hv 12 (by decide)
     simp only [List.take, List.drop, a0h, Act.put]
     simp only [vQ hv 0, vQ hv 1, vQ hv 2, vQ hv 3, vQ hv 4, vQ hv 5, vQ hv 6, vQ hv 7, vQ hv 8, vQ hv 9, vQ hv 10, vQ hv 11, hv12]
     clear hv hv12
     have HT4 := zh (HT2.out.fill hb9 hlg12 hB12)
     clear hlg12 hB12 hb9 HT2
     simp only [List.setIfInBounds_toArray, List.set_cons_zero, List.set_cons_succ]
     go_wp2_with (refine a2v rfl _ _ _ rfl HT4.out 0 rfl [.int .i64 2, .string (bs (nmZ r9)), .string (bs []), .slice none 0 0, .bool false, .string (bs []), .string (bs []), .int .i64 0] rfl rfl rfl a4y rfl ?_)
     intro w5 hS5
     have HT5 : Hid (St wo [⟨g4, #[.int .i64 2, .string (bs (nmZ r9)), .string (bs []), .slice none 0 0, .bool false, .string (bs []), .string (bs []), .int .i64 0], 61⟩, _] w5) := zh hS5
     clear hS5 HT4
     have HT6 : Hid (St wo [⟨g4, #[.int .i64 2, .string (bs (nmZ r9)), .string (bs (nmZ q9)), .slice none 0 0, .bool false, .string (bs []), .string (bs []), .int .i64 0], 61⟩, _] _) := zh (St.set (HT5.out) 0 rfl 2 _)
     have x7 := cC HT5 0 0
     have x8 := cC HT5 1 2
     have x9 := cC HT5 0 2
     have x10 := cF HT5 0 2
     have x11 := cN HT5 0 1
     have x12 := cN HT5 1 0
     have x13 := HT5.out.lt 0 rfl
     have x14 : ¬ g4 = w5.heap.size := by omega
     have x15 : ¬ w5.heap.size = g4 := by omega
     have x16 := HT5.out.lt 1 rfl
     have x17 : ¬ wo.heap.size = w5.heap.size := by omega
     have x18 : ¬ w5.heap.size = wo.heap.size := by omega
     have x19 : gn < w5.heap.size := Nat.lt_of_lt_of_le HNO.out.1 HT5.out.below.size
     have x20 : ¬ gn = w5.heap.size := by omega
     have x21 := HBQ.out _ HT5.out.below 0 _ rfl
     rw [Nat.add_zero] at x21
     have HT7 : Hid (St wo [_, ⟨g4, #[.int .i64 2, .string (bs (nmZ r9)), .string (bs (nmZ q9)), .slice none 0 0, .bool false, .string (bs []), .string (bs []), .int .i64 0], 61⟩, _] _) := zh (St.alloc (St.set (HT5.out) 0 rfl 2 _) #[.int .i64 2, .string (bs (nmZ r9)), .string (bs (nmZ q9)), .slice none 0 0, .bool false, .string (bs []), .string (bs []), .int .i64 0] 61 (w5.heap.size) (by simp))
     obtain ⟨rs, hrs1, hrs2, hrs3⟩ := HG.out.below HT7.out.below
     have hrl : rs.length = k := by rw [<- List.length_map (f := fun r : CRow => r.c), hrs2]; exact HKL.out
     go_wp2_with (first | (refine wpList_load_mid rfl _ _ rfl (g4) (0) rfl [.int .i64 2, .string (bs (nmZ r9)), .string (bs (nmZ q9)), .slice none 0 0, .bool false, .string (bs []), .string (bs []), .int .i64 0] _ (St.whole HT6.out 0 rfl) Tryz.underlying61 rfl a4y ?_) | (at_builtin; refine a2g _ rfl _ _ 23 rfl wn.heap.size 61 ic _ 8 112 Tryz.underlying23 HC0.out HCZ.out hc1 hc8 rfl (by decide) a5y u3 rs.length rs (by simp [Act.eval]) hrs1 ⟨clsN x, (.slice none 0 0)⟩ w5.heap.size _ (HT7.out.blk 0 rfl) (by rw [HCN.out]; rfl) (by simp [Act.eval]) (a7n _ rfl) (by unfold maxLen; omega) (by omega) (Nat.le_trans HS.out.below.size HT7.out.below.size) ?_))
     intro v9 w9 hown9 hg9
     have HO9 := zh (ClsO.push (c := clsN x) (u := (.slice none 0 0)) hrs2 hrs1 hrs3 (by rw [HCN.out]; exact World.ownsRow_nil _ _ _ _) (by rw [hrl]; exact hown9) hg9)
     have HS9 : Hid (St wn [] w9) := zh (St.of ((HS.out.below.trans (HT7.out.below.mono HS.out.below.size)).grown hg9 (Nat.le_trans HS.out.below.size HT7.out.below.size) (fun q hq => (World.ownsRow.lt hrs1 q hq).1)))
     rw [<- HFT.out] at HO9
     clear hown9 hg9 hrs1 hrs2 hrs3 hrl x7 x8 x9 x10 x11 x12 x13 x14 x15 x16 x17 x18 x19 x20 x21 HT6
     go_wp2
     go_roundw
     case rel => exact ⟨k + 1, by omega, by omega, by go_num, HO9.out, HS9.out⟩
     case measure => simp [intOf]; omega
    ·have a1 : Int.tmod (x.a : Int) 4 = 2 := by rw [Int.tmod_eq_emod_of_nonneg (by omega)]; omega
     have HCN := zh (clsN2 h4)
     obtain ⟨p6, hp6⟩ : ∃ r : Nat, r = x.b % 6 := ⟨_, rfl⟩
     have hp6l : p6 < 9 := by omega
     have HBP := zh (HNO.out.one hp6l)
     have c1 : Int.tmod (x.b : Int) 6 = (p6 : Int) := by rw [Int.tmod_eq_emod_of_nonneg (by omega)]; omega
     have c3 : IntKind.u16.wrap (p6 : Int) = (p6 : Int) := by rw [IntKind.wrap_u16]; omega
     have c4 : ((p6 : Nat) : Int) < 9 := by omega
     have c5 : (0 : Int) <= ((p6 : Nat) : Int) := by omega
     have hA := fun W => b2n x.c W ok3
     obtain ⟨am, ham⟩ : ∃ q, q = a2q x.c := ⟨_, rfl⟩
     rw [<- ham] at hA
     unfold rat raw at hA
     have HA := zh hA
     rw [<- hp6, <- ham] at HCN
     clear hp6 hA ham h4
     have x1 : b < wo.heap.size := Nat.lt_of_lt_of_le HBL.out HT.out.below.size
     have x2 : ¬ b = wo.heap.size := by omega
     obtain ⟨x3, x4, x5⟩ := kE0 (HX.out _ HT.out.below) rfl rfl rfl
     have x6 := HX.out _ HT.out.below 3 _ rfl
     go_wp2
     clear x1 x2 x3 x4 x5 x6
     refine b1p (aL HT #[.int .u16 (x.a : Nat), .int .u16 (x.b : Nat), .int .u16 (x.c : Nat), .int .u16 (x.d : Nat)] 95 wo.heap.size).out ?_
     intro wg2 hb
     have HT2 := zh hb
     clear hb HT
     refine a0e 13 [eQ (.pointer (some ⟨wo.heap.size, 0, none⟩)), eQ (.int .u16 (x.a : Nat)), eQ (.int .u16 2), eQ (.int .i64 2), eQ (.int .i64 3), eQ (.slice (some ⟨gn, 0, none⟩) 9 9), eQ (.pointer (some ⟨wo.heap.size, 1, none⟩)), eQ (.int .u16 (x.b : Nat)), eQ (.int .u16 (r9 : Nat)), eQ (.pointer (some ⟨gn, r9, none⟩)), eQ (.string (bs (nmZ r9))), eQ (.agg #[.int .i64 3, .string (bs (nmZ r9)), .string (bs []), .slice none 0 0, .bool false, .string (bs []), .string (bs []), .int .i64 0]), fun ww vv => ∃ g, vv = .pointer (some ⟨g, 0, none⟩) /\ wg2.heap.size <= g /\ Blk ww g #[.int .i64 0, .string (bs []), .string (bs []), .slice none 0 0, .bool false, .string (bs []), .string (bs []), .int .i64 0] 61] rfl (by kernel_rfl) (by kernel_rfl) (by kernel_rfl) ⟨stE, stE, stE, stE, stE, stE, stE, stE, stE, stE, stE, stE, fun _ _ _ ⟨g, e, hg, h⟩ hb => ⟨g, e, hg, h.below hb h.lt⟩, trivial⟩ ?_ ?_
     refine ⟨?_, ?_, ?_, ?_, ?_, ?_, ?_, ?_, ?_, ?_, ?_, ?_, ?_, trivial⟩ <;> (intro xx af wv hbx hev hev0 hd; have H := SH.mk hev hev0 hd; clear hev hev0 hd)
     ·have e6 := H.i 6; clear H; go_wp2; exact sQ rfl
     ·have e24 := H.r 0 24; clear H; have hs1 := zh (HT2.out.call hbx); have y0 := cC hs1 0 0; go_wp2; exact sQ rfl
     ·have e25 := H.r 1 25; clear H; go_wp2; exact sQ rfl
     ·have e26 := H.r 2 26; clear H; go_wp2; exact sQ rfl
     ·have e27 := H.r 3 27; clear H; go_wp2; exact sQ rfl
     ·have e4 := H.i 4; clear H; go_wp2; exact sQ rfl
     ·have e6 := H.i 6; clear H; go_wp2; exact sQ rfl
     ·have e30 := H.r 6 30; clear H; have hs1 := zh (HT2.out.call hbx); have y0 := cC hs1 0 1; go_wp2; exact sQ rfl
     ·have e31 := H.r 7 31; clear H; go_wp2; exact sQ rfl
     ·have e29 := H.r 5 29; have e32 := H.r 8 32; clear H; go_wp2; exact sQ rfl
     ·have e33 := H.r 9 33; clear H; have hs1 := zh (HT2.out.call hbx); have y0 := HB9.out _ hs1.out.below 0 _ rfl; rw [Nat.add_zero] at y0; go_wp2; exact sQ rfl
     ·have e28 := H.r 4 28; have e34 := H.r 10 34; clear H; go_wp2; exact sQ rfl
     ·clear H; go_wp2; exact StepQ.mk _ (Ext.alloc (Below.refl _ _) _) ⟨_, rfl, hbx.size, Blk.new _ _ _⟩
     intro xx w4 hb9 hv
     obtain ⟨g4, hv12, hlg12, hB12⟩ := hv 12 (by decide)
     simp only [List.take, List.drop, a0h, Act.put]
     simp only [vQ hv 0, vQ hv 1, vQ hv 2, vQ hv 3, vQ hv 4, vQ hv 5, vQ hv 6, vQ hv 7, vQ hv 8, vQ hv 9, vQ hv 10, vQ hv 11, hv12]
     clear hv hv12
     have HT4 := zh (HT2.out.fill hb9 hlg12 hB12)
     clear hlg12 hB12 hb9 HT2
     simp only [List.setIfInBounds_toArray, List.set_cons_zero, List.set_cons_succ]
     go_wp2_with (refine a2v rfl _ _ _ rfl HT4.out 0 rfl [.int .i64 3, .string (bs (nmZ r9)), .string (bs []), .slice none 0 0, .bool false, .string (bs []), .string (bs []), .int .i64 0] rfl rfl rfl a4y rfl ?_)
     intro w5 hS5
     have HT5 : Hid (St wo [⟨g4, #[.int .i64 3, .string (bs (nmZ r9)), .string (bs []), .slice none 0 0, .bool false, .string (bs []), .string (bs []), .int .i64 0], 61⟩, _] w5) := zh hS5
     clear hS5 HT4
     have x7 := cC HT5 0 0
     have x8 := cC HT5 1 1
     have x9 := cC HT5 0 1
     have x10 := cC HT5 1 2
     have x11 := cF HT5 0 1
     have x12 := cN HT5 0 1
     have x13 := cN HT5 1 0
     have x14 := HBP.out _ HT5.out.below 0 _ rfl
     rw [Nat.add_zero] at x14
     go_wp2_with fail
     have HT6 : Hid (St wo [⟨g4, #[.int .i64 3, .string (bs (nmZ p6)), .string (bs []), .slice none 0 0, .bool false, .string (bs []), .string (bs []), .int .i64 0], 61⟩, _] _) := zh (St.set (HT5.out) 0 rfl 1 _)
     refine (HA.out _).mono ?_
     rintro e w7 ⟨rfl, hb7⟩
     have HT7 := zh (HT6.out.call hb7)
     clear hb7 HT5 HT6 x7 x8 x9 x10 x11 x12 x13 x14
     have HT8 : Hid (St wo [⟨g4, #[.int .i64 3, .string (bs (nmZ p6)), .string (bs []), .slice none 0 0, .bool (negB (am)), .string (bs (numB (am))), .string (bs (a0n (am))), .int .i64 0], 61⟩, _] _) := zh (St.set (St.set (St.set (HT7.out) 0 rfl 4 _) 0 rfl 5 _) 0 rfl 6 _)
     obtain ⟨x15, x16, x17⟩ := HT7.out.k4 0 rfl rfl rfl rfl
     obtain ⟨x18, x19, x20⟩ := HT7.out.f4 0 rfl
     have x21 := cN HT7 0 1
     have x22 := cN HT7 1 0
     have x23 := HT7.out.lt 0 rfl
     have x24 : ¬ g4 = w7.heap.size := by omega
     have x25 : ¬ w7.heap.size = g4 := by omega
     have HT9 : Hid (St wo [_, ⟨g4, #[.int .i64 3, .string (bs (nmZ p6)), .string (bs []), .slice none 0 0, .bool (negB (am)), .string (bs (numB (am))), .string (bs (a0n (am))), .int .i64 0], 61⟩, _] _) := zh (St.alloc (St.set (St.set (St.set (HT7.out) 0 rfl 4 _) 0 rfl 5 _) 0 rfl 6 _) #[.int .i64 3, .string (bs (nmZ p6)), .string (bs []), .slice none 0 0, .bool (negB (am)), .string (bs (numB (am))), .string (bs (a0n (am))), .int .i64 0] 61 (w7.heap.size) (by simp))
     obtain ⟨rs, hrs1, hrs2, hrs3⟩ := HG.out.below HT9.out.below
     have hrl : rs.length = k := by rw [<- List.length_map (f := fun r : CRow => r.c), hrs2]; exact HKL.out
     go_wp2_with (first | (refine wpList_load_mid rfl _ _ rfl (g4) (0) rfl [.int .i64 3, .string (bs (nmZ p6)), .string (bs []), .slice none 0 0, .bool (negB (am)), .string (bs (numB (am))), .string (bs (a0n (am))), .int .i64 0] _ (St.whole HT8.out 0 rfl) Tryz.underlying61 rfl a4y ?_) | (at_builtin; refine a2g _ rfl _ _ 23 rfl wn.heap.size 61 ic _ 8 112 Tryz.underlying23 HC0.out HCZ.out hc1 hc8 rfl (by decide) a5y u3 rs.length rs (by simp [Act.eval]) hrs1 ⟨clsN x, (.slice none 0 0)⟩ w7.heap.size _ (HT9.out.blk 0 rfl) (by rw [HCN.out]; rfl) (by simp [Act.eval]) (a7n _ rfl) (by unfold maxLen; omega) (by omega) (Nat.le_trans HS.out.below.size HT9.out.below.size) ?_))
     intro v9 w9 hown9 hg9
     have HO9 := zh (ClsO.push (c := clsN x) (u := (.slice none 0 0)) hrs2 hrs1 hrs3 (by rw [HCN.out]; exact World.ownsRow_nil _ _ _ _) (by rw [hrl]; exact hown9) hg9)
     have HS9 : Hid (St wn [] w9) := zh (St.of ((HS.out.below.trans (HT9.out.below.mono HS.out.below.size)).grown hg9 (Nat.le_trans HS.out.below.size HT9.out.below.size) (fun q hq => (World.ownsRow.lt hrs1 q hq).1)))
     rw [<- HFT.out] at HO9
     clear hown9 hg9 hrs1 hrs2 hrs3 hrl x15 x16 x17 x18 x19 x20 x21 x22 x23 x24 x25 HT8
     go_wp2
     go_roundw
     case rel => exact ⟨k + 1, by omega, by omega, by go_num, HO9.out, HS9.out⟩
     case measure => simp [intOf]; omega
    have a1 : Int.tmod (x.a : Int) 4 = 3 := by rw [Int.tmod_eq_emod_of_nonneg (by omega)]; omega
    have HCN := zh (clsN3 h4)
    rw [<- HN9.out] at HCN
    clear h4
    have x1 : b < wo.heap.size := Nat.lt_of_lt_of_le HBL.out HT.out.below.size
    have x2 : ¬ b = wo.heap.size := by omega
    obtain ⟨x3, x4, x5⟩ := kE0 (HX.out _ HT.out.below) rfl rfl rfl
    have x6 := HX.out _ HT.out.below 3 _ rfl
    go_wp2
    clear x1 x2 x3 x4 x5 x6
    refine b1p (aL HT #[.int .u16 (x.a : Nat), .int .u16 (x.b : Nat), .int .u16 (x.c : Nat), .int .u16 (x.d : Nat)] 95 wo.heap.size).out ?_
    intro wg2 hb
    have HT2 := zh hb
    clear hb HT
    refine a0e 13 [eQ (.pointer (some ⟨wo.heap.size, 0, none⟩)), eQ (.int .u16 (x.a : Nat)), eQ (.int .u16 3), eQ (.int .i64 3), eQ (.int .i64 4), eQ (.slice (some ⟨gn, 0, none⟩) 9 9), eQ (.pointer (some ⟨wo.heap.size, 1, none⟩)), eQ (.int .u16 (x.b : Nat)), eQ (.int .u16 (r9 : Nat)), eQ (.pointer (some ⟨gn, r9, none⟩)), eQ (.string (bs (nmZ r9))), eQ (.agg #[.int .i64 4, .string (bs (nmZ r9)), .string (bs []), .slice none 0 0, .bool false, .string (bs []), .string (bs []), .int .i64 0]), fun ww vv => ∃ g, vv = .pointer (some ⟨g, 0, none⟩) /\ wg2.heap.size <= g /\ Blk ww g #[.int .i64 0, .string (bs []), .string (bs []), .slice none 0 0, .bool false, .string (bs []), .string (bs []), .int .i64 0] 61] rfl (by kernel_rfl) (by kernel_rfl) (by kernel_rfl) ⟨stE, stE, stE, stE, stE, stE, stE, stE, stE, stE, stE, stE, fun _ _ _ ⟨g, e, hg, h⟩ hb => ⟨g, e, hg, h.below hb h.lt⟩, trivial⟩ ?_ ?_
    refine ⟨?_, ?_, ?_, ?_, ?_, ?_, ?_, ?_, ?_, ?_, ?_, ?_, ?_, trivial⟩ <;> (intro xx af wv hbx hev hev0 hd; have H := SH.mk hev hev0 hd; clear hev hev0 hd)
    ·have e6 := H.i 6; clear H; go_wp2; exact sQ rfl
    ·have e24 := H.r 0 24; clear H; have hs1 := zh (HT2.out.call hbx); have y0 := cC hs1 0 0; go_wp2; exact sQ rfl
    ·have e25 := H.r 1 25; clear H; go_wp2; exact sQ rfl
    ·have e26 := H.r 2 26; clear H; go_wp2; exact sQ rfl
    ·have e27 := H.r 3 27; clear H; go_wp2; exact sQ rfl
    ·have e4 := H.i 4; clear H; go_wp2; exact sQ rfl
    ·have e6 := H.i 6; clear H; go_wp2; exact sQ rfl
    ·have e30 := H.r 6 30; clear H; have hs1 := zh (HT2.out.call hbx); have y0 := cC hs1 0 1; go_wp2; exact sQ rfl
    ·have e31 := H.r 7 31; clear H; go_wp2; exact sQ rfl
    ·have e29 := H.r 5 29; have e32 := H.r 8 32; clear H; go_wp2; exact sQ rfl
    ·have e33 := H.r 9 33; clear H; have hs1 := zh (HT2.out.call hbx); have y0 := HB9.out _ hs1.out.below 0 _ rfl; rw [Nat.add_zero] at y0; go_wp2; exact sQ rfl
    ·have e28 := H.r 4 28; have e34 := H.r 10 34; clear H; go_wp2; exact sQ rfl
    ·clear H; go_wp2; exact StepQ.mk _ (Ext.alloc (Below.refl _ _) _) ⟨_, rfl, hbx.size, Blk.new _ _ _⟩
    intro xx w4 hb9 hv
    obtain ⟨g4, hv12, hlg12, hB12⟩ := hv 12 (by decide)
    simp only [List.take, List.drop, a0h, Act.put]
    simp only [vQ hv 0, vQ hv 1, vQ hv 2, vQ hv 3, vQ hv 4, vQ hv 5, vQ hv 6, vQ hv 7, vQ hv 8, vQ hv 9, vQ hv 10, vQ hv 11, hv12]
    clear hv hv12
    have HT4 := zh (HT2.out.fill hb9 hlg12 hB12)
    clear hlg12 hB12 hb9 HT2
    simp only [List.setIfInBounds_toArray, List.set_cons_zero, List.set_cons_succ]
    go_wp2_with (refine a2v rfl _ _ _ rfl HT4.out 0 rfl [.int .i64 4, .string (bs (nmZ r9)), .string (bs []), .slice none 0 0, .bool false, .string (bs []), .string (bs []), .int .i64 0] rfl rfl rfl a4y rfl ?_)
    intro w5 hS5
    have HT5 : Hid (St wo [⟨g4, #[.int .i64 4, .string (bs (nmZ r9)), .string (bs []), .slice none 0 0, .bool false, .string (bs []), .string (bs []), .int .i64 0], 61⟩, _] w5) := zh hS5
    clear hS5 HT4
    have x7 := cC HT5 0 0
    have x8 := HT5.out.lt 0 rfl
    have x9 : ¬ g4 = w5.heap.size := by omega
    have x10 : ¬ w5.heap.size = g4 := by omega
    have HT6 := aL HT5 #[.int .i64 4, .string (bs (nmZ r9)), .string (bs []), .slice none 0 0, .bool false, .string (bs []), .string (bs []), .int .i64 0] 61 w5.heap.size
    obtain ⟨rs, hrs1, hrs2, hrs3⟩ := HG.out.below HT6.out.below
    have hrl : rs.length = k := by rw [<- List.length_map (f := fun r : CRow => r.c), hrs2]; exact HKL.out
    go_wp2_with (first | (refine wpList_load_mid rfl _ _ rfl (g4) (0) rfl [.int .i64 4, .string (bs (nmZ r9)), .string (bs []), .slice none 0 0, .bool false, .string (bs []), .string (bs []), .int .i64 0] _ (St.whole HT5.out 0 rfl) Tryz.underlying61 rfl a4y ?_) | (at_builtin; refine a2g _ rfl _ _ 23 rfl wn.heap.size 61 ic _ 8 112 Tryz.underlying23 HC0.out HCZ.out hc1 hc8 rfl (by decide) a5y u3 rs.length rs (by simp [Act.eval]) hrs1 ⟨clsN x, (.slice none 0 0)⟩ w5.heap.size _ (HT6.out.blk 0 rfl) (by rw [HCN.out]; rfl) (by simp [Act.eval]) (a7n _ rfl) (by unfold maxLen; omega) (by omega) (Nat.le_trans HS.out.below.size HT6.out.below.size) ?_))
    intro v9 w9 hown9 hg9
    have HO9 := zh (ClsO.push (c := clsN x) (u := (.slice none 0 0)) hrs2 hrs1 hrs3 (by rw [HCN.out]; exact World.ownsRow_nil _ _ _ _) (by rw [hrl]; exact hown9) hg9)
    have HS9 : Hid (St wn [] w9) := zh (St.of ((HS.out.below.trans (HT6.out.below.mono HS.out.below.size)).grown hg9 (Nat.le_trans HS.out.below.size HT6.out.below.size) (fun q hq => (World.ownsRow.lt hrs1 q hq).1)))
    rw [<- HFT.out] at HO9
    clear hown9 hg9 hrs1 hrs2 hrs3 hrl x7 x8 x9 x10
    go_wp2
    go_roundw
    case rel => exact ⟨k + 1, by omega, by omega, by go_num, HO9.out, HS9.out⟩
    case measure => simp [intOf]; omega
   obtain rfl : k = 10 := by omega
   have e9 : decide ((10 : Int) < (xs.length : Int)) = true := decide_eq_true (by omega)
   go_wp2
   go_ret
   exact ⟨_, rfl, HG.out.toL, HBN.out.trans (HS.out.below.mono HNE.out)⟩
  obtain rfl : k = xs.length := by omega
  go_wp2
  go_ret
  have hvo : a2u xs = (xs.take xs.length).map clsN := by unfold a2u; rw [List.take_length, List.take_of_length_le hk10]
  rw [hvo]
  exact ⟨_, rfl, HG.out.toL, HBN.out.trans (HS.out.below.mono HNE.out)⟩
end Go.Proofs.YtgdhpghfojccaaaGreatDoor
