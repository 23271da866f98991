/-
Part 35 of the base.
-/
import Derived.Test.YtoighiepglclkaaGreatDoorKf27
import Derived.Test.YtoighiepglclkaaGreatDoorKf34
set_option maxRecDepth 100000
set_option maxHeartbeats 4000000
namespace Go.Proofs.YtoighiepglclkaaGreatDoor
open Go.RowKit
theorem a8k : (Tryz.prog.info? 42).map (·.size) = some 14 := by kernel_rfl
theorem b8v {fn : Func} {p : Tmp} (h : fn.results = #[.cell p 42]) (tmps : Array Value) (w : World) (g : Nat) {cs : Array Value}
  (hp : tmps.getD p undef = .pointer (some ⟨g, 0, none⟩)) (hg : Blk w g cs 42) (hcs : cs.size = 14) : (results fn tmps).run Tryz.prog w = .ok (.agg cs) w :=
 results_cell_row h tmps w g _ _ _ _ hp hg Tryz.underlying42 rfl (by rw [hcs]; exact a8k)
theorem b9h {fn : Func} {p : Tmp} (h : fn.results = #[.cell p 44]) (tmps : Array Value) (w : World) (g : Nat) {cs : Array Value}
  (hp : tmps.getD p undef = .pointer (some ⟨g, 0, none⟩)) (hg : Blk w g cs 44) (hcs : cs.size = 21) : (results fn tmps).run Tryz.prog w = .ok (.agg cs) w :=
 results_cell_row h tmps w g _ _ _ _ hp hg Tryz.underlying44 rfl (by rw [hcs]; exact a3m)
theorem enc000q : negB (0 : Rat) = false /\ numB (0 : Rat) = [] /\ a0a (0 : Rat) = [] := by decide +kernel
theorem c2f {x : Six} (h : x.c % 3 = 0) : (a2x x).enc = [.string (bs (b1w (x.a % 12))), .int .i64 ((x.b : Int) % 4), .int .i64 ((x.b : Int) / 4 % 9), .string (bs (c5a (x.c % 4))), .bool (negB (a2c x.d)), .string (bs (numB (a2c x.d))), .string (bs (a0a (a2c x.d))), .int .i64 ((x.e : Int) % 50), .int .i64 ((x.f : Int) % 5), .bool (negB (b0z x)), .string (bs (numB (b0z x))), .string (bs (a0a (b0z x))), .int .i64 ((x.e : Int) / 50 % 60), .int .i64 ((x.f : Int) / 5 % 4 - 1)] := by
 unfold a2x Prf.enc
 simp only [if_pos h, Int.natCast_emod, Int.natCast_ediv]
 rfl
theorem c2g {x : Six} (h : ¬ x.c % 3 = 0) : (a2x x).enc = [.string (bs (b1w (x.a % 12))), .int .i64 ((x.b : Int) % 4), .int .i64 ((x.b : Int) / 4 % 9), .string (bs (c5a (x.c % 4))), .bool (negB (a2c x.d)), .string (bs (numB (a2c x.d))), .string (bs (a0a (a2c x.d))), .int .i64 ((x.e : Int) % 50), .int .i64 ((x.f : Int) % 5), .bool false, .string (bs []), .string (bs []), .int .i64 0, .int .i64 ((x.f : Int) / 5 % 4 - 1)] := by
 have h0 : b0z x = 0 := by unfold b0z; rw [if_neg h]
 unfold a2x Prf.enc
 rw [h0, enc000q.1, enc000q.2.1, enc000q.2.2]
 simp only [if_neg h, Int.natCast_emod, Int.natCast_ediv]
 rfl
theorem c2q (x : Nat) (w : World) (hx : x <= 65535) :
  Calls Tryz.prog 20 #[.int .u16 (x : Nat)] w fun e w' => e = .returned (.string (bs (b1w (x % 12)))) /\ Below w.heap.size w w' := by
 have hk : x % 12 = 0 \/ x % 12 = 1 \/ x % 12 = 2 \/ x % 12 = 3 \/ x % 12 = 4 \/ x % 12 = 5 \/ x % 12 = 6 \/ x % 12 = 7 \/ x % 12 = 8 \/ x % 12 = 9 \/ x % 12 = 10 \/ x % 12 = 11 := by omega
 rcases hk with h | h | h | h | h | h | h | h | h | h | h | h
 ·rw [h]
  have h2 : Int.tmod (x : Int) 12 = 0 := by rw [Int.tmod_eq_emod_of_nonneg (by omega)]; omega
  clear h
  go_enter Tryz.func20, Tryz.ntmps20
  go_wp2
  go_ret
  exact ⟨rfl, Ext.alloc (Below.refl _ _) _⟩
 ·rw [h]
  have h2 : Int.tmod (x : Int) 12 = 1 := by rw [Int.tmod_eq_emod_of_nonneg (by omega)]; omega
  clear h
  go_enter Tryz.func20, Tryz.ntmps20
  go_wp2
  go_ret
  exact ⟨rfl, Ext.alloc (Below.refl _ _) _⟩
 ·rw [h]
  have h2 : Int.tmod (x : Int) 12 = 2 := by rw [Int.tmod_eq_emod_of_nonneg (by omega)]; omega
  clear h
  go_enter Tryz.func20, Tryz.ntmps20
  go_wp2
  go_ret
  exact ⟨rfl, Ext.alloc (Below.refl _ _) _⟩
 ·rw [h]
  have h2 : Int.tmod (x : Int) 12 = 3 := by rw [Int.tmod_eq_emod_of_nonneg (by omega)]; omega
  clear h
  go_enter Tryz.func20, Tryz.ntmps20
  go_wp2
  go_ret
  exact ⟨rfl, Ext.alloc (Below.refl _ _) _⟩
 ·rw [h]
  have h2 : Int.tmod (x : Int) 12 = 4 := by rw [Int.tmod_eq_emod_of_nonneg (by omega)]; omega
  clear h
  go_enter Tryz.func20, Tryz.ntmps20
  go_wp2
  go_ret
  exact ⟨rfl, Ext.alloc (Below.refl _ _) _⟩
 ·rw [h]
  have h2 : Int.tmod (x : Int) 12 = 5 := by rw [Int.tmod_eq_emod_of_nonneg (by omega)]; omega
  clear h
  go_enter Tryz.func20, Tryz.ntmps20
  go_wp2
  go_ret
  exact ⟨rfl, Ext.alloc (Below.refl _ _) _⟩
 ·rw [h]
  have h2 : Int.tmod (x : Int) 12 = 6 := by rw [Int.tmod_eq_emod_of_nonneg (by omega)]; omega
  clear h
  go_enter Tryz.func20, Tryz.ntmps20
  go_wp2
  go_ret
  exact ⟨rfl, Ext.alloc (Below.refl _ _) _⟩
 ·rw [h]
  have h2 : Int.tmod (x : Int) 12 = 7 := by rw [Int.tmod_eq_emod_of_nonneg (by omega)]; omega
  clear h
  go_enter Tryz.func20, Tryz.ntmps20
  go_wp2
  go_ret
  exact ⟨rfl, Ext.alloc (Below.refl _ _) _⟩
 ·rw [h]
  have h2 : Int.tmod (x : Int) 12 = 8 := by rw [Int.tmod_eq_emod_of_nonneg (by omega)]; omega
  clear h
  go_enter Tryz.func20, Tryz.ntmps20
  go_wp2
  go_ret
  exact ⟨rfl, Ext.alloc (Below.refl _ _) _⟩
 ·rw [h]
  have h2 : Int.tmod (x : Int) 12 = 9 := by rw [Int.tmod_eq_emod_of_nonneg (by omega)]; omega
  clear h
  go_enter Tryz.func20, Tryz.ntmps20
  go_wp2
  go_ret
  exact ⟨rfl, Ext.alloc (Below.refl _ _) _⟩
 ·rw [h]
  have h2 : Int.tmod (x : Int) 12 = 10 := by rw [Int.tmod_eq_emod_of_nonneg (by omega)]; omega
  clear h
  go_enter Tryz.func20, Tryz.ntmps20
  go_wp2
  go_ret
  exact ⟨rfl, Ext.alloc (Below.refl _ _) _⟩
 rw [h]
 have h2 : Int.tmod (x : Int) 12 = 11 := by rw [Int.tmod_eq_emod_of_nonneg (by omega)]; omega
 clear h
 go_enter Tryz.func20, Tryz.ntmps20
 go_wp2
 go_ret
 exact ⟨rfl, Ext.alloc (Below.refl _ _) _⟩
theorem c7u (x : Six) (w : World) (hx : x.ok) :
  Calls Tryz.prog 22 #[.agg #[.int .u16 (x.a : Nat), .int .u16 (x.b : Nat), .int .u16 (x.c : Nat), .int .u16 (x.d : Nat), .int .u16 (x.e : Nat), .int .u16 (x.f : Nat)]] w fun e w' => e = .returned (.agg (a2x x).enc.toArray) /\ Below w.heap.size w w' := by
 obtain ⟨xa, xb, xc, xd, xe, xf⟩ := hx
 have hN := fun W => c2q x.a W xa
 have hA := fun W => b6k x.d W xd
 have hR := fun W => b0g (1 + (x.c : Int) / 4 % 9) 100 W (by omega) (by omega) (by decide) (by decide)
 have hp1 := @c2f x
 have hp0 := @c2g x
 have hr1 : x.c % 3 = 0 -> mkRat (1 + (x.c : Int) / 4 % 9) 100 = b0z x := fun h => by unfold b0z; rw [if_pos h]
 rw [show (100 : Int).toNat = 100 from rfl] at hR
 generalize (a2x x).enc = pe at *
 generalize a2c x.d = aq at *
 generalize b0z x = rq at *
 generalize b1w (x.a % 12) = nm at *
 unfold rat at hA hR
 unfold raw at hA
 have HN := zh hN
 have HA := zh hA
 have m1 : Int.tmod (x.b : Int) 4 = (x.b : Int) % 4 := Int.tmod_eq_emod_of_nonneg (by omega)
 have m2 : Int.tdiv (x.b : Int) 4 = (x.b : Int) / 4 := Int.tdiv_eq_ediv_of_nonneg (by omega)
 have m3 : Int.tmod ((x.b : Int) / 4) 9 = (x.b : Int) / 4 % 9 := Int.tmod_eq_emod_of_nonneg (by omega)
 have m4 : Int.tmod (x.e : Int) 50 = (x.e : Int) % 50 := Int.tmod_eq_emod_of_nonneg (by omega)
 have m5 : Int.tmod (x.f : Int) 5 = (x.f : Int) % 5 := Int.tmod_eq_emod_of_nonneg (by omega)
 have m6 : Int.tdiv (x.f : Int) 5 = (x.f : Int) / 5 := Int.tdiv_eq_ediv_of_nonneg (by omega)
 have m7 : Int.tmod ((x.f : Int) / 5) 4 = (x.f : Int) / 5 % 4 := Int.tmod_eq_emod_of_nonneg (by omega)
 have m8 : Int.tmod (x.c : Int) 3 = (x.c : Int) % 3 := Int.tmod_eq_emod_of_nonneg (by omega)
 have m9 : Int.tdiv (x.c : Int) 4 = (x.c : Int) / 4 := Int.tdiv_eq_ediv_of_nonneg (by omega)
 have mA : Int.tmod ((x.c : Int) / 4) 9 = (x.c : Int) / 4 % 9 := Int.tmod_eq_emod_of_nonneg (by omega)
 have mB : Int.tdiv (x.e : Int) 50 = (x.e : Int) / 50 := Int.tdiv_eq_ediv_of_nonneg (by omega)
 have mC : Int.tmod ((x.e : Int) / 50) 60 = (x.e : Int) / 50 % 60 := Int.tmod_eq_emod_of_nonneg (by omega)
 have u0 : IntKind.u16.wrap ((x.b : Int) % 4) = (x.b : Int) % 4 := by rw [IntKind.wrap_u16]; omega
 have u1 : IntKind.u16.wrap ((x.b : Int) / 4) = (x.b : Int) / 4 := by rw [IntKind.wrap_u16]; omega
 have u2 : IntKind.u16.wrap ((x.b : Int) / 4 % 9) = (x.b : Int) / 4 % 9 := by rw [IntKind.wrap_u16]; omega
 have u3 : IntKind.u16.wrap ((x.e : Int) % 50) = (x.e : Int) % 50 := by rw [IntKind.wrap_u16]; omega
 have u4 : IntKind.u16.wrap ((x.f : Int) % 5) = (x.f : Int) % 5 := by rw [IntKind.wrap_u16]; omega
 have u5 : IntKind.u16.wrap ((x.f : Int) / 5) = (x.f : Int) / 5 := by rw [IntKind.wrap_u16]; omega
 have u6 : IntKind.u16.wrap ((x.f : Int) / 5 % 4) = (x.f : Int) / 5 % 4 := by rw [IntKind.wrap_u16]; omega
 have u7 : IntKind.u16.wrap ((x.c : Int) % 3) = (x.c : Int) % 3 := by rw [IntKind.wrap_u16]; omega
 have u8 : IntKind.u16.wrap ((x.c : Int) / 4) = (x.c : Int) / 4 := by rw [IntKind.wrap_u16]; omega
 have u9 : IntKind.u16.wrap ((x.c : Int) / 4 % 9) = (x.c : Int) / 4 % 9 := by rw [IntKind.wrap_u16]; omega
 have u10 : IntKind.u16.wrap ((x.e : Int) / 50) = (x.e : Int) / 50 := by rw [IntKind.wrap_u16]; omega
 have u11 : IntKind.u16.wrap ((x.e : Int) / 50 % 60) = (x.e : Int) / 50 % 60 := by rw [IntKind.wrap_u16]; omega
 have i0 : IntKind.i64.wrap ((x.b : Int) % 4) = (x.b : Int) % 4 := IntWalk.i64_in _ (by omega)
 have i1 : IntKind.i64.wrap ((x.b : Int) / 4 % 9) = (x.b : Int) / 4 % 9 := IntWalk.i64_in _ (by omega)
 have i2 : IntKind.i64.wrap ((x.e : Int) % 50) = (x.e : Int) % 50 := IntWalk.i64_in _ (by omega)
 have i3 : IntKind.i64.wrap ((x.f : Int) % 5) = (x.f : Int) % 5 := IntWalk.i64_in _ (by omega)
 have i4 : IntKind.i64.wrap ((x.f : Int) / 5 % 4) = (x.f : Int) / 5 % 4 := IntWalk.i64_in _ (by omega)
 have i5 : IntKind.i64.wrap ((x.f : Int) / 5 % 4 - 1) = (x.f : Int) / 5 % 4 - 1 := IntWalk.i64_in _ (by omega)
 have i6 : IntKind.i64.wrap ((x.c : Int) / 4 % 9) = (x.c : Int) / 4 % 9 := IntWalk.i64_in _ (by omega)
 have i7 : IntKind.i64.wrap (1 + (x.c : Int) / 4 % 9) = 1 + (x.c : Int) / 4 % 9 := IntWalk.i64_in _ (by omega)
 have i8 : IntKind.i64.wrap ((x.e : Int) / 50 % 60) = (x.e : Int) / 50 % 60 := IntWalk.i64_in _ (by omega)
 have hcd : (#[.string (bs [69, 85, 82]), .string (bs [69, 85, 82]), .string (bs [85, 83, 68]), .string (bs [71, 66, 80])] : Array Value)[x.c % 4]? = some (.string (bs (c5a (x.c % 4)))) := by
  have hk : x.c % 4 = 0 \/ x.c % 4 = 1 \/ x.c % 4 = 2 \/ x.c % 4 = 3 := by omega
  rcases hk with hk | hk | hk | hk <;> (rw [hk]; rfl)
 have j0 : (0 : Int) <= (x.c : Int) % 4 := by omega
 have j1 : (x.c : Int) % 4 < 4 := by omega
 have mD : Int.tmod (x.c : Int) 4 = (x.c : Int) % 4 := Int.tmod_eq_emod_of_nonneg (by omega)
 have uD : IntKind.u16.wrap ((x.c : Int) % 4) = (x.c : Int) % 4 := by rw [IntKind.wrap_u16]; omega
 generalize c5a (x.c % 4) = cd at *
 have HCD := zh hcd
 clear hN hA hcd
 by_cases h : x.c % 3 = 0
 have h3 : ((x.c : Int) % 3 == 0) = true := by rw [beq_iff_eq]; omega
 have hen := hp1 h
 rw [hr1 h] at hR
 unfold raw at hR
 have HR := zh hR
 have HEN := zh hen
 clear hen hp0 hp1 hr1 hR h
 rotate_left
 have h3 : ((x.c : Int) % 3 == 0) = false := by rw [beq_eq_false_iff_ne]; omega
 have hen := hp0 h
 have HEN := zh hen
 clear hen hp0 hp1 hr1 hR h
 rotate_left
 all_goals
   go_enter Tryz.func22, Tryz.ntmps22
   have HS := zh (St.start w)
   go_wp2
   refine a3u (aL (aL HS #[.int .u16 (x.a : Nat), .int .u16 (x.b : Nat), .int .u16 (x.c : Nat), .int .u16 (x.d : Nat), .int .u16 (x.e : Nat), .int .u16 (x.f : Nat)] 25 w.heap.size) prfO 42 (w.heap.size + 1)).out ?_
   intro wg2 hb
   have HS2 := zh hb
   clear hb HS
   refine a0d 37 [eQ (.pointer (some ⟨w.heap.size, 0, none⟩)), eQ (.int .u16 (x.a : Nat)), eQ (.string (bs nm)), eQ (.pointer (some ⟨w.heap.size, 1, none⟩)), eQ (.int .u16 (x.b : Nat)), eQ (.int .u16 ((x.b : Int) % 4)), eQ (.int .i64 ((x.b : Int) % 4)), eQ (.pointer (some ⟨w.heap.size, 1, none⟩)), eQ (.int .u16 (x.b : Nat)), eQ (.int .u16 ((x.b : Int) / 4)), eQ (.int .u16 ((x.b : Int) / 4 % 9)), eQ (.int .i64 ((x.b : Int) / 4 % 9)), fun ww vv => ∃ g, vv = .slice (some ⟨g, 0, none⟩) 4 4 /\ wg2.heap.size <= g /\ Blk ww g #[.string (bs [69, 85, 82]), .string (bs [69, 85, 82]), .string (bs [85, 83, 68]), .string (bs [71, 66, 80])] 9, eQ (.pointer (some ⟨w.heap.size, 2, none⟩)), eQ (.int .u16 (x.c : Nat)), eQ (.int .u16 ((x.c : Int) % 4)), fun ww vv => ∃ g, vv = .pointer (some ⟨g, x.c % 4, none⟩) /\ wg2.heap.size <= g /\ Blk ww g #[.string (bs [69, 85, 82]), .string (bs [69, 85, 82]), .string (bs [85, 83, 68]), .string (bs [71, 66, 80])] 9, eQ (.string (bs cd)), eQ (.pointer (some ⟨w.heap.size, 3, none⟩)), eQ (.int .u16 (x.d : Nat)), eQ (.agg #[.bool (negB (aq)), .string (bs (numB (aq))), .string (bs (a0a (aq)))]), eQ (.pointer (some ⟨w.heap.size, 4, none⟩)), eQ (.int .u16 (x.e : Nat)), eQ (.int .u16 ((x.e : Int) % 50)), eQ (.int .i64 ((x.e : Int) % 50)), eQ (.pointer (some ⟨w.heap.size, 5, none⟩)), eQ (.int .u16 (x.f : Nat)), eQ (.int .u16 ((x.f : Int) % 5)), eQ (.int .i64 ((x.f : Int) % 5)), eQ (.pointer (some ⟨w.heap.size, 5, none⟩)), eQ (.int .u16 (x.f : Nat)), eQ (.int .u16 ((x.f : Int) / 5)), eQ (.int .u16 ((x.f : Int) / 5 % 4)), eQ (.int .i64 ((x.f : Int) / 5 % 4)), eQ (.int .i64 ((x.f : Int) / 5 % 4 - 1)), eQ (.agg #[.string (bs nm), .int .i64 ((x.b : Int) % 4), .int .i64 ((x.b : Int) / 4 % 9), .string (bs cd), .bool (negB (aq)), .string (bs (numB (aq))), .string (bs (a0a (aq))), .int .i64 ((x.e : Int) % 50), .int .i64 ((x.f : Int) % 5), .bool false, .string (bs []), .string (bs []), .int .i64 0, .int .i64 ((x.f : Int) / 5 % 4 - 1)]), fun ww vv => ∃ g, vv = .pointer (some ⟨g, 0, none⟩) /\ wg2.heap.size <= g /\ Blk ww g #[.string (bs []), .int .i64 0, .int .i64 0, .string (bs []), .bool false, .string (bs []), .string (bs []), .int .i64 0, .int .i64 0, .bool false, .string (bs []), .string (bs []), .int .i64 0, .int .i64 0] 42] rfl (by kernel_rfl) (by kernel_rfl) (by kernel_rfl) ⟨stE, stE, stE, stE, stE, stE, stE, stE, stE, stE, stE, stE, fun _ _ _ ⟨g, e, hg, h⟩ hb => ⟨g, e, hg, h.below hb h.lt⟩, stE, stE, stE, fun _ _ _ ⟨g, e, hg, h⟩ hb => ⟨g, e, hg, h.below hb h.lt⟩, stE, stE, stE, stE, stE, stE, stE, stE, stE, stE, stE, stE, stE, stE, stE, stE, stE, stE, stE, fun _ _ _ ⟨g, e, hg, h⟩ hb => ⟨g, e, hg, h.below hb h.lt⟩, trivial⟩ ?_ ?_
   refine ⟨?_, ?_, ?_, ?_, ?_, ?_, ?_, ?_, ?_, ?_, ?_, ?_, ?_, ?_, ?_, ?_, ?_, ?_, ?_, ?_, ?_, ?_, ?_, ?_, ?_, ?_, ?_, ?_, ?_, ?_, ?_, ?_, ?_, ?_, ?_, ?_, ?_, trivial⟩ <;> (intro xx af wv hbx hev hev0 hd; have H := SH.mk hev hev0 hd; clear hev hev0 hd)
   ·have e1 := H.i 1; clear H; go_wp2; exact sQ rfl
   ·have e4 := H.r 0 4; clear H; have hs1 := zh (HS2.out.call hbx); have y0 := cC hs1 1 0; go_wp2; exact sQ rfl
   ·have e5 := H.r 1 5; clear H
    go_wp2_with fail
    refine (HN.out _).mono ?_
    rintro e w8 ⟨rfl, hb8⟩; go_wp2; exact StepQ.mk _ hb8 rfl
   ·have e1 := H.i 1; clear H; go_wp2; exact sQ rfl
   ·have e7 := H.r 3 7; clear H; have hs1 := zh (HS2.out.call hbx); have y0 := cC hs1 1 1; go_wp2; exact sQ rfl
   ·have e8 := H.r 4 8; clear H; go_wp2; exact sQ rfl
   ·have e9 := H.r 5 9; clear H; go_wp2; exact sQ rfl
   ·have e1 := H.i 1; clear H; go_wp2; exact sQ rfl
   ·have e11 := H.r 7 11; clear H; have hs1 := zh (HS2.out.call hbx); have y0 := cC hs1 1 1; go_wp2; exact sQ rfl
   ·have e12 := H.r 8 12; clear H; go_wp2; exact sQ rfl
   ·have e13 := H.r 9 13; clear H; go_wp2; exact sQ rfl
   ·have e14 := H.r 10 14; clear H; go_wp2; exact sQ rfl
   ·clear H; go_wp2; exact StepQ.mk _ (Ext.alloc (Below.refl _ _) _) ⟨_, rfl, hbx.size, Blk.new _ _ _⟩
   ·have e1 := H.i 1; clear H; go_wp2; exact sQ rfl
   ·have e17 := H.r 13 17; clear H; have hs1 := zh (HS2.out.call hbx); have y0 := cC hs1 1 2; go_wp2; exact sQ rfl
   ·have e18 := H.r 14 18; clear H; go_wp2; exact sQ rfl
   ·have e16 := H.ev 12 _ 16 rfl rfl; have d12 : ∃ g, (xx 12) = .slice (some ⟨g, 0, none⟩) 4 4 /\ wg2.heap.size <= g /\ Blk wv g #[.string (bs [69, 85, 82]), .string (bs [69, 85, 82]), .string (bs [85, 83, 68]), .string (bs [71, 66, 80])] 9 := H.hd ⟨12, .data⟩ (by simp) rfl; obtain ⟨g12, hx12, hg12, hB12⟩ := d12; rw [hx12] at e16; have e19 := H.r 15 19; clear H; go_wp2; exact StepQ.mk _ (Below.refl _ _) ⟨g12, rfl, hg12, hB12⟩
   ·have e20 := H.ev 16 _ 20 rfl rfl; have d16 : ∃ g, (xx 16) = .pointer (some ⟨g, x.c % 4, none⟩) /\ wg2.heap.size <= g /\ Blk wv g #[.string (bs [69, 85, 82]), .string (bs [69, 85, 82]), .string (bs [85, 83, 68]), .string (bs [71, 66, 80])] 9 := H.hd ⟨16, .data⟩ (by simp) rfl; obtain ⟨g16, hx16, hg16, hB16⟩ := d16; rw [hx16] at e20; clear H; have y0 := hB16.cell (x.c % 4) _ HCD.out; go_wp2; exact sQ rfl
   ·have e1 := H.i 1; clear H; go_wp2; exact sQ rfl
   ·have e22 := H.r 18 22; clear H; have hs1 := zh (HS2.out.call hbx); have y0 := cC hs1 1 3; go_wp2; exact sQ rfl
   ·have e23 := H.r 19 23; clear H
    go_wp2_with fail
    refine (HA.out _).mono ?_
    rintro e w8 ⟨rfl, hb8⟩; go_wp2; exact StepQ.mk _ hb8 rfl
   ·have e1 := H.i 1; clear H; go_wp2; exact sQ rfl
   ·have e25 := H.r 21 25; clear H; have hs1 := zh (HS2.out.call hbx); have y0 := cC hs1 1 4; go_wp2; exact sQ rfl
   ·have e26 := H.r 22 26; clear H; go_wp2; exact sQ rfl
   ·have e27 := H.r 23 27; clear H; go_wp2; exact sQ rfl
   ·have e1 := H.i 1; clear H; go_wp2; exact sQ rfl
   ·have e29 := H.r 25 29; clear H; have hs1 := zh (HS2.out.call hbx); have y0 := cC hs1 1 5; go_wp2; exact sQ rfl
   ·have e30 := H.r 26 30; clear H; go_wp2; exact sQ rfl
   ·have e31 := H.r 27 31; clear H; go_wp2; exact sQ rfl
   ·have e1 := H.i 1; clear H; go_wp2; exact sQ rfl
   ·have e33 := H.r 29 33; clear H; have hs1 := zh (HS2.out.call hbx); have y0 := cC hs1 1 5; go_wp2; exact sQ rfl
   ·have e34 := H.r 30 34; clear H; go_wp2; exact sQ rfl
   ·have e35 := H.r 31 35; clear H; go_wp2; exact sQ rfl
   ·have e36 := H.r 32 36; clear H; go_wp2; exact sQ rfl
   ·have e37 := H.r 33 37; clear H; go_wp2; exact sQ rfl
   ·have e6 := H.r 2 6; have e10 := H.r 6 10; have e15 := H.r 11 15; have e21 := H.r 17 21; have e24 := H.r 20 24; have e28 := H.r 24 28; have e32 := H.r 28 32; have e38 := H.r 34 38; clear H; go_wp2; exact sQ rfl
   ·clear H; go_wp2; exact StepQ.mk _ (Ext.alloc (Below.refl _ _) _) ⟨_, rfl, hbx.size, Blk.new _ _ _⟩
   intro xx w5 hb9 hv
   obtain ⟨g5_16, hv16, hlg16, hB16⟩ := hv 16 (by decide)
   obtain ⟨g5_36, hv36, hlg36, hB36⟩ := hv 36 (by decide)
   simp only [List.take, List.drop, a0r, Act.put]
   simp only [vQ hv 0, vQ hv 1, vQ hv 2, vQ hv 3, vQ hv 4, vQ hv 5, vQ hv 6, vQ hv 7, vQ hv 8, vQ hv 9, vQ hv 10, vQ hv 11, vQ hv 13, vQ hv 14, vQ hv 15, hv16, vQ hv 17, vQ hv 18, vQ hv 19, vQ hv 20, vQ hv 21, vQ hv 22, vQ hv 23, vQ hv 24, vQ hv 25, vQ hv 26, vQ hv 27, vQ hv 28, vQ hv 29, vQ hv 30, vQ hv 31, vQ hv 32, vQ hv 33, vQ hv 34, vQ hv 35, hv36]
   clear hv hv16 hv36
   have hne : g5_16 ≠ g5_36 := by
    intro e
    rw [e] at hB16
    have e2 := Option.some.inj (hB16.symm.trans hB36)
    simp at e2
   have HS5 := zh (HS2.out.fill2 hb9 hlg16 hB16 hlg36 hB36 hne)
   clear hlg16 hB16 hlg36 hB36 hne hb9 HS2
   simp only [List.setIfInBounds_toArray, List.set_cons_zero, List.set_cons_succ]
   go_wp2_with (refine a0e rfl _ _ _ rfl HS5.out 0 rfl [.string (bs nm), .int .i64 ((x.b : Int) % 4), .int .i64 ((x.b : Int) / 4 % 9), .string (bs cd), .bool (negB (aq)), .string (bs (numB (aq))), .string (bs (a0a (aq))), .int .i64 ((x.e : Int) % 50), .int .i64 ((x.f : Int) % 5), .bool false, .string (bs []), .string (bs []), .int .i64 0, .int .i64 ((x.f : Int) / 5 % 4 - 1)] rfl rfl rfl a8k rfl ?_)
   intro w6 hS6
 ·have HS6 : Hid (St w [⟨g5_36, #[.string (bs nm), .int .i64 ((x.b : Int) % 4), .int .i64 ((x.b : Int) / 4 % 9), .string (bs cd), .bool (negB (aq)), .string (bs (numB (aq))), .string (bs (a0a (aq))), .int .i64 ((x.e : Int) % 50), .int .i64 ((x.f : Int) % 5), .bool false, .string (bs []), .string (bs []), .int .i64 0, .int .i64 ((x.f : Int) / 5 % 4 - 1)], 42⟩, ⟨g5_16, #[.string (bs [69, 85, 82]), .string (bs [69, 85, 82]), .string (bs [85, 83, 68]), .string (bs [71, 66, 80])], 9⟩, _, _] w6) := zh hS6
  clear hS6 HS5
  have x1 := cC HS6 3 2
  go_wp2_with fail
  refine cL (HR.out _) HS6 fun w7 HS7 => ?_
  clear HS6 x1
  have x2 := cC HS7 0 9
  have x3 := cC HS7 0 10
  have x4 := cC HS7 0 11
  have x5 := cC HS7 3 4
  have x6 := cC HS7 0 12
  have x7 := cF HS7 0 9
  have x8 := cF HS7 0 10
  have x9 := cF HS7 0 11
  have x10 := cF HS7 0 12
  have x11 := cN HS7 0 1
  have x12 := cN HS7 1 0
  have x13 := cN HS7 0 2
  have x14 := cN HS7 2 0
  have x15 := cN HS7 0 3
  have x16 := cN HS7 3 0
  go_upto_region 5 with fail
  clear x2 x3 x4 x5 x6 x7 x8 x9 x10 x11 x12 x13 x14 x15 x16
  refine a3u (R := [⟨g5_36, #[.string (bs nm), .int .i64 ((x.b : Int) % 4), .int .i64 ((x.b : Int) / 4 % 9), .string (bs cd), .bool (negB (aq)), .string (bs (numB (aq))), .string (bs (a0a (aq))), .int .i64 ((x.e : Int) % 50), .int .i64 ((x.f : Int) % 5), .bool (negB (rq)), .string (bs (numB (rq))), .string (bs (a0a (rq))), .int .i64 ((x.e : Int) / 50 % 60), .int .i64 ((x.f : Int) / 5 % 4 - 1)], 42⟩, _, _, _]) (St.set (St.set (St.set (St.set (HS7.out) 0 rfl 9 _) 0 rfl 10 _) 0 rfl 11 _) 0 rfl 12 _) ?_
  intro wg8 hb
  have HS8 := zh hb
  clear hb HS7
  go_wp2_with (first | (refine wpList_load_mid rfl _ _ rfl (g5_36) (0) rfl [.string (bs nm), .int .i64 ((x.b : Int) % 4), .int .i64 ((x.b : Int) / 4 % 9), .string (bs cd), .bool (negB (aq)), .string (bs (numB (aq))), .string (bs (a0a (aq))), .int .i64 ((x.e : Int) % 50), .int .i64 ((x.f : Int) % 5), .bool (negB (rq)), .string (bs (numB (rq))), .string (bs (a0a (rq))), .int .i64 ((x.e : Int) / 50 % 60), .int .i64 ((x.f : Int) / 5 % 4 - 1)] _ (St.whole HS8.out 0 rfl) Tryz.underlying42 rfl a8k ?_) | (refine a0e rfl _ _ _ rfl HS8.out 2 rfl [.string (bs nm), .int .i64 ((x.b : Int) % 4), .int .i64 ((x.b : Int) / 4 % 9), .string (bs cd), .bool (negB (aq)), .string (bs (numB (aq))), .string (bs (a0a (aq))), .int .i64 ((x.e : Int) % 50), .int .i64 ((x.f : Int) % 5), .bool (negB (rq)), .string (bs (numB (rq))), .string (bs (a0a (rq))), .int .i64 ((x.e : Int) / 50 % 60), .int .i64 ((x.f : Int) / 5 % 4 - 1)] rfl rfl rfl a8k rfl ?_))
  intro w9 hS9
  have HS9 : Hid (St w [_, _, ⟨w.heap.size + 1, #[.string (bs nm), .int .i64 ((x.b : Int) % 4), .int .i64 ((x.b : Int) / 4 % 9), .string (bs cd), .bool (negB (aq)), .string (bs (numB (aq))), .string (bs (a0a (aq))), .int .i64 ((x.e : Int) % 50), .int .i64 ((x.f : Int) % 5), .bool (negB (rq)), .string (bs (numB (rq))), .string (bs (a0a (rq))), .int .i64 ((x.e : Int) / 50 % 60), .int .i64 ((x.f : Int) / 5 % 4 - 1)], 42⟩, _] w9) := zh hS9
  clear hS9 HS8
  go_wp2
  refine bodyPost_ret (b8v rfl _ _ _ rfl (HS9.out.blk 2 rfl) rfl) rfl ?_
  rw [HEN.out]
  exact ⟨rfl, HS9.out.below⟩
 have HS6 : Hid (St w [⟨g5_36, #[.string (bs nm), .int .i64 ((x.b : Int) % 4), .int .i64 ((x.b : Int) / 4 % 9), .string (bs cd), .bool (negB (aq)), .string (bs (numB (aq))), .string (bs (a0a (aq))), .int .i64 ((x.e : Int) % 50), .int .i64 ((x.f : Int) % 5), .bool false, .string (bs []), .string (bs []), .int .i64 0, .int .i64 ((x.f : Int) / 5 % 4 - 1)], 42⟩, _, _, _] w6) := zh hS6
 clear hS6 HS5
 have x1 := cC HS6 3 2
 go_wp2_with (first | (refine wpList_load_mid rfl _ _ rfl (g5_36) (0) rfl [.string (bs nm), .int .i64 ((x.b : Int) % 4), .int .i64 ((x.b : Int) / 4 % 9), .string (bs cd), .bool (negB (aq)), .string (bs (numB (aq))), .string (bs (a0a (aq))), .int .i64 ((x.e : Int) % 50), .int .i64 ((x.f : Int) % 5), .bool false, .string (bs []), .string (bs []), .int .i64 0, .int .i64 ((x.f : Int) / 5 % 4 - 1)] _ (St.whole HS6.out 0 rfl) Tryz.underlying42 rfl a8k ?_) | (refine a0e rfl _ _ _ rfl HS6.out 2 rfl [.string (bs nm), .int .i64 ((x.b : Int) % 4), .int .i64 ((x.b : Int) / 4 % 9), .string (bs cd), .bool (negB (aq)), .string (bs (numB (aq))), .string (bs (a0a (aq))), .int .i64 ((x.e : Int) % 50), .int .i64 ((x.f : Int) % 5), .bool false, .string (bs []), .string (bs []), .int .i64 0, .int .i64 ((x.f : Int) / 5 % 4 - 1)] rfl rfl rfl a8k rfl ?_))
 intro w7 hS7
 have HS7 : Hid (St w [_, _, ⟨w.heap.size + 1, #[.string (bs nm), .int .i64 ((x.b : Int) % 4), .int .i64 ((x.b : Int) / 4 % 9), .string (bs cd), .bool (negB (aq)), .string (bs (numB (aq))), .string (bs (a0a (aq))), .int .i64 ((x.e : Int) % 50), .int .i64 ((x.f : Int) % 5), .bool false, .string (bs []), .string (bs []), .int .i64 0, .int .i64 ((x.f : Int) / 5 % 4 - 1)], 42⟩, _] w7) := zh hS7
 clear hS7 HS6 x1
 go_wp2
 refine bodyPost_ret (b8v rfl _ _ _ rfl (HS7.out.blk 2 rfl) rfl) rfl ?_
 rw [HEN.out]
 exact ⟨rfl, HS7.out.below⟩
theorem d0w {a : ActN} (day : Int) (h : a.kind % 11 = 1) : (evOf a day).enc = [.int .i64 ((a.kind : Int) % 11), .int .i64 day, .string (bs (b1w (a.claim % 12))), .bool (negB (a2c a.am)), .string (bs (numB (a2c a.am))), .string (bs (a0a (a2c a.am))), .int .i64 ((a.am : Int) % 10), .string (bs (b1w (a.claim % 12))), .int .i64 (a2x a.p).est, .int .i64 (a2x a.p).cre, .string (bs (a2x a.p).code), .bool (a2x a.p).an, .string (bs (a2x a.p).aa), .string (bs (a2x a.p).ab), .int .i64 (a2x a.p).inc, .int .i64 (a2x a.p).rank, .bool (a2x a.p).rn, .string (bs (a2x a.p).ra), .string (bs (a2x a.p).rb), .int .i64 (a2x a.p).rf, .int .i64 (a2x a.p).sec] := by
 unfold evOf Evt.enc
 simp only [if_pos h, Int.natCast_emod]
 rfl
theorem d0x {a : ActN} (day : Int) (h : ¬ a.kind % 11 = 1) : (evOf a day).enc = [.int .i64 ((a.kind : Int) % 11), .int .i64 day, .string (bs (b1w (a.claim % 12))), .bool (negB (a2c a.am)), .string (bs (numB (a2c a.am))), .string (bs (a0a (a2c a.am))), .int .i64 ((a.am : Int) % 10), .string (bs []), .int .i64 0, .int .i64 0, .string (bs []), .bool false, .string (bs []), .string (bs []), .int .i64 0, .int .i64 0, .bool false, .string (bs []), .string (bs []), .int .i64 0, .int .i64 0] := by
 unfold evOf Evt.enc
 simp only [if_neg h, Int.natCast_emod]
 rfl
theorem b6h (a : ActN) (day : Int) (w : World) (ha : a.ok) :
  Calls Tryz.prog 8 #[.agg #[.int .u8 (a.kind : Nat), .int .u8 (a.pass : Nat), .int .u8 (a.claim : Nat), .int .u16 (a.am : Nat), .int .u16 (a.p.a : Nat), .int .u16 (a.p.b : Nat), .int .u16 (a.p.c : Nat), .int .u16 (a.p.d : Nat), .int .u16 (a.p.e : Nat), .int .u16 (a.p.f : Nat)], .int .i64 day] w fun e w' => e = .returned (.agg (evOf a day).enc.toArray) /\ Below w.heap.size w w' := by
 obtain ⟨⟨xa, xb, xc, xd⟩, xp⟩ := ha
 have hN := fun W => c2q a.claim W (by omega)
 have hA := fun W => b6k a.am W xd
 have hP := fun W => c7u a.p W xp
 have hp1 := @d0w a day
 have hp0 := @d0x a day
 generalize (evOf a day).enc = pe at *
 generalize a2c a.am = aq at *
 generalize a2x a.p = pp at *
 generalize b1w (a.claim % 12) = nm at *
 unfold rat raw at hA
 have HN := zh hN
 have HA := zh hA
 have HP := zh hP
 have m1 : Int.tmod (a.kind : Int) 11 = (a.kind : Int) % 11 := Int.tmod_eq_emod_of_nonneg (by omega)
 have m2 : Int.tmod (a.am : Int) 10 = (a.am : Int) % 10 := Int.tmod_eq_emod_of_nonneg (by omega)
 have u1 : IntKind.u8.wrap ((a.kind : Int) % 11) = (a.kind : Int) % 11 := by rw [IntKind.wrap_u8]; omega
 have u2 : IntKind.u16.wrap ((a.am : Int) % 10) = (a.am : Int) % 10 := by rw [IntKind.wrap_u16]; omega
 have u3 : IntKind.u16.wrap (a.claim : Int) = (a.claim : Int) := by rw [IntKind.wrap_u16]; omega
 have i1 : IntKind.i64.wrap ((a.kind : Int) % 11) = (a.kind : Int) % 11 := IntWalk.i64_in _ (by omega)
 have i2 : IntKind.i64.wrap ((a.am : Int) % 10) = (a.am : Int) % 10 := IntWalk.i64_in _ (by omega)
 clear hN hA hP
 by_cases h : a.kind % 11 = 1
 have h3 : ((a.kind : Int) % 11 == 1) = true := by rw [beq_iff_eq]; omega
 have HEN := zh (hp1 h)
 clear hp0 hp1 h
 rotate_left
 have h3 : ((a.kind : Int) % 11 == 1) = false := by rw [beq_eq_false_iff_ne]; omega
 have HEN := zh (hp0 h)
 clear hp0 hp1 h
 rotate_left
 all_goals
   go_enter Tryz.func8, Tryz.ntmps8
   have HS := zh (St.start w)
   go_wp2
   refine a3u (aL (aL HS #[.int .u8 (a.kind : Nat), .int .u8 (a.pass : Nat), .int .u8 (a.claim : Nat), .int .u16 (a.am : Nat), .int .u16 (a.p.a : Nat), .int .u16 (a.p.b : Nat), .int .u16 (a.p.c : Nat), .int .u16 (a.p.d : Nat), .int .u16 (a.p.e : Nat), .int .u16 (a.p.f : Nat)] 27 w.heap.size) #[.int .i64 0, .int .i64 0, .string (bs []), .bool false, .string (bs []), .string (bs []), .int .i64 0, .string (bs []), .int .i64 0, .int .i64 0, .string (bs []), .bool false, .string (bs []), .string (bs []), .int .i64 0, .int .i64 0, .bool false, .string (bs []), .string (bs []), .int .i64 0, .int .i64 0] 44 (w.heap.size + 1)).out ?_
   intro wg2 hb
   have HS2 := zh hb
   clear hb HS
   refine a0d 18 [eQ (.pointer (some ⟨w.heap.size, 0, none⟩)), eQ (.int .u8 (a.kind : Nat)), eQ (.int .u8 ((a.kind : Int) % 11)), eQ (.int .i64 ((a.kind : Int) % 11)), eQ (.int .i64 day), eQ (.pointer (some ⟨w.heap.size, 2, none⟩)), eQ (.int .u8 (a.claim : Nat)), eQ (.int .u16 (a.claim : Nat)), eQ (.string (bs nm)), eQ (.pointer (some ⟨w.heap.size, 3, none⟩)), eQ (.int .u16 (a.am : Nat)), eQ (.agg #[.bool (negB (aq)), .string (bs (numB (aq))), .string (bs (a0a (aq)))]), eQ (.pointer (some ⟨w.heap.size, 3, none⟩)), eQ (.int .u16 (a.am : Nat)), eQ (.int .u16 ((a.am : Int) % 10)), eQ (.int .i64 ((a.am : Int) % 10)), eQ (.agg #[.int .i64 ((a.kind : Int) % 11), .int .i64 day, .string (bs nm), .bool (negB (aq)), .string (bs (numB (aq))), .string (bs (a0a (aq))), .int .i64 ((a.am : Int) % 10), .string (bs []), .int .i64 0, .int .i64 0, .string (bs []), .bool false, .string (bs []), .string (bs []), .int .i64 0, .int .i64 0, .bool false, .string (bs []), .string (bs []), .int .i64 0, .int .i64 0]), fun ww vv => ∃ g, vv = .pointer (some ⟨g, 0, none⟩) /\ wg2.heap.size <= g /\ Blk ww g #[.int .i64 0, .int .i64 0, .string (bs []), .bool false, .string (bs []), .string (bs []), .int .i64 0, .string (bs []), .int .i64 0, .int .i64 0, .string (bs []), .bool false, .string (bs []), .string (bs []), .int .i64 0, .int .i64 0, .bool false, .string (bs []), .string (bs []), .int .i64 0, .int .i64 0] 44] rfl (by kernel_rfl) (by kernel_rfl) (by kernel_rfl) ⟨stE, stE, stE, stE, stE, stE, stE, stE, stE, stE, stE, stE, stE, stE, stE, stE, stE, fun _ _ _ ⟨g, e, hg, h⟩ hb => ⟨g, e, hg, h.below hb h.lt⟩, trivial⟩ ?_ ?_
   refine ⟨?_, ?_, ?_, ?_, ?_, ?_, ?_, ?_, ?_, ?_, ?_, ?_, ?_, ?_, ?_, ?_, ?_, ?_, trivial⟩ <;> (intro xx af wv hbx hev hev0 hd; have H := SH.mk hev hev0 hd; clear hev hev0 hd)
   ·have e2 := H.i 2; clear H; go_wp2; exact sQ rfl
   ·have e6 := H.r 0 6; clear H; have hs1 := zh (HS2.out.call hbx); have y0 := cC hs1 1 0; go_wp2; exact sQ rfl
   ·have e7 := H.r 1 7; clear H; go_wp2; exact sQ rfl
   ·have e8 := H.r 2 8; clear H; go_wp2; exact sQ rfl
   ·have e1 := H.i 1; clear H; go_wp2; exact sQ rfl
   ·have e2 := H.i 2; clear H; go_wp2; exact sQ rfl
   ·have e11 := H.r 5 11; clear H; have hs1 := zh (HS2.out.call hbx); have y0 := cC hs1 1 2; go_wp2; exact sQ rfl
   ·have e12 := H.r 6 12; clear H; go_wp2; exact sQ rfl
   ·have e13 := H.r 7 13; clear H
    go_wp2_with fail
    refine (HN.out _).mono ?_
    rintro e w8 ⟨rfl, hb8⟩; go_wp2; exact StepQ.mk _ hb8 rfl
   ·have e2 := H.i 2; clear H; go_wp2; exact sQ rfl
   ·have e15 := H.r 9 15; clear H; have hs1 := zh (HS2.out.call hbx); have y0 := cC hs1 1 3; go_wp2; exact sQ rfl
   ·have e16 := H.r 10 16; clear H
    go_wp2_with fail
    refine (HA.out _).mono ?_
    rintro e w8 ⟨rfl, hb8⟩; go_wp2; exact StepQ.mk _ hb8 rfl
   ·have e2 := H.i 2; clear H; go_wp2; exact sQ rfl
   ·have e18 := H.r 12 18; clear H; have hs1 := zh (HS2.out.call hbx); have y0 := cC hs1 1 3; go_wp2; exact sQ rfl
   ·have e19 := H.r 13 19; clear H; go_wp2; exact sQ rfl
   ·have e20 := H.r 14 20; clear H; go_wp2; exact sQ rfl
   ·have e9 := H.r 3 9; have e10 := H.r 4 10; have e14 := H.r 8 14; have e17 := H.r 11 17; have e21 := H.r 15 21; clear H; go_wp2; exact sQ rfl
   ·clear H; go_wp2; exact StepQ.mk _ (Ext.alloc (Below.refl _ _) _) ⟨_, rfl, hbx.size, Blk.new _ _ _⟩
   intro xx w5 hb9 hv
   obtain ⟨g5, hv17, hlg17, hB17⟩ := hv 17 (by decide)
   simp only [List.take, List.drop, a0r, Act.put]
   simp only [vQ hv 0, vQ hv 1, vQ hv 2, vQ hv 3, vQ hv 4, vQ hv 5, vQ hv 6, vQ hv 7, vQ hv 8, vQ hv 9, vQ hv 10, vQ hv 11, vQ hv 12, vQ hv 13, vQ hv 14, vQ hv 15, vQ hv 16, hv17]
   clear hv hv17
   have HS5 := zh (HS2.out.fill hb9 hlg17 hB17)
   clear hlg17 hB17 hb9 HS2
   simp only [List.setIfInBounds_toArray, List.set_cons_zero, List.set_cons_succ]
   go_wp2_with (refine a0e rfl _ _ _ rfl HS5.out 0 rfl [.int .i64 ((a.kind : Int) % 11), .int .i64 day, .string (bs nm), .bool (negB (aq)), .string (bs (numB (aq))), .string (bs (a0a (aq))), .int .i64 ((a.am : Int) % 10), .string (bs []), .int .i64 0, .int .i64 0, .string (bs []), .bool false, .string (bs []), .string (bs []), .int .i64 0, .int .i64 0, .bool false, .string (bs []), .string (bs []), .int .i64 0, .int .i64 0] rfl rfl rfl a3m rfl ?_)
   intro w6 hS6
   have HS6 : Hid (St w [⟨g5, #[.int .i64 ((a.kind : Int) % 11), .int .i64 day, .string (bs nm), .bool (negB (aq)), .string (bs (numB (aq))), .string (bs (a0a (aq))), .int .i64 ((a.am : Int) % 10), .string (bs []), .int .i64 0, .int .i64 0, .string (bs []), .bool false, .string (bs []), .string (bs []), .int .i64 0, .int .i64 0, .bool false, .string (bs []), .string (bs []), .int .i64 0, .int .i64 0], 44⟩, _, _] w6) := zh hS6
   clear hS6 HS5
   have x1 := cC HS6 2 0
 ·obtain ⟨x2, x3, x4⟩ := HS6.out.k4 2 rfl rfl rfl rfl
  obtain ⟨x5, x6, x7⟩ := HS6.out.k7 2 rfl rfl rfl rfl
  go_wp2_with fail
  refine cL (HP.out _) HS6 fun w7 HS7 => ?_
  clear HS6 x1 x2 x3 x4 x5 x6 x7
  go_wp2_with (refine a8s (pre := [.int .i64 ((a.kind : Int) % 11), .int .i64 day, .string (bs nm), .bool (negB (aq)), .string (bs (numB (aq))), .string (bs (a0a (aq))), .int .i64 ((a.am : Int) % 10)]) (z := [.string (bs []), .int .i64 0, .int .i64 0, .string (bs []), .bool false, .string (bs []), .string (bs []), .int .i64 0, .int .i64 0, .bool false, .string (bs []), .string (bs []), .int .i64 0, .int .i64 0]) (post := []) rfl _ _ _ rfl HS7.out 0 rfl rfl [.string (bs pp.id), .int .i64 pp.est, .int .i64 pp.cre, .string (bs pp.code), .bool pp.an, .string (bs pp.aa), .string (bs pp.ab), .int .i64 pp.inc, .int .i64 pp.rank, .bool pp.rn, .string (bs pp.ra), .string (bs pp.rb), .int .i64 pp.rf, .int .i64 pp.sec] rfl rfl rfl a8k rfl ?_)
  intro w8 hS8
  have HS8 : Hid (St w [⟨g5, #[.int .i64 ((a.kind : Int) % 11), .int .i64 day, .string (bs nm), .bool (negB (aq)), .string (bs (numB (aq))), .string (bs (a0a (aq))), .int .i64 ((a.am : Int) % 10), .string (bs pp.id), .int .i64 pp.est, .int .i64 pp.cre, .string (bs pp.code), .bool pp.an, .string (bs pp.aa), .string (bs pp.ab), .int .i64 pp.inc, .int .i64 pp.rank, .bool pp.rn, .string (bs pp.ra), .string (bs pp.rb), .int .i64 pp.rf, .int .i64 pp.sec], 44⟩, _, _] w8) := zh hS8
  clear hS8 HS7
  have x8 := cC HS8 0 2
  have x9 := cC HS8 0 7
  have x10 := cF HS8 0 7
  have x11 := cN HS8 0 1
  have x12 := cN HS8 1 0
  have x13 := cN HS8 0 2
  have x14 := cN HS8 2 0
  go_upto_region 5 with fail
  clear x8 x9 x10 x11 x12 x13 x14
  refine a3u (R := [⟨g5, #[.int .i64 ((a.kind : Int) % 11), .int .i64 day, .string (bs nm), .bool (negB (aq)), .string (bs (numB (aq))), .string (bs (a0a (aq))), .int .i64 ((a.am : Int) % 10), .string (bs nm), .int .i64 pp.est, .int .i64 pp.cre, .string (bs pp.code), .bool pp.an, .string (bs pp.aa), .string (bs pp.ab), .int .i64 pp.inc, .int .i64 pp.rank, .bool pp.rn, .string (bs pp.ra), .string (bs pp.rb), .int .i64 pp.rf, .int .i64 pp.sec], 44⟩, _, _]) (St.set (HS8.out) 0 rfl 7 _) ?_
  intro wg9 hb
  have HS9 := zh hb
  clear hb HS8
  go_wp2_with (first | (refine wpList_load_mid rfl _ _ rfl (g5) (0) rfl [.int .i64 ((a.kind : Int) % 11), .int .i64 day, .string (bs nm), .bool (negB (aq)), .string (bs (numB (aq))), .string (bs (a0a (aq))), .int .i64 ((a.am : Int) % 10), .string (bs nm), .int .i64 pp.est, .int .i64 pp.cre, .string (bs pp.code), .bool pp.an, .string (bs pp.aa), .string (bs pp.ab), .int .i64 pp.inc, .int .i64 pp.rank, .bool pp.rn, .string (bs pp.ra), .string (bs pp.rb), .int .i64 pp.rf, .int .i64 pp.sec] _ (St.whole HS9.out 0 rfl) Tryz.underlying44 rfl a3m ?_) | (refine a0e rfl _ _ _ rfl HS9.out 1 rfl [.int .i64 ((a.kind : Int) % 11), .int .i64 day, .string (bs nm), .bool (negB (aq)), .string (bs (numB (aq))), .string (bs (a0a (aq))), .int .i64 ((a.am : Int) % 10), .string (bs nm), .int .i64 pp.est, .int .i64 pp.cre, .string (bs pp.code), .bool pp.an, .string (bs pp.aa), .string (bs pp.ab), .int .i64 pp.inc, .int .i64 pp.rank, .bool pp.rn, .string (bs pp.ra), .string (bs pp.rb), .int .i64 pp.rf, .int .i64 pp.sec] rfl rfl rfl a3m rfl ?_))
  intro w10 hS10
  have HS10 : Hid (St w [_, ⟨w.heap.size + 1, #[.int .i64 ((a.kind : Int) % 11), .int .i64 day, .string (bs nm), .bool (negB (aq)), .string (bs (numB (aq))), .string (bs (a0a (aq))), .int .i64 ((a.am : Int) % 10), .string (bs nm), .int .i64 pp.est, .int .i64 pp.cre, .string (bs pp.code), .bool pp.an, .string (bs pp.aa), .string (bs pp.ab), .int .i64 pp.inc, .int .i64 pp.rank, .bool pp.rn, .string (bs pp.ra), .string (bs pp.rb), .int .i64 pp.rf, .int .i64 pp.sec], 44⟩, _] w10) := zh hS10
  clear hS10 HS9
  go_wp2
  refine bodyPost_ret (b9h rfl _ _ _ rfl (HS10.out.blk 1 rfl) rfl) rfl ?_
  rw [HEN.out]
  exact ⟨rfl, HS10.out.below⟩
 go_wp2_with (first | (refine wpList_load_mid rfl _ _ rfl (g5) (0) rfl [.int .i64 ((a.kind : Int) % 11), .int .i64 day, .string (bs nm), .bool (negB (aq)), .string (bs (numB (aq))), .string (bs (a0a (aq))), .int .i64 ((a.am : Int) % 10), .string (bs []), .int .i64 0, .int .i64 0, .string (bs []), .bool false, .string (bs []), .string (bs []), .int .i64 0, .int .i64 0, .bool false, .string (bs []), .string (bs []), .int .i64 0, .int .i64 0] _ (St.whole HS6.out 0 rfl) Tryz.underlying44 rfl a3m ?_) | (refine a0e rfl _ _ _ rfl HS6.out 1 rfl [.int .i64 ((a.kind : Int) % 11), .int .i64 day, .string (bs nm), .bool (negB (aq)), .string (bs (numB (aq))), .string (bs (a0a (aq))), .int .i64 ((a.am : Int) % 10), .string (bs []), .int .i64 0, .int .i64 0, .string (bs []), .bool false, .string (bs []), .string (bs []), .int .i64 0, .int .i64 0, .bool false, .string (bs []), .string (bs []), .int .i64 0, .int .i64 0] rfl rfl rfl a3m rfl ?_))
 intro w7 hS7
 have HS7 : Hid (St w [_, ⟨w.heap.size + 1, #[.int .i64 ((a.kind : Int) % 11), .int .i64 day, .string (bs nm), .bool (negB (aq)), .string (bs (numB (aq))), .string (bs (a0a (aq))), .int .i64 ((a.am : Int) % 10), .string (bs []), .int .i64 0, .int .i64 0, .string (bs []), .bool false, .string (bs []), .string (bs []), .int .i64 0, .int .i64 0, .bool false, .string (bs []), .string (bs []), .int .i64 0, .int .i64 0], 44⟩, _] w7) := zh hS7
 clear hS7 HS6 x1
 go_wp2
 refine bodyPost_ret (b9h rfl _ _ _ rfl (HS7.out.blk 1 rfl) rfl) rfl ?_
 rw [HEN.out]
 exact ⟨rfl, HS7.out.below⟩
def usdQ : Quo := ⟨usdL, 0, negB (mkRat 9 10), numB (mkRat 9 10), a0a (mkRat 9 10)⟩
theorem d0m (w : World) : Calls Tryz.prog 27 #[] w fun e w' => ∃ v', e = .returned v' /\ a3f w' v' [usdQ] /\ Below w.heap.size w w' := by
 have hR := fun W => b0g 9 10 W (by decide) (by decide) (by decide) (by decide)
 rw [show (10 : Int).toNat = 10 from rfl] at hR
 obtain ⟨rq, hrq⟩ : ∃ y, y = mkRat 9 10 := ⟨_, rfl⟩
 have huq : usdQ = ⟨usdL, 0, negB rq, numB rq, a0a rq⟩ := by rw [hrq]; rfl
 rw [<- hrq] at hR
 unfold rat raw at hR
 have HR := zh hR
 have HU := zh huq
 clear hR hrq huq
 go_enter Tryz.func27, Tryz.ntmps27
 have HS := zh (St.start w)
 go_wp2_with fail
 refine cL (HR.out _) HS fun w2 HS2 => ?_
 clear HS
 go_wp2
 go_ret
 have HS3 := aL HS2 #[.string (bs [85, 83, 68]), .int .i64 0, .bool (negB (rq)), .string (bs (numB (rq))), .string (bs (a0a (rq)))] 52 w2.heap.size
 rw [HU.out]
 exact ⟨_, rfl, Slc.of_blk a8j (HS3.out.blk 0 rfl) rfl rfl (Nat.le_refl _) (by decide), HS3.out.below⟩
theorem c2p (v : Value) (ts : List Tri) (w : World) (h : Tris w v ts) (hok : ∀ t ∈ ts, t.ok) :
  Calls Tryz.prog 4 #[v] w fun e w' => ∃ v', e = .returned v' /\ a3f w' v' (a2g ts) /\ Below w.heap.size w w' := by
 obtain ⟨i0, hi0, hz0, hz1, hz2⟩ := info_parts b9d
 have HI := zh hi0
 have hQ := fun W (hb : Below w.heap.size w W) => b6j v ts W (h.below hb) hok
 have hI := fun W => a4z 1 W (by decide) (by decide)
 have hl := c1y ts
 have hr : a2g ts = a7d ts ++ [chfQ] := rfl
 obtain ⟨rq, hrq⟩ : ∃ y, y = (1 : Rat) := ⟨_, rfl⟩
 have hcq : chfQ = ⟨[67, 72, 70], 1, negB rq, numB rq, a0a rq⟩ := by rw [hrq]; rfl
 change ∀ W, Calls Tryz.prog _ _ W (fun e w' => e = .returned (rat 1) /\ _) at hI
 rw [<- hrq] at hI
 rw [hcq] at hr
 generalize a7d ts = qs at *
 unfold rat raw at hI
 have HQ := zh hQ
 have HN := zh hI
 have HL := zh hl
 have HR := zh hr
 clear h hok hQ hI hl hr hrq hcq hi0
 go_enter Tryz.func4, Tryz.ntmps4
 have HS := zh (St.start w)
 go_wp2_with fail
 refine (HQ.out _ HS.out.below).mono ?_
 rintro e w2 ⟨v2, rfl, hG2, hb2⟩
 obtain ⟨A2, c2, hv2, _, _⟩ := (Slc.of_own a8j hG2 rfl).slice
 subst hv2
 have hG2 : Grows w2 w.heap.size 52 5 (.slice A2 qs.length c2) qs.length (flat Quo.enc qs) := hG2
 have HS2 := zh (HS.out.call hb2)
 have G_2 := zh hG2
 clear hG2 hb2 HS
 go_wp2_with fail
 refine (HN.out _).mono ?_
 rintro e w3 ⟨rfl, hb3⟩
 have HS3 := zh (HS2.out.call hb3)
 have G_3 := zh (G_2.out.below hb3)
 clear G_2 hb3 HS2
 go_wp2_with (at_builtin; refine a7n _ rfl _ _ 28 rfl w.heap.size 52 i0 _ 5 _ Tryz.underlying28 HI.out hz0 hz1 hz2 rfl (by decide) a8j _ qs.length qs (by simp [Act.eval]) (G_3.out.below (Ext.alloc (Below.refl w3.heap.size w3) (Obj.cells #[.string (bs [67, 72, 70]), .int .i64 1, .bool (negB (rq)), .string (bs (numB (rq))), .string (bs (a0a (rq)))] 52))) ⟨[67, 72, 70], 1, negB rq, numB rq, a0a rq⟩ _ _ ((St.alloc (HS3.out) #[.string (bs [67, 72, 70]), .int .i64 1, .bool (negB (rq)), .string (bs (numB (rq))), .string (bs (a0a (rq)))] 52 (w3.heap.size) (by simp)).blk 0 rfl) rfl (by simp [Act.eval]) (c1z _) (by have := HL.out; unfold maxLen; omega) (by have := HL.out; omega) ((St.alloc (HS3.out) #[.string (bs [67, 72, 70]), .int .i64 1, .bool (negB (rq)), .string (bs (numB (rq))), .string (bs (a0a (rq)))] 52 (w3.heap.size) (by simp)).below.size) ?_)
 intro v2 w9 hown2 hgb2
 have hbel := (St.alloc (HS3.out) #[.string (bs [67, 72, 70]), .int .i64 1, .bool (negB (rq)), .string (bs (numB (rq))), .string (bs (a0a (rq)))] 52 (w3.heap.size) (by simp)).below
 have hgg := (G_3.out.below (Ext.alloc (Below.refl w3.heap.size w3) (Obj.cells #[.string (bs [67, 72, 70]), .int .i64 1, .bool (negB (rq)), .string (bs (numB (rq))), .string (bs (a0a (rq)))] 52)))
 obtain ⟨A9, c9, hv9, _, _⟩ := (Slc.of_own a8j hown2 (by simp)).slice
 subst hv9
 have HB9 := zh (hbel.grown hgb2 hbel.size (fun q hq => (World.ownsRow.lt hgg q hq).1))
 have HO9 := zh hown2
 clear hgb2 hbel hgg hown2 HS3 G_3
 go_wp2
 go_ret
 rw [HR.out]
 exact ⟨_, rfl, Slc.of_own a8j HO9.out (by simp), HB9.out⟩
end Go.Proofs.YtoighiepglclkaaGreatDoor
