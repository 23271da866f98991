/-
Part 36 of the base.
-/
import Derived.Test.YtlkhoommpkndpaaGreatDoorKj27
import Derived.Test.YtlkhoommpkndpaaGreatDoorKj35
set_option maxRecDepth 100000
set_option maxHeartbeats 4000000
namespace Go.Proofs.YtlkhoommpkndpaaGreatDoor
open Go.RowKit
theorem a5k : (Tryz.prog.info? 36).map (·.size) = some 14 := by kernel_rfl
theorem b4m {fn : Func} {p : Tmp} (h : fn.results = #[.cell p 36]) (tmps : Array Value) (w : World) (g : Nat) {cs : Array Value}
  (hp : tmps.getD p undef = .pointer (some ⟨g, 0, none⟩)) (hg : Blk w g cs 36) (hcs : cs.size = 14) : (results fn tmps).run Tryz.prog w = .ok (.agg cs) w :=
 results_cell_row h tmps w g _ _ _ _ hp hg Tryz.underlying36 rfl (by rw [hcs]; exact a5k)
theorem enc000q : negB (0 : Rat) = false /\ numB (0 : Rat) = [] /\ a0a (0 : Rat) = [] := by decide +kernel
theorem b7c {x : Six} (h : x.c % 3 = 0) : (a0y x).enc = [.string (bs (b8z (x.a % 12))), .int .i64 ((x.b : Int) % 4), .int .i64 ((x.b : Int) / 4 % 9), .string (bs (b9n (x.c % 4))), .bool (negB (a1w x.d)), .string (bs (numB (a1w x.d))), .string (bs (a0a (a1w x.d))), .int .i64 ((x.e : Int) % 50), .int .i64 ((x.f : Int) % 5), .bool (negB (a4t x)), .string (bs (numB (a4t x))), .string (bs (a0a (a4t x))), .int .i64 ((x.e : Int) / 50 % 60), .int .i64 ((x.f : Int) / 5 % 4 - 1)] := by
 unfold a0y Prf.enc
 simp only [if_pos h, Int.natCast_emod, Int.natCast_ediv]
 rfl
theorem b7d {x : Six} (h : ¬ x.c % 3 = 0) : (a0y x).enc = [.string (bs (b8z (x.a % 12))), .int .i64 ((x.b : Int) % 4), .int .i64 ((x.b : Int) / 4 % 9), .string (bs (b9n (x.c % 4))), .bool (negB (a1w x.d)), .string (bs (numB (a1w x.d))), .string (bs (a0a (a1w x.d))), .int .i64 ((x.e : Int) % 50), .int .i64 ((x.f : Int) % 5), .bool false, .string (bs []), .string (bs []), .int .i64 0, .int .i64 ((x.f : Int) / 5 % 4 - 1)] := by
 have h0 : a4t x = 0 := by unfold a4t; rw [if_neg h]
 unfold a0y Prf.enc
 rw [h0, enc000q.1, enc000q.2.1, enc000q.2.2]
 simp only [if_neg h, Int.natCast_emod, Int.natCast_ediv]
 rfl
theorem c3s (x : Nat) (w : World) (hx : x <= 65535) :
  Calls Tryz.prog 52 #[.int .u16 (x : Nat)] w fun e w' => e = .returned (.string (bs (b8z (x % 12)))) /\ Below w.heap.size w w' := by
 have hk : x % 12 = 0 \/ x % 12 = 1 \/ x % 12 = 2 \/ x % 12 = 3 \/ x % 12 = 4 \/ x % 12 = 5 \/ x % 12 = 6 \/ x % 12 = 7 \/ x % 12 = 8 \/ x % 12 = 9 \/ x % 12 = 10 \/ x % 12 = 11 := by omega
 rcases hk with h | h | h | h | h | h | h | h | h | h | h | h
 ·rw [h]
  have h2 : Int.tmod (x : Int) 12 = 0 := by rw [Int.tmod_eq_emod_of_nonneg (by omega)]; omega
  clear h
  go_enter Tryz.func52, Tryz.ntmps52
  go_wp2
  go_ret
  exact ⟨rfl, Ext.alloc (Below.refl _ _) _⟩
 ·rw [h]
  have h2 : Int.tmod (x : Int) 12 = 1 := by rw [Int.tmod_eq_emod_of_nonneg (by omega)]; omega
  clear h
  go_enter Tryz.func52, Tryz.ntmps52
  go_wp2
  go_ret
  exact ⟨rfl, Ext.alloc (Below.refl _ _) _⟩
 ·rw [h]
  have h2 : Int.tmod (x : Int) 12 = 2 := by rw [Int.tmod_eq_emod_of_nonneg (by omega)]; omega
  clear h
  go_enter Tryz.func52, Tryz.ntmps52
  go_wp2
  go_ret
  exact ⟨rfl, Ext.alloc (Below.refl _ _) _⟩
 ·rw [h]
  have h2 : Int.tmod (x : Int) 12 = 3 := by rw [Int.tmod_eq_emod_of_nonneg (by omega)]; omega
  clear h
  go_enter Tryz.func52, Tryz.ntmps52
  go_wp2
  go_ret
  exact ⟨rfl, Ext.alloc (Below.refl _ _) _⟩
 ·rw [h]
  have h2 : Int.tmod (x : Int) 12 = 4 := by rw [Int.tmod_eq_emod_of_nonneg (by omega)]; omega
  clear h
  go_enter Tryz.func52, Tryz.ntmps52
  go_wp2
  go_ret
  exact ⟨rfl, Ext.alloc (Below.refl _ _) _⟩
 ·rw [h]
  have h2 : Int.tmod (x : Int) 12 = 5 := by rw [Int.tmod_eq_emod_of_nonneg (by omega)]; omega
  clear h
  go_enter Tryz.func52, Tryz.ntmps52
  go_wp2
  go_ret
  exact ⟨rfl, Ext.alloc (Below.refl _ _) _⟩
 ·rw [h]
  have h2 : Int.tmod (x : Int) 12 = 6 := by rw [Int.tmod_eq_emod_of_nonneg (by omega)]; omega
  clear h
  go_enter Tryz.func52, Tryz.ntmps52
  go_wp2
  go_ret
  exact ⟨rfl, Ext.alloc (Below.refl _ _) _⟩
 ·rw [h]
  have h2 : Int.tmod (x : Int) 12 = 7 := by rw [Int.tmod_eq_emod_of_nonneg (by omega)]; omega
  clear h
  go_enter Tryz.func52, Tryz.ntmps52
  go_wp2
  go_ret
  exact ⟨rfl, Ext.alloc (Below.refl _ _) _⟩
 ·rw [h]
  have h2 : Int.tmod (x : Int) 12 = 8 := by rw [Int.tmod_eq_emod_of_nonneg (by omega)]; omega
  clear h
  go_enter Tryz.func52, Tryz.ntmps52
  go_wp2
  go_ret
  exact ⟨rfl, Ext.alloc (Below.refl _ _) _⟩
 ·rw [h]
  have h2 : Int.tmod (x : Int) 12 = 9 := by rw [Int.tmod_eq_emod_of_nonneg (by omega)]; omega
  clear h
  go_enter Tryz.func52, Tryz.ntmps52
  go_wp2
  go_ret
  exact ⟨rfl, Ext.alloc (Below.refl _ _) _⟩
 ·rw [h]
  have h2 : Int.tmod (x : Int) 12 = 10 := by rw [Int.tmod_eq_emod_of_nonneg (by omega)]; omega
  clear h
  go_enter Tryz.func52, Tryz.ntmps52
  go_wp2
  go_ret
  exact ⟨rfl, Ext.alloc (Below.refl _ _) _⟩
 rw [h]
 have h2 : Int.tmod (x : Int) 12 = 11 := by rw [Int.tmod_eq_emod_of_nonneg (by omega)]; omega
 clear h
 go_enter Tryz.func52, Tryz.ntmps52
 go_wp2
 go_ret
 exact ⟨rfl, Ext.alloc (Below.refl _ _) _⟩
theorem c1c (x : Six) (w : World) (hx : x.ok) :
  Calls Tryz.prog 20 #[.agg #[.int .u16 (x.a : Nat), .int .u16 (x.b : Nat), .int .u16 (x.c : Nat), .int .u16 (x.d : Nat), .int .u16 (x.e : Nat), .int .u16 (x.f : Nat)]] w fun e w' => e = .returned (.agg (a0y x).enc.toArray) /\ Below w.heap.size w w' := by
 obtain ⟨xa, xb, xc, xd, xe, xf⟩ := hx
 have hN := fun W => c3s x.a W xa
 have hA := fun W => b9d x.d W xd
 have hR := fun W => a7x (1 + (x.c : Int) / 4 % 9) 100 W (by omega) (by omega) (by decide) (by decide)
 have hp1 := @b7c x
 have hp0 := @b7d x
 have hr1 : x.c % 3 = 0 -> mkRat (1 + (x.c : Int) / 4 % 9) 100 = a4t x := fun h => by unfold a4t; rw [if_pos h]
 rw [show (100 : Int).toNat = 100 from rfl] at hR
 generalize (a0y x).enc = pe at *
 generalize a1w x.d = aq at *
 generalize a4t x = rq at *
 generalize b8z (x.a % 12) = nm at *
 unfold rat at hA hR
 unfold raw at hA
 have HN := zh hN
 have HA := zh hA
 have m1 : Int.tmod (x.b : Int) 4 = (x.b : Int) % 4 := Int.tmod_eq_emod_of_nonneg (by omega)
 have m2 : Int.tdiv (x.b : Int) 4 = (x.b : Int) / 4 := Int.tdiv_eq_ediv_of_nonneg (by omega)
 have m3 : Int.tmod ((x.b : Int) / 4) 9 = (x.b : Int) / 4 % 9 := Int.tmod_eq_emod_of_nonneg (by omega)
 have m4 : Int.tmod (x.e : Int) 50 = (x.e : Int) % 50 := Int.tmod_eq_emod_of_nonneg (by omega)
 have m5 : Int.tmod (x.f : Int) 5 = (x.f : Int) % 5 := Int.tmod_eq_emod_of_nonneg (by omega)
 have m6 : Int.tdiv (x.f : Int) 5 = (x.f : Int) / 5 := Int.tdiv_eq_ediv_of_nonneg (by omega)
 have m7 : Int.tmod ((x.f : Int) / 5) 4 = (x.f : Int) / 5 % 4 := Int.tmod_eq_emod_of_nonneg (by omega)
 have m8 : Int.tmod (x.c : Int) 3 = (x.c : Int) % 3 := Int.tmod_eq_emod_of_nonneg (by omega)
 have m9 : Int.tdiv (x.c : Int) 4 = (x.c : Int) / 4 := Int.tdiv_eq_ediv_of_nonneg (by omega)
 have mA : Int.tmod ((x.c : Int) / 4) 9 = (x.c : Int) / 4 % 9 := Int.tmod_eq_emod_of_nonneg (by omega)
 have mB : Int.tdiv (x.e : Int) 50 = (x.e : Int) / 50 := Int.tdiv_eq_ediv_of_nonneg (by omega)
 have mC : Int.tmod ((x.e : Int) / 50) 60 = (x.e : Int) / 50 % 60 := Int.tmod_eq_emod_of_nonneg (by omega)
 have u0 : IntKind.u16.wrap ((x.b : Int) % 4) = (x.b : Int) % 4 := by rw [IntKind.wrap_u16]; omega
 have u1 : IntKind.u16.wrap ((x.b : Int) / 4) = (x.b : Int) / 4 := by rw [IntKind.wrap_u16]; omega
 have u2 : IntKind.u16.wrap ((x.b : Int) / 4 % 9) = (x.b : Int) / 4 % 9 := by rw [IntKind.wrap_u16]; omega
 have u3 : IntKind.u16.wrap ((x.e : Int) % 50) = (x.e : Int) % 50 := by rw [IntKind.wrap_u16]; omega
 have u4 : IntKind.u16.wrap ((x.f : Int) % 5) = (x.f : Int) % 5 := by rw [IntKind.wrap_u16]; omega
 have u5 : IntKind.u16.wrap ((x.f : Int) / 5) = (x.f : Int) / 5 := by rw [IntKind.wrap_u16]; omega
 have u6 : IntKind.u16.wrap ((x.f : Int) / 5 % 4) = (x.f : Int) / 5 % 4 := by rw [IntKind.wrap_u16]; omega
 have u7 : IntKind.u16.wrap ((x.c : Int) % 3) = (x.c : Int) % 3 := by rw [IntKind.wrap_u16]; omega
 have u8 : IntKind.u16.wrap ((x.c : Int) / 4) = (x.c : Int) / 4 := by rw [IntKind.wrap_u16]; omega
 have u9 : IntKind.u16.wrap ((x.c : Int) / 4 % 9) = (x.c : Int) / 4 % 9 := by rw [IntKind.wrap_u16]; omega
 have u10 : IntKind.u16.wrap ((x.e : Int) / 50) = (x.e : Int) / 50 := by rw [IntKind.wrap_u16]; omega
 have u11 : IntKind.u16.wrap ((x.e : Int) / 50 % 60) = (x.e : Int) / 50 % 60 := by rw [IntKind.wrap_u16]; omega
 have i0 : IntKind.i64.wrap ((x.b : Int) % 4) = (x.b : Int) % 4 := IntWalk.i64_in _ (by omega)
 have i1 : IntKind.i64.wrap ((x.b : Int) / 4 % 9) = (x.b : Int) / 4 % 9 := IntWalk.i64_in _ (by omega)
 have i2 : IntKind.i64.wrap ((x.e : Int) % 50) = (x.e : Int) % 50 := IntWalk.i64_in _ (by omega)
 have i3 : IntKind.i64.wrap ((x.f : Int) % 5) = (x.f : Int) % 5 := IntWalk.i64_in _ (by omega)
 have i4 : IntKind.i64.wrap ((x.f : Int) / 5 % 4) = (x.f : Int) / 5 % 4 := IntWalk.i64_in _ (by omega)
 have i5 : IntKind.i64.wrap ((x.f : Int) / 5 % 4 - 1) = (x.f : Int) / 5 % 4 - 1 := IntWalk.i64_in _ (by omega)
 have i6 : IntKind.i64.wrap ((x.c : Int) / 4 % 9) = (x.c : Int) / 4 % 9 := IntWalk.i64_in _ (by omega)
 have i7 : IntKind.i64.wrap (1 + (x.c : Int) / 4 % 9) = 1 + (x.c : Int) / 4 % 9 := IntWalk.i64_in _ (by omega)
 have i8 : IntKind.i64.wrap ((x.e : Int) / 50 % 60) = (x.e : Int) / 50 % 60 := IntWalk.i64_in _ (by omega)
 have hcd : (#[.string (bs [69, 85, 82]), .string (bs [69, 85, 82]), .string (bs [85, 83, 68]), .string (bs [71, 66, 80])] : Array Value)[x.c % 4]? = some (.string (bs (b9n (x.c % 4)))) := by
  have hk : x.c % 4 = 0 \/ x.c % 4 = 1 \/ x.c % 4 = 2 \/ x.c % 4 = 3 := by omega
  rcases hk with hk | hk | hk | hk <;> (rw [hk]; rfl)
 have j0 : (0 : Int) <= (x.c : Int) % 4 := by omega
 have j1 : (x.c : Int) % 4 < 4 := by omega
 have mD : Int.tmod (x.c : Int) 4 = (x.c : Int) % 4 := Int.tmod_eq_emod_of_nonneg (by omega)
 have uD : IntKind.u16.wrap ((x.c : Int) % 4) = (x.c : Int) % 4 := by rw [IntKind.wrap_u16]; omega
 generalize b9n (x.c % 4) = cd at *
 have HCD := zh hcd
 clear hN hA hcd
 by_cases h : x.c % 3 = 0
 have h3 : ((x.c : Int) % 3 == 0) = true := by rw [beq_iff_eq]; omega
 have hen := hp1 h
 rw [hr1 h] at hR
 unfold raw at hR
 have HR := zh hR
 have HEN := zh hen
 clear hen hp0 hp1 hr1 hR h
 rotate_left
 have h3 : ((x.c : Int) % 3 == 0) = false := by rw [beq_eq_false_iff_ne]; omega
 have hen := hp0 h
 have HEN := zh hen
 clear hen hp0 hp1 hr1 hR h
 rotate_left
 all_goals
   go_enter Tryz.func20, Tryz.ntmps20
   have HS := zh (St.start w)
   go_wp2
   refine c0p (aL (aL HS #[.int .u16 (x.a : Nat), .int .u16 (x.b : Nat), .int .u16 (x.c : Nat), .int .u16 (x.d : Nat), .int .u16 (x.e : Nat), .int .u16 (x.f : Nat)] 47 w.heap.size) prfO 36 (w.heap.size + 1)).out ?_
   intro wg2 hb
   have HS2 := zh hb
   clear hb HS
   refine a0e 37 [eQ (.pointer (some ⟨w.heap.size, 0, none⟩)), eQ (.int .u16 (x.a : Nat)), eQ (.string (bs nm)), eQ (.pointer (some ⟨w.heap.size, 1, none⟩)), eQ (.int .u16 (x.b : Nat)), eQ (.int .u16 ((x.b : Int) % 4)), eQ (.int .i64 ((x.b : Int) % 4)), eQ (.pointer (some ⟨w.heap.size, 1, none⟩)), eQ (.int .u16 (x.b : Nat)), eQ (.int .u16 ((x.b : Int) / 4)), eQ (.int .u16 ((x.b : Int) / 4 % 9)), eQ (.int .i64 ((x.b : Int) / 4 % 9)), fun ww vv => ∃ g, vv = .slice (some ⟨g, 0, none⟩) 4 4 /\ wg2.heap.size <= g /\ Blk ww g #[.string (bs [69, 85, 82]), .string (bs [69, 85, 82]), .string (bs [85, 83, 68]), .string (bs [71, 66, 80])] 9, eQ (.pointer (some ⟨w.heap.size, 2, none⟩)), eQ (.int .u16 (x.c : Nat)), eQ (.int .u16 ((x.c : Int) % 4)), fun ww vv => ∃ g, vv = .pointer (some ⟨g, x.c % 4, none⟩) /\ wg2.heap.size <= g /\ Blk ww g #[.string (bs [69, 85, 82]), .string (bs [69, 85, 82]), .string (bs [85, 83, 68]), .string (bs [71, 66, 80])] 9, eQ (.string (bs cd)), eQ (.pointer (some ⟨w.heap.size, 3, none⟩)), eQ (.int .u16 (x.d : Nat)), eQ (.agg #[.bool (negB (aq)), .string (bs (numB (aq))), .string (bs (a0a (aq)))]), eQ (.pointer (some ⟨w.heap.size, 4, none⟩)), eQ (.int .u16 (x.e : Nat)), eQ (.int .u16 ((x.e : Int) % 50)), eQ (.int .i64 ((x.e : Int) % 50)), eQ (.pointer (some ⟨w.heap.size, 5, none⟩)), eQ (.int .u16 (x.f : Nat)), eQ (.int .u16 ((x.f : Int) % 5)), eQ (.int .i64 ((x.f : Int) % 5)), eQ (.pointer (some ⟨w.heap.size, 5, none⟩)), eQ (.int .u16 (x.f : Nat)), eQ (.int .u16 ((x.f : Int) / 5)), eQ (.int .u16 ((x.f : Int) / 5 % 4)), eQ (.int .i64 ((x.f : Int) / 5 % 4)), eQ (.int .i64 ((x.f : Int) / 5 % 4 - 1)), eQ (.agg #[.string (bs nm), .int .i64 ((x.b : Int) % 4), .int .i64 ((x.b : Int) / 4 % 9), .string (bs cd), .bool (negB (aq)), .string (bs (numB (aq))), .string (bs (a0a (aq))), .int .i64 ((x.e : Int) % 50), .int .i64 ((x.f : Int) % 5), .bool false, .string (bs []), .string (bs []), .int .i64 0, .int .i64 ((x.f : Int) / 5 % 4 - 1)]), fun ww vv => ∃ g, vv = .pointer (some ⟨g, 0, none⟩) /\ wg2.heap.size <= g /\ Blk ww g #[.string (bs []), .int .i64 0, .int .i64 0, .string (bs []), .bool false, .string (bs []), .string (bs []), .int .i64 0, .int .i64 0, .bool false, .string (bs []), .string (bs []), .int .i64 0, .int .i64 0] 36] rfl (by kernel_rfl) (by kernel_rfl) (by kernel_rfl) ⟨stE, stE, stE, stE, stE, stE, stE, stE, stE, stE, stE, stE, fun _ _ _ ⟨g, e, hg, h⟩ hb => ⟨g, e, hg, h.below hb h.lt⟩, stE, stE, stE, fun _ _ _ ⟨g, e, hg, h⟩ hb => ⟨g, e, hg, h.below hb h.lt⟩, stE, stE, stE, stE, stE, stE, stE, stE, stE, stE, stE, stE, stE, stE, stE, stE, stE, stE, stE, fun _ _ _ ⟨g, e, hg, h⟩ hb => ⟨g, e, hg, h.below hb h.lt⟩, trivial⟩ ?_ ?_
   refine ⟨?_, ?_, ?_, ?_, ?_, ?_, ?_, ?_, ?_, ?_, ?_, ?_, ?_, ?_, ?_, ?_, ?_, ?_, ?_, ?_, ?_, ?_, ?_, ?_, ?_, ?_, ?_, ?_, ?_, ?_, ?_, ?_, ?_, ?_, ?_, ?_, ?_, trivial⟩ <;> (intro xx af wv hbx hev hev0 hd; have H := SH.mk hev hev0 hd; clear hev hev0 hd)
   ·have e1 := H.i 1; clear H; go_wp2; exact sQ rfl
   ·have e4 := H.r 0 4; clear H; have hs1 := zh (HS2.out.call hbx); have y0 := cC hs1 1 0; go_wp2; exact sQ rfl
   ·have e5 := H.r 1 5; clear H
    go_wp2_with fail
    refine (HN.out _).mono ?_
    rintro e w8 ⟨rfl, hb8⟩; go_wp2; exact StepQ.mk _ hb8 rfl
   ·have e1 := H.i 1; clear H; go_wp2; exact sQ rfl
   ·have e7 := H.r 3 7; clear H; have hs1 := zh (HS2.out.call hbx); have y0 := cC hs1 1 1; go_wp2; exact sQ rfl
   ·have e8 := H.r 4 8; clear H; go_wp2; exact sQ rfl
   ·have e9 := H.r 5 9; clear H; go_wp2; exact sQ rfl
   ·have e1 := H.i 1; clear H; go_wp2; exact sQ rfl
   ·have e11 := H.r 7 11; clear H; have hs1 := zh (HS2.out.call hbx); have y0 := cC hs1 1 1; go_wp2; exact sQ rfl
   ·have e12 := H.r 8 12; clear H; go_wp2; exact sQ rfl
   ·have e13 := H.r 9 13; clear H; go_wp2; exact sQ rfl
   ·have e14 := H.r 10 14; clear H; go_wp2; exact sQ rfl
   ·clear H; go_wp2; exact StepQ.mk _ (Ext.alloc (Below.refl _ _) _) ⟨_, rfl, hbx.size, Blk.new _ _ _⟩
   ·have e1 := H.i 1; clear H; go_wp2; exact sQ rfl
   ·have e17 := H.r 13 17; clear H; have hs1 := zh (HS2.out.call hbx); have y0 := cC hs1 1 2; go_wp2; exact sQ rfl
   ·have e18 := H.r 14 18; clear H; go_wp2; exact sQ rfl
   ·have e16 := H.ev 12 _ 16 rfl rfl; have d12 : ∃ g, (xx 12) = .slice (some ⟨g, 0, none⟩) 4 4 /\ wg2.heap.size <= g /\ Blk wv g #[.string (bs [69, 85, 82]), .string (bs [69, 85, 82]), .string (bs [85, 83, 68]), .string (bs [71, 66, 80])] 9 := H.hd ⟨12, .data⟩ (by simp) rfl; obtain ⟨g12, hx12, hg12, hB12⟩ := d12; rw [hx12] at e16; have e19 := H.r 15 19; clear H; go_wp2; exact StepQ.mk _ (Below.refl _ _) ⟨g12, rfl, hg12, hB12⟩
   ·have e20 := H.ev 16 _ 20 rfl rfl; have d16 : ∃ g, (xx 16) = .pointer (some ⟨g, x.c % 4, none⟩) /\ wg2.heap.size <= g /\ Blk wv g #[.string (bs [69, 85, 82]), .string (bs [69, 85, 82]), .string (bs [85, 83, 68]), .string (bs [71, 66, 80])] 9 := H.hd ⟨16, .data⟩ (by simp) rfl; obtain ⟨g16, hx16, hg16, hB16⟩ := d16; rw [hx16] at e20; clear H; have y0 := hB16.cell (x.c % 4) _ HCD.out; go_wp2; exact sQ rfl
   ·have e1 := H.i 1; clear H; go_wp2; exact sQ rfl
   ·have e22 := H.r 18 22; clear H; have hs1 := zh (HS2.out.call hbx); have y0 := cC hs1 1 3; go_wp2; exact sQ rfl
   ·have e23 := H.r 19 23; clear H
    go_wp2_with fail
    refine (HA.out _).mono ?_
    rintro e w8 ⟨rfl, hb8⟩; go_wp2; exact StepQ.mk _ hb8 rfl
   ·have e1 := H.i 1; clear H; go_wp2; exact sQ rfl
   ·have e25 := H.r 21 25; clear H; have hs1 := zh (HS2.out.call hbx); have y0 := cC hs1 1 4; go_wp2; exact sQ rfl
   ·have e26 := H.r 22 26; clear H; go_wp2; exact sQ rfl
   ·have e27 := H.r 23 27; clear H; go_wp2; exact sQ rfl
   ·have e1 := H.i 1; clear H; go_wp2; exact sQ rfl
   ·have e29 := H.r 25 29; clear H; have hs1 := zh (HS2.out.call hbx); have y0 := cC hs1 1 5; go_wp2; exact sQ rfl
   ·have e30 := H.r 26 30; clear H; go_wp2; exact sQ rfl
   ·have e31 := H.r 27 31; clear H; go_wp2; exact sQ rfl
   ·have e1 := H.i 1; clear H; go_wp2; exact sQ rfl
   ·have e33 := H.r 29 33; clear H; have hs1 := zh (HS2.out.call hbx); have y0 := cC hs1 1 5; go_wp2; exact sQ rfl
   ·have e34 := H.r 30 34; clear H; go_wp2; exact sQ rfl
   ·have e35 := H.r 31 35; clear H; go_wp2; exact sQ rfl
   ·have e36 := H.r 32 36; clear H; go_wp2; exact sQ rfl
   ·have e37 := H.r 33 37; clear H; go_wp2; exact sQ rfl
   ·have e6 := H.r 2 6; have e10 := H.r 6 10; have e15 := H.r 11 15; have e21 := H.r 17 21; have e24 := H.r 20 24; have e28 := H.r 24 28; have e32 := H.r 28 32; have e38 := H.r 34 38; clear H; go_wp2; exact sQ rfl
   ·clear H; go_wp2; exact StepQ.mk _ (Ext.alloc (Below.refl _ _) _) ⟨_, rfl, hbx.size, Blk.new _ _ _⟩
   intro xx w5 hb9 hv
   obtain ⟨g5_16, hv16, hlg16, hB16⟩ := hv 16 (by decide)
   obtain ⟨g5_36, hv36, hlg36, hB36⟩ := hv 36 (by decide)
   simp only [List.take, List.drop, a0h, Act.put]
   simp only [vQ hv 0, vQ hv 1, vQ hv 2, vQ hv 3, vQ hv 4, vQ hv 5, vQ hv 6, vQ hv 7, vQ hv 8, vQ hv 9, vQ hv 10, vQ hv 11, vQ hv 13, vQ hv 14, vQ hv 15, hv16, vQ hv 17, vQ hv 18, vQ hv 19, vQ hv 20, vQ hv 21, vQ hv 22, vQ hv 23, vQ hv 24, vQ hv 25, vQ hv 26, vQ hv 27, vQ hv 28, vQ hv 29, vQ hv 30, vQ hv 31, vQ hv 32, vQ hv 33, vQ hv 34, vQ hv 35, hv36]
   clear hv hv16 hv36
   have hne : g5_16 ≠ g5_36 := by
    intro e
    rw [e] at hB16
    have e2 := Option.some.inj (hB16.symm.trans hB36)
    simp at e2
   have HS5 := zh (HS2.out.fill2 hb9 hlg16 hB16 hlg36 hB36 hne)
   clear hlg16 hB16 hlg36 hB36 hne hb9 HS2
   simp only [List.setIfInBounds_toArray, List.set_cons_zero, List.set_cons_succ]
   go_wp2_with (refine a1g rfl _ _ _ rfl HS5.out 0 rfl [.string (bs nm), .int .i64 ((x.b : Int) % 4), .int .i64 ((x.b : Int) / 4 % 9), .string (bs cd), .bool (negB (aq)), .string (bs (numB (aq))), .string (bs (a0a (aq))), .int .i64 ((x.e : Int) % 50), .int .i64 ((x.f : Int) % 5), .bool false, .string (bs []), .string (bs []), .int .i64 0, .int .i64 ((x.f : Int) / 5 % 4 - 1)] rfl rfl rfl a5k rfl ?_)
   intro w6 hS6
 ·have HS6 : Hid (St w [⟨g5_36, #[.string (bs nm), .int .i64 ((x.b : Int) % 4), .int .i64 ((x.b : Int) / 4 % 9), .string (bs cd), .bool (negB (aq)), .string (bs (numB (aq))), .string (bs (a0a (aq))), .int .i64 ((x.e : Int) % 50), .int .i64 ((x.f : Int) % 5), .bool false, .string (bs []), .string (bs []), .int .i64 0, .int .i64 ((x.f : Int) / 5 % 4 - 1)], 36⟩, ⟨g5_16, #[.string (bs [69, 85, 82]), .string (bs [69, 85, 82]), .string (bs [85, 83, 68]), .string (bs [71, 66, 80])], 9⟩, _, _] w6) := zh hS6
  clear hS6 HS5
  have x1 := cC HS6 3 2
  go_wp2_with fail
  refine cL (HR.out _) HS6 fun w7 HS7 => ?_
  clear HS6 x1
  have x2 := cC HS7 0 9
  have x3 := cC HS7 0 10
  have x4 := cC HS7 0 11
  have x5 := cC HS7 3 4
  have x6 := cC HS7 0 12
  have x7 := cF HS7 0 9
  have x8 := cF HS7 0 10
  have x9 := cF HS7 0 11
  have x10 := cF HS7 0 12
  have x11 := cN HS7 0 1
  have x12 := cN HS7 1 0
  have x13 := cN HS7 0 2
  have x14 := cN HS7 2 0
  have x15 := cN HS7 0 3
  have x16 := cN HS7 3 0
  go_upto_region 5 with fail
  clear x2 x3 x4 x5 x6 x7 x8 x9 x10 x11 x12 x13 x14 x15 x16
  refine c0p (R := [⟨g5_36, #[.string (bs nm), .int .i64 ((x.b : Int) % 4), .int .i64 ((x.b : Int) / 4 % 9), .string (bs cd), .bool (negB (aq)), .string (bs (numB (aq))), .string (bs (a0a (aq))), .int .i64 ((x.e : Int) % 50), .int .i64 ((x.f : Int) % 5), .bool (negB (rq)), .string (bs (numB (rq))), .string (bs (a0a (rq))), .int .i64 ((x.e : Int) / 50 % 60), .int .i64 ((x.f : Int) / 5 % 4 - 1)], 36⟩, _, _, _]) (St.set (St.set (St.set (St.set (HS7.out) 0 rfl 9 _) 0 rfl 10 _) 0 rfl 11 _) 0 rfl 12 _) ?_
  intro wg8 hb
  have HS8 := zh hb
  clear hb HS7
  go_wp2_with (first | (refine wpList_load_mid rfl _ _ rfl (g5_36) (0) rfl [.string (bs nm), .int .i64 ((x.b : Int) % 4), .int .i64 ((x.b : Int) / 4 % 9), .string (bs cd), .bool (negB (aq)), .string (bs (numB (aq))), .string (bs (a0a (aq))), .int .i64 ((x.e : Int) % 50), .int .i64 ((x.f : Int) % 5), .bool (negB (rq)), .string (bs (numB (rq))), .string (bs (a0a (rq))), .int .i64 ((x.e : Int) / 50 % 60), .int .i64 ((x.f : Int) / 5 % 4 - 1)] _ (St.whole HS8.out 0 rfl) Tryz.underlying36 rfl a5k ?_) | (refine a1g rfl _ _ _ rfl HS8.out 2 rfl [.string (bs nm), .int .i64 ((x.b : Int) % 4), .int .i64 ((x.b : Int) / 4 % 9), .string (bs cd), .bool (negB (aq)), .string (bs (numB (aq))), .string (bs (a0a (aq))), .int .i64 ((x.e : Int) % 50), .int .i64 ((x.f : Int) % 5), .bool (negB (rq)), .string (bs (numB (rq))), .string (bs (a0a (rq))), .int .i64 ((x.e : Int) / 50 % 60), .int .i64 ((x.f : Int) / 5 % 4 - 1)] rfl rfl rfl a5k rfl ?_))
  intro w9 hS9
  have HS9 : Hid (St w [_, _, ⟨w.heap.size + 1, #[.string (bs nm), .int .i64 ((x.b : Int) % 4), .int .i64 ((x.b : Int) / 4 % 9), .string (bs cd), .bool (negB (aq)), .string (bs (numB (aq))), .string (bs (a0a (aq))), .int .i64 ((x.e : Int) % 50), .int .i64 ((x.f : Int) % 5), .bool (negB (rq)), .string (bs (numB (rq))), .string (bs (a0a (rq))), .int .i64 ((x.e : Int) / 50 % 60), .int .i64 ((x.f : Int) / 5 % 4 - 1)], 36⟩, _] w9) := zh hS9
  clear hS9 HS8
  go_wp2
  refine bodyPost_ret (b4m rfl _ _ _ rfl (HS9.out.blk 2 rfl) rfl) rfl ?_
  rw [HEN.out]
  exact ⟨rfl, HS9.out.below⟩
 have HS6 : Hid (St w [⟨g5_36, #[.string (bs nm), .int .i64 ((x.b : Int) % 4), .int .i64 ((x.b : Int) / 4 % 9), .string (bs cd), .bool (negB (aq)), .string (bs (numB (aq))), .string (bs (a0a (aq))), .int .i64 ((x.e : Int) % 50), .int .i64 ((x.f : Int) % 5), .bool false, .string (bs []), .string (bs []), .int .i64 0, .int .i64 ((x.f : Int) / 5 % 4 - 1)], 36⟩, _, _, _] w6) := zh hS6
 clear hS6 HS5
 have x1 := cC HS6 3 2
 go_wp2_with (first | (refine wpList_load_mid rfl _ _ rfl (g5_36) (0) rfl [.string (bs nm), .int .i64 ((x.b : Int) % 4), .int .i64 ((x.b : Int) / 4 % 9), .string (bs cd), .bool (negB (aq)), .string (bs (numB (aq))), .string (bs (a0a (aq))), .int .i64 ((x.e : Int) % 50), .int .i64 ((x.f : Int) % 5), .bool false, .string (bs []), .string (bs []), .int .i64 0, .int .i64 ((x.f : Int) / 5 % 4 - 1)] _ (St.whole HS6.out 0 rfl) Tryz.underlying36 rfl a5k ?_) | (refine a1g rfl _ _ _ rfl HS6.out 2 rfl [.string (bs nm), .int .i64 ((x.b : Int) % 4), .int .i64 ((x.b : Int) / 4 % 9), .string (bs cd), .bool (negB (aq)), .string (bs (numB (aq))), .string (bs (a0a (aq))), .int .i64 ((x.e : Int) % 50), .int .i64 ((x.f : Int) % 5), .bool false, .string (bs []), .string (bs []), .int .i64 0, .int .i64 ((x.f : Int) / 5 % 4 - 1)] rfl rfl rfl a5k rfl ?_))
 intro w7 hS7
 have HS7 : Hid (St w [_, _, ⟨w.heap.size + 1, #[.string (bs nm), .int .i64 ((x.b : Int) % 4), .int .i64 ((x.b : Int) / 4 % 9), .string (bs cd), .bool (negB (aq)), .string (bs (numB (aq))), .string (bs (a0a (aq))), .int .i64 ((x.e : Int) % 50), .int .i64 ((x.f : Int) % 5), .bool false, .string (bs []), .string (bs []), .int .i64 0, .int .i64 ((x.f : Int) / 5 % 4 - 1)], 36⟩, _] w7) := zh hS7
 clear hS7 HS6 x1
 go_wp2
 refine bodyPost_ret (b4m rfl _ _ _ rfl (HS7.out.blk 2 rfl) rfl) rfl ?_
 rw [HEN.out]
 exact ⟨rfl, HS7.out.below⟩
def usdQ : Quo := ⟨usdL, 0, negB (mkRat 9 10), numB (mkRat 9 10), a0a (mkRat 9 10)⟩
theorem c3r (w : World) : Calls Tryz.prog 36 #[] w fun e w' => ∃ v', e = .returned v' /\ a8g w' v' [usdQ] /\ Below w.heap.size w w' := by
 have hR := fun W => a7x 9 10 W (by decide) (by decide) (by decide) (by decide)
 rw [show (10 : Int).toNat = 10 from rfl] at hR
 obtain ⟨rq, hrq⟩ : ∃ y, y = mkRat 9 10 := ⟨_, rfl⟩
 have huq : usdQ = ⟨usdL, 0, negB rq, numB rq, a0a rq⟩ := by rw [hrq]; rfl
 rw [<- hrq] at hR
 unfold rat raw at hR
 have HR := zh hR
 have HU := zh huq
 clear hR hrq huq
 go_enter Tryz.func36, Tryz.ntmps36
 have HS := zh (St.start w)
 go_wp2_with fail
 refine cL (HR.out _) HS fun w2 HS2 => ?_
 clear HS
 go_wp2
 go_ret
 have HS3 := aL HS2 #[.string (bs [85, 83, 68]), .int .i64 0, .bool (negB (rq)), .string (bs (numB (rq))), .string (bs (a0a (rq)))] 40 w2.heap.size
 rw [HU.out]
 exact ⟨_, rfl, Slc.of_blk quo_len' (HS3.out.blk 0 rfl) rfl rfl (Nat.le_refl _) (by decide), HS3.out.below⟩
end Go.Proofs.YtlkhoommpkndpaaGreatDoor
