/-
Part 8 of the base.
-/
import Derived.Test.YtlkhoommpkndpaaGreatDoorKd6
import Derived.Test.YtlkhoommpkndpaaGreatDoorKd0
import Derived.Deep.RegionHeld3
import Derived.Deep.RegionWith
set_option maxRecDepth 100000
set_option maxHeartbeats 4000000
namespace Go.Proofs.YtlkhoommpkndpaaGreatDoor
open Go.RowKit
theorem Raw.put_far {w : World} {g g' : Nat} {neg : Bool} {num den : List UInt8} (h : Raw w g neg num den) (hne : g ≠ g') (x y z : Value) :
  Raw (((w.setCell ⟨g', 0, none⟩ x).setCell ⟨g', 1, none⟩ y).setCell ⟨g', 2, none⟩ z) g neg num den :=
 (Below.heap_setCell _ _ z g hne).trans ((Below.heap_setCell _ _ y g hne).trans ((Below.heap_setCell _ _ x g hne).trans h))
theorem Raw.drew' {w : World} {g : Nat} {neg : Bool} {num den : List UInt8} (h : Raw w g neg num den) : Raw w.drew g neg num den := h
theorem bv_numB' (q : Rat) : bv (numB q) = q.num.natAbs := by unfold numB; rw [bv_bytesOf]
theorem denL_denomB (q : Rat) : denL (denomB q) = bytesOf q.den := by
 unfold denL denomB denB
 by_cases h : q.den = 1
 ·rw [if_pos h, if_pos rfl, h, bytesOf_one]
 ·rw [if_neg h, if_neg (fun e => q.den_nz (bytesOf_eq_nil.1 e))]
theorem rational_denR (q : Rat) (w : World) : Calls Tryz.prog 65 #[rat q] w fun e w' => e = .returned (.string (bs (bytesOf q.den))) ∧ Below w.heap.size w w' := by
 rw [← denL_denomB]
 exact rational_den (negB q) (numB q) (denomB q) w
theorem rational_Multiply (n1 : Bool) (a1 b1 : List UInt8) (n2 : Bool) (a2 b2 : List UInt8) (w : World) (la1 : a1.length ≤ 17179869184) (lb1 : b1.length ≤ 17179869184) (la2 : a2.length ≤ 17179869184) (lb2 : b2.length ≤ 17179869184) :
  Calls Tryz.prog 68 #[raw n1 a1 b1, raw n2 a2 b2] w fun e w' => e = .returned (rat (decR n1 a1 b1 * decR n2 a2 b2)) ∧ Below w.heap.size w w' := by
 have c1 := fun W => rational_clean n1 a1 b1 W (by omega) (by omega)
 have c2 := fun W => rational_clean n2 a2 b2 W (by omega) (by omega)
 have sp := sized_dec (neg := n1) la1 lb1 (by decide)
 have sq := sized_dec (neg := n2) la2 lb2 (by decide)
 generalize decR n1 a1 b1 = p at *
 generalize decR n2 a2 b2 = q at *
 clear la1 lb1 la2 lb2
 have hm := mul_enc p q
 rw [← hm]
 have lp := sp.num
 have lq := sq.num
 have lpd := sp.2
 have lqd := sq.2
 have m1 := fun W => nat_mul (numB p) (numB q) W (by omega) (by omega)
 have d1 := fun W => rational_denR p W
 have d2 := fun W => rational_denR q W
 have m2 := fun W => nat_mul (bytesOf p.den) (bytesOf q.den) W (by omega) (by omega)
 simp only [bv_numB', bv_bytesOf] at m1 m2
 have hd0 : p.den * q.den ≠ 0 := Nat.mul_ne_zero p.den_nz q.den_nz
 have lm := bytes_mul sp.1 sq.1
 have lk := bytes_mul sp.2 sq.2
 have rd := fun W => rational_reduced (!(negB p == negB q)) (bytesOf (p.num.natAbs * q.num.natAbs)) (bytesOf (p.den * q.den)) W (by omega) (by omega) (by rw [bv_bytesOf]; exact hd0)
 rw [bv_bytesOf, bv_bytesOf] at rd
 unfold rat raw at d1 d2
 have M1 := Lib.hid m1
 have M2 := Lib.hid m2
 have D1 := Lib.hid d1
 have D2 := Lib.hid d2
 have RD := Lib.hid rd
 clear hm lp lq lpd lqd m1 m2 d1 d2 hd0 lm lk rd sp sq
 generalize mkRat (signed (!(negB p == negB q)) (p.num.natAbs * q.num.natAbs)) (p.den * q.den) = r at *
 generalize bytesOf (p.num.natAbs * q.num.natAbs) = en at *
 generalize bytesOf (p.den * q.den) = ek at *
 generalize bytesOf p.den = ed at *
 generalize bytesOf q.den = eq at *
 unfold rat raw at *
 generalize negB p = np at *
 generalize negB q = nq at *
 generalize numB p = bp at *
 generalize numB q = bq at *
 generalize denomB p = dp at *
 generalize denomB q = dq at *
 have HC1 := Lib.hid c1
 have HC2 := Lib.hid c2
 have KA : Hid (Raw (((w.alloc (Obj.cells #[.bool n1, .string (bs a1), .string (bs b1)] 34)).alloc (Obj.cells #[.bool n2, .string (bs a2), .string (bs b2)] 34)).alloc (Obj.cells #[.bool false, .string (bs []), .string (bs [])] 34)).drew w.heap.size n1 a1 b1) := Raw.drew' (((Blk.new w _ 34).alloc _).alloc _)
 have KB : Hid (Raw (((w.alloc (Obj.cells #[.bool n1, .string (bs a1), .string (bs b1)] 34)).alloc (Obj.cells #[.bool n2, .string (bs a2), .string (bs b2)] 34)).alloc (Obj.cells #[.bool false, .string (bs []), .string (bs [])] 34)).drew (w.heap.size + 1) n2 a2 b2) := Raw.drew' ((Blk.new1 w _ _ 34).alloc _)
 have KC : Hid (Raw (((w.alloc (Obj.cells #[.bool n1, .string (bs a1), .string (bs b1)] 34)).alloc (Obj.cells #[.bool n2, .string (bs a2), .string (bs b2)] 34)).alloc (Obj.cells #[.bool false, .string (bs []), .string (bs [])] 34)).drew (w.heap.size + 1 + 1) false [] []) := Raw.drew' (Blk.new2 w _ _ _ 34)
 have hbw : Hid (Below w.heap.size w (((w.alloc (Obj.cells #[.bool n1, .string (bs a1), .string (bs b1)] 34)).alloc (Obj.cells #[.bool n2, .string (bs a2), .string (bs b2)] 34)).alloc (Obj.cells #[.bool false, .string (bs []), .string (bs [])] 34)).drew) := (Ext.alloc (Ext.alloc (Ext.alloc (Below.refl _ _) _) _) _).drew
 have hne1 : ¬ (w.heap.size = w.heap.size + 1 + 1) := by omega
 have hne2 : ¬ (w.heap.size + 1 + 1 = w.heap.size) := by omega
 clear c1 c2
 go_enter Tryz.func68, Tryz.ntmps68
 go_wp2
 go_cut [] (fun wx => Hid (Raw wx w.heap.size np bp dp) ∧ Hid (Raw wx (w.heap.size + 1) nq bq dq) ∧ Hid (Raw wx (w.heap.size + 1 + 1) false [] []) ∧ Hid (Below w.heap.size w wx))
 case first =>
  go_region_with (first
   | (go_at_call_of 61 (Value.agg #[Value.bool n1, Value.string (bs a1), Value.string (bs b1)]); with_reducible refine (HC1.out _).mono ?_; rintro e w1 ⟨rfl, hb1⟩; have HB1 := Lib.hid hb1; clear hb1; have y0 := (KB.out.below HB1.out (Raw.lt KB.out)).c0; have y1 := (KB.out.below HB1.out (Raw.lt KB.out)).c1; have y2 := (KB.out.below HB1.out (Raw.lt KB.out)).c2)
   | (go_at_call_of 61 (Value.agg #[Value.bool n2, Value.string (bs a2), Value.string (bs b2)]); with_reducible refine (HC2.out _).mono ?_; rintro e w2 ⟨rfl, hb2⟩; have HB2 := Lib.hid (Ext.trans HB1.out hb2); clear hb2 y0 y1 y2; have k1 := KA.out.below HB2.out (Raw.lt KA.out); have k2 := KB.out.below HB2.out (Raw.lt KB.out); have x0 := k1.c0; have x1 := k1.c1; have x2 := k1.c2; have y0 := k2.c0; have y1 := k2.c1; have y2 := k2.c2; have f0 := k1.frozen 0; have f1 := k1.frozen 1; have f2 := k1.frozen 2; have g0 := k2.frozen 0; have g1 := k2.frozen 1; have g2 := k2.frozen 2; have K1 := Lib.hid k1; have K2 := Lib.hid k2; clear k1 k2))
  all_goals
   go_wp2
   go_meet
   case rel =>
    have hw2 := Ext.trans hbw.out HB2.out
    exact ⟨(K1.out.put np bp dp).put_far (by omega) _ _ _, (K2.out.put_far (by omega) _ _ _).put nq bq dq, ((KC.out.below HB2.out (Raw.lt KC.out)).put_far (by omega) _ _ _).put_far (by omega) _ _ _, below_put (below_put hw2 (by omega) _ _ _) (by omega) _ _ _⟩
 case rest =>
  obtain ⟨K1, K2, K3, HBW⟩ := hcut
  have x0 := K1.out.c0
  have x1 := K1.out.c1
  have x2 := K1.out.c2
  have y0 := K2.out.c0
  have y1 := K2.out.c1
  have y2 := K2.out.c2
  have hlt1 := Raw.lt K1.out
  have hlt2 := Raw.lt K2.out
  clear KA KB KC
  have KA := Lib.hid (Raw.drew' K1.out)
  have KB := Lib.hid (Raw.drew' K2.out)
  have KC := Lib.hid (Raw.drew' K3.out)
  go_wp2
  go_region_held3 (fun w' => w'.cell? ⟨w.heap.size, 0, none⟩ = some (.bool np) ∧ w'.cell? ⟨w.heap.size, 1, none⟩ = some (.string (bs bp)) ∧ w'.cell? ⟨w.heap.size, 2, none⟩ = some (.string (bs dp)) ∧ w'.cell? ⟨w.heap.size + 1, 0, none⟩ = some (.bool nq) ∧ w'.cell? ⟨w.heap.size + 1, 1, none⟩ = some (.string (bs bq)) ∧ w'.cell? ⟨w.heap.size + 1, 2, none⟩ = some (.string (bs dq))) (go_keep) (first
   | (go_at_call_of 64 (Value.string (bs bp)); with_reducible refine (M1.out _).mono ?_; rintro e w1 ⟨rfl, hb1⟩; have HC1 := Lib.hid hb1; clear x0 x1 x2 y0 y1 y2 hb1; have x0 := (KA.out.below HC1.out (Raw.lt KA.out)).c0; have x1 := (KA.out.below HC1.out (Raw.lt KA.out)).c1; have x2 := (KA.out.below HC1.out (Raw.lt KA.out)).c2; have y0 := (KB.out.below HC1.out (Raw.lt KB.out)).c0; have y1 := (KB.out.below HC1.out (Raw.lt KB.out)).c1; have y2 := (KB.out.below HC1.out (Raw.lt KB.out)).c2)
   | (go_at_call_of 65 (Value.agg #[Value.bool np, Value.string (bs bp), Value.string (bs dp)]); with_reducible refine (D1.out _).mono ?_; rintro e w2 ⟨rfl, hb2⟩; have HC2 := Lib.hid (Ext.trans HC1.out hb2); clear x0 x1 x2 y0 y1 y2 hb2; have x0 := (KA.out.below HC2.out (Raw.lt KA.out)).c0; have x1 := (KA.out.below HC2.out (Raw.lt KA.out)).c1; have x2 := (KA.out.below HC2.out (Raw.lt KA.out)).c2; have y0 := (KB.out.below HC2.out (Raw.lt KB.out)).c0; have y1 := (KB.out.below HC2.out (Raw.lt KB.out)).c1; have y2 := (KB.out.below HC2.out (Raw.lt KB.out)).c2)
   | (go_at_call_of 65 (Value.agg #[Value.bool nq, Value.string (bs bq), Value.string (bs dq)]); with_reducible refine (D2.out _).mono ?_; rintro e w3 ⟨rfl, hb3⟩; have HC3 := Lib.hid (Ext.trans HC2.out hb3); clear x0 x1 x2 y0 y1 y2 hb3; have x0 := (KA.out.below HC3.out (Raw.lt KA.out)).c0; have x1 := (KA.out.below HC3.out (Raw.lt KA.out)).c1; have x2 := (KA.out.below HC3.out (Raw.lt KA.out)).c2; have y0 := (KB.out.below HC3.out (Raw.lt KB.out)).c0; have y1 := (KB.out.below HC3.out (Raw.lt KB.out)).c1; have y2 := (KB.out.below HC3.out (Raw.lt KB.out)).c2)
   | (go_at_call_of 64 (Value.string (bs ed)); with_reducible refine (M2.out _).mono ?_; rintro e w4 ⟨rfl, hb4⟩; have HC4 := Lib.hid (Ext.trans HC3.out hb4); clear x0 x1 x2 y0 y1 y2 hb4; have x0 := (KA.out.below HC4.out (Raw.lt KA.out)).c0; have x1 := (KA.out.below HC4.out (Raw.lt KA.out)).c1; have x2 := (KA.out.below HC4.out (Raw.lt KA.out)).c2; have y0 := (KB.out.below HC4.out (Raw.lt KB.out)).c0; have y1 := (KB.out.below HC4.out (Raw.lt KB.out)).c1; have y2 := (KB.out.below HC4.out (Raw.lt KB.out)).c2)
   | (go_at_call 70; with_reducible refine (RD.out _).mono ?_; rintro e w5 ⟨rfl, hb5⟩; have HC5 := Lib.hid (Ext.trans HC4.out hb5); have k1 := KC.out.below HC5.out (Raw.lt KC.out); have z0 := k1.frozen 0; have z1 := k1.frozen 1; have z2 := k1.frozen 2; have d0 := k1.c0; have d1 := k1.c1; have d2 := k1.c2; have KK := Lib.hid k1; have HBB := Lib.hid (Ext.trans HBW.out.drew HC5.out); clear k1; clear x0 x1 x2 y0 y1 y2 hb5; have x0 := (KA.out.below HC5.out (Raw.lt KA.out)).c0; have x1 := (KA.out.below HC5.out (Raw.lt KA.out)).c1; have x2 := (KA.out.below HC5.out (Raw.lt KA.out)).c2; have y0 := (KB.out.below HC5.out (Raw.lt KB.out)).c0; have y1 := (KB.out.below HC5.out (Raw.lt KB.out)).c1; have y2 := (KB.out.below HC5.out (Raw.lt KB.out)).c2))
  go_wp2
  exact bodyPost_ret (raw_result rfl _ _ _ _ _ _ rfl (KK.out.put _ _ _)) rfl ⟨rfl, below_put HBB.out (by omega) _ _ _⟩
theorem rational_Divide (n1 : Bool) (a1 b1 : List UInt8) (n2 : Bool) (a2 b2 : List UInt8) (w : World) (la1 : a1.length ≤ 17179869184) (lb1 : b1.length ≤ 17179869184) (la2 : a2.length ≤ 17179869184) (lb2 : b2.length ≤ 17179869184) (hq0 : decR n2 a2 b2 ≠ 0) :
  Calls Tryz.prog 77 #[raw n1 a1 b1, raw n2 a2 b2] w fun e w' => e = .returned (.tuple #[rat (decR n1 a1 b1 / decR n2 a2 b2), .bool true]) ∧ Below w.heap.size w w' := by
 have c1 := fun W => rational_clean n1 a1 b1 W (by omega) (by omega)
 have c2 := fun W => rational_clean n2 a2 b2 W (by omega) (by omega)
 have sp := sized_dec (neg := n1) la1 lb1 (by decide)
 have sq := sized_dec (neg := n2) la2 lb2 (by decide)
 generalize decR n1 a1 b1 = p at *
 generalize decR n2 a2 b2 = q at *
 clear la1 lb1 la2 lb2
 have hm := div_enc p q hq0
 rw [← hm]
 have hqa : q.num.natAbs ≠ 0 := fun h => hq0 (Rat.num_eq_zero.1 (Int.natAbs_eq_zero.1 h))
 have lp := sp.num
 have lq := sq.num
 have lpd := sp.2
 have lqd := sq.2
 have m1 := fun W => nat_mul (numB p) (bytesOf q.den) W (by omega) (by omega)
 have d1 := fun W => rational_denR p W
 have d2 := fun W => rational_denR q W
 have m2 := fun W => nat_mul (bytesOf p.den) (numB q) W (by omega) (by omega)
 simp only [bv_numB', bv_bytesOf] at m1 m2
 have hd0 : p.den * q.num.natAbs ≠ 0 := Nat.mul_ne_zero p.den_nz hqa
 have lm := bytes_mul sp.1 sq.2
 have lk := bytes_mul sp.2 sq.1
 have rd := fun W => rational_Make (!(negB p == negB q)) (bytesOf (p.num.natAbs * q.den)) (bytesOf (p.den * q.num.natAbs)) W (by omega) (by omega) (by rw [bv_bytesOf]; exact hd0)
 rw [bv_bytesOf, bv_bytesOf] at rd
 unfold rat raw at d1 d2
 have M1 := Lib.hid m1
 have M2 := Lib.hid m2
 have D1 := Lib.hid d1
 have D2 := Lib.hid d2
 have RD := Lib.hid rd
 clear hm lp lq lpd lqd m1 m2 d1 d2 hd0 lm lk rd sp sq hqa hq0
 generalize mkRat (signed (!(negB p == negB q)) (p.num.natAbs * q.den)) (p.den * q.num.natAbs) = r at *
 generalize bytesOf (p.num.natAbs * q.den) = en at *
 generalize bytesOf (p.den * q.num.natAbs) = ek at *
 generalize bytesOf p.den = ed at *
 generalize bytesOf q.den = eq at *
 unfold rat raw at *
 generalize negB p = np at *
 generalize negB q = nq at *
 generalize numB p = bp at *
 generalize numB q = bq at *
 generalize denomB p = dp at *
 generalize denomB q = dq at *
 have HC1 := Lib.hid c1
 have HC2 := Lib.hid c2
 have KA : Hid (Raw (((w.alloc (Obj.cells #[.bool n1, .string (bs a1), .string (bs b1)] 34)).alloc (Obj.cells #[.bool n2, .string (bs a2), .string (bs b2)] 34)).alloc (Obj.cells #[.bool false, .string (bs []), .string (bs [])] 34)).drew w.heap.size n1 a1 b1) := Raw.drew' (((Blk.new w _ 34).alloc _).alloc _)
 have KB : Hid (Raw (((w.alloc (Obj.cells #[.bool n1, .string (bs a1), .string (bs b1)] 34)).alloc (Obj.cells #[.bool n2, .string (bs a2), .string (bs b2)] 34)).alloc (Obj.cells #[.bool false, .string (bs []), .string (bs [])] 34)).drew (w.heap.size + 1) n2 a2 b2) := Raw.drew' ((Blk.new1 w _ _ 34).alloc _)
 have KC : Hid (Raw (((w.alloc (Obj.cells #[.bool n1, .string (bs a1), .string (bs b1)] 34)).alloc (Obj.cells #[.bool n2, .string (bs a2), .string (bs b2)] 34)).alloc (Obj.cells #[.bool false, .string (bs []), .string (bs [])] 34)).drew (w.heap.size + 1 + 1) false [] []) := Raw.drew' (Blk.new2 w _ _ _ 34)
 have hbw : Hid (Below w.heap.size w (((w.alloc (Obj.cells #[.bool n1, .string (bs a1), .string (bs b1)] 34)).alloc (Obj.cells #[.bool n2, .string (bs a2), .string (bs b2)] 34)).alloc (Obj.cells #[.bool false, .string (bs []), .string (bs [])] 34)).drew) := (Ext.alloc (Ext.alloc (Ext.alloc (Below.refl _ _) _) _) _).drew
 have hne1 : ¬ (w.heap.size = w.heap.size + 1 + 1) := by omega
 have hne2 : ¬ (w.heap.size + 1 + 1 = w.heap.size) := by omega
 clear c1 c2
 go_enter Tryz.func77, Tryz.ntmps77
 go_wp2
 go_cut [] (fun wx => Hid (Raw wx w.heap.size np bp dp) ∧ Hid (Raw wx (w.heap.size + 1) nq bq dq) ∧ Hid (Raw wx (w.heap.size + 1 + 1) false [] []) ∧ Hid (Below w.heap.size w wx))
 case first =>
  go_region_with (first
   | (go_at_call_of 61 (Value.agg #[Value.bool n1, Value.string (bs a1), Value.string (bs b1)]); with_reducible refine (HC1.out _).mono ?_; rintro e w1 ⟨rfl, hb1⟩; have HB1 := Lib.hid hb1; clear hb1; have y0 := (KB.out.below HB1.out (Raw.lt KB.out)).c0; have y1 := (KB.out.below HB1.out (Raw.lt KB.out)).c1; have y2 := (KB.out.below HB1.out (Raw.lt KB.out)).c2)
   | (go_at_call_of 61 (Value.agg #[Value.bool n2, Value.string (bs a2), Value.string (bs b2)]); with_reducible refine (HC2.out _).mono ?_; rintro e w2 ⟨rfl, hb2⟩; have HB2 := Lib.hid (Ext.trans HB1.out hb2); clear hb2 y0 y1 y2; have k1 := KA.out.below HB2.out (Raw.lt KA.out); have k2 := KB.out.below HB2.out (Raw.lt KB.out); have x0 := k1.c0; have x1 := k1.c1; have x2 := k1.c2; have y0 := k2.c0; have y1 := k2.c1; have y2 := k2.c2; have f0 := k1.frozen 0; have f1 := k1.frozen 1; have f2 := k1.frozen 2; have g0 := k2.frozen 0; have g1 := k2.frozen 1; have g2 := k2.frozen 2; have K1 := Lib.hid k1; have K2 := Lib.hid k2; clear k1 k2))
  all_goals
   go_wp2
   go_meet
   case rel =>
    have hw2 := Ext.trans hbw.out HB2.out
    exact ⟨(K1.out.put np bp dp).put_far (by omega) _ _ _, (K2.out.put_far (by omega) _ _ _).put nq bq dq, ((KC.out.below HB2.out (Raw.lt KC.out)).put_far (by omega) _ _ _).put_far (by omega) _ _ _, below_put (below_put hw2 (by omega) _ _ _) (by omega) _ _ _⟩
 case rest =>
  obtain ⟨K1, K2, K3, HBW⟩ := hcut
  have x0 := K1.out.c0
  have x1 := K1.out.c1
  have x2 := K1.out.c2
  have y0 := K2.out.c0
  have y1 := K2.out.c1
  have y2 := K2.out.c2
  have hlt1 := Raw.lt K1.out
  have hlt2 := Raw.lt K2.out
  clear KA KB KC
  have KA := Lib.hid (Raw.drew' K1.out)
  have KB := Lib.hid (Raw.drew' K2.out)
  have KC := Lib.hid (Raw.drew' K3.out)
  go_wp2
  go_region_held3 (fun w' => w'.cell? ⟨w.heap.size, 0, none⟩ = some (.bool np) ∧ w'.cell? ⟨w.heap.size, 1, none⟩ = some (.string (bs bp)) ∧ w'.cell? ⟨w.heap.size, 2, none⟩ = some (.string (bs dp)) ∧ w'.cell? ⟨w.heap.size + 1, 0, none⟩ = some (.bool nq) ∧ w'.cell? ⟨w.heap.size + 1, 1, none⟩ = some (.string (bs bq)) ∧ w'.cell? ⟨w.heap.size + 1, 2, none⟩ = some (.string (bs dq))) (go_keep) (first
   | (go_at_call_of 65 (Value.agg #[Value.bool nq, Value.string (bs bq), Value.string (bs dq)]); with_reducible refine (D2.out _).mono ?_; rintro e w1 ⟨rfl, hb1⟩; have HC1 := Lib.hid hb1; clear x0 x1 x2 y0 y1 y2 hb1; have x0 := (KA.out.below HC1.out (Raw.lt KA.out)).c0; have x1 := (KA.out.below HC1.out (Raw.lt KA.out)).c1; have x2 := (KA.out.below HC1.out (Raw.lt KA.out)).c2; have y0 := (KB.out.below HC1.out (Raw.lt KB.out)).c0; have y1 := (KB.out.below HC1.out (Raw.lt KB.out)).c1; have y2 := (KB.out.below HC1.out (Raw.lt KB.out)).c2)
   | (go_at_call_of 64 (Value.string (bs bp)); with_reducible refine (M1.out _).mono ?_; rintro e w2 ⟨rfl, hb2⟩; have HC2 := Lib.hid (Ext.trans HC1.out hb2); clear x0 x1 x2 y0 y1 y2 hb2; have x0 := (KA.out.below HC2.out (Raw.lt KA.out)).c0; have x1 := (KA.out.below HC2.out (Raw.lt KA.out)).c1; have x2 := (KA.out.below HC2.out (Raw.lt KA.out)).c2; have y0 := (KB.out.below HC2.out (Raw.lt KB.out)).c0; have y1 := (KB.out.below HC2.out (Raw.lt KB.out)).c1; have y2 := (KB.out.below HC2.out (Raw.lt KB.out)).c2)
   | (go_at_call_of 65 (Value.agg #[Value.bool np, Value.string (bs bp), Value.string (bs dp)]); with_reducible refine (D1.out _).mono ?_; rintro e w3 ⟨rfl, hb3⟩; have HC3 := Lib.hid (Ext.trans HC2.out hb3); clear x0 x1 x2 y0 y1 y2 hb3; have x0 := (KA.out.below HC3.out (Raw.lt KA.out)).c0; have x1 := (KA.out.below HC3.out (Raw.lt KA.out)).c1; have x2 := (KA.out.below HC3.out (Raw.lt KA.out)).c2; have y0 := (KB.out.below HC3.out (Raw.lt KB.out)).c0; have y1 := (KB.out.below HC3.out (Raw.lt KB.out)).c1; have y2 := (KB.out.below HC3.out (Raw.lt KB.out)).c2)
   | (go_at_call_of 64 (Value.string (bs ed)); with_reducible refine (M2.out _).mono ?_; rintro e w4 ⟨rfl, hb4⟩; have HC4 := Lib.hid (Ext.trans HC3.out hb4); clear x0 x1 x2 y0 y1 y2 hb4; have x0 := (KA.out.below HC4.out (Raw.lt KA.out)).c0; have x1 := (KA.out.below HC4.out (Raw.lt KA.out)).c1; have x2 := (KA.out.below HC4.out (Raw.lt KA.out)).c2; have y0 := (KB.out.below HC4.out (Raw.lt KB.out)).c0; have y1 := (KB.out.below HC4.out (Raw.lt KB.out)).c1; have y2 := (KB.out.below HC4.out (Raw.lt KB.out)).c2)
   | (go_at_call 120; with_reducible refine (RD.out _).mono ?_; rintro e w5 ⟨rfl, hb5⟩; have HC5 := Lib.hid (Ext.trans HC4.out hb5); have k1 := KC.out.below HC5.out (Raw.lt KC.out); have z0 := k1.frozen 0; have z1 := k1.frozen 1; have z2 := k1.frozen 2; have d0 := k1.c0; have d1 := k1.c1; have d2 := k1.c2; have KK := Lib.hid k1; have HBB := Lib.hid (Ext.trans HBW.out.drew HC5.out); clear k1; clear x0 x1 x2 y0 y1 y2 hb5; have x0 := (KA.out.below HC5.out (Raw.lt KA.out)).c0; have x1 := (KA.out.below HC5.out (Raw.lt KA.out)).c1; have x2 := (KA.out.below HC5.out (Raw.lt KA.out)).c2; have y0 := (KB.out.below HC5.out (Raw.lt KB.out)).c0; have y1 := (KB.out.below HC5.out (Raw.lt KB.out)).c1; have y2 := (KB.out.below HC5.out (Raw.lt KB.out)).c2))
  go_wp2
  exact bodyPost_ret (raw_result2 rfl _ _ _ _ _ _ rfl (KK.out.put _ _ _)) rfl ⟨rfl, below_put HBB.out (by omega) _ _ _⟩
end Go.Proofs.YtlkhoommpkndpaaGreatDoor
