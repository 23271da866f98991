/-
Arguments opened: ventures, rates, fours of words, words.
-/
import Derived.Test.YtcllocdhbicpkaaGreatDoorVK
import Derived.Test.YtcllocdhbicpkaaGreatDoorW0
namespace Go.Proofs.YtcllocdhbicpkaaGreatDoor
open Go.ChangeShapes Go.WideShapes Go.ChangeAt Go.ChangeMaps Go.RowKit

theorem list11 {α : Type} {l : List α} (h : l.length = 11) : ∃ a b c d e f g i j k m, l = [a, b, c, d, e, f, g, i, j, k, m] := by
  match l, h with
  | [a, b, c, d, e, f, g, i, j, k, m], _ => exact ⟨a, b, c, d, e, f, g, i, j, k, m, rfl⟩
theorem list5' {α : Type} {l : List α} (h : l.length = 5) : ∃ a b c d e, l = [a, b, c, d, e] := by
  match l, h with
  | [a, b, c, d, e], _ => exact ⟨a, b, c, d, e, rfl⟩
def BlcAny (_ : Blc) : Prop := True
def RtrAny (_ : Rtr) : Prop := True
section
variable {H : Type} {enc : TypeId × Value → H} {W : World} {base : Nat} {sp : Nat → Bool} {held : Bool}
set_option maxRecDepth 100000 in
theorem cells_bloc : Tryz.prog.cellsOf 59 = 11 := by kernel_rfl
set_option maxRecDepth 100000 in
/-- Three cells that read as a number. -/
theorem dec_rtr {n : Nat} {cs : List Value} {y : DataW H × List MemPlace} (h : DataW.trod enc Tryz.prog W base sp held n 25 cs = some y) : ∃ q : Rtr, cs = q.enc ∧ RtrAny q := by
  obtain ⟨a, b, c, e, _, _⟩ := dec_rat h
  exact ⟨⟨a, b, c⟩, e, trivial⟩
set_option maxRecDepth 100000 in
/-- Eleven cells that read as a bloc. -/
theorem dec_bloc {n : Nat} {cs : List Value} {y : DataW H × List MemPlace} (h : DataW.trod enc Tryz.prog W base sp held n 59 cs = some y) : ∃ q : Blc, cs = q.enc ∧ BlcAny q := by
  obtain ⟨xs, m, rfl, hx, hl, hxl, hf⟩ := DataW.trod_struct Tryz.underlying59 h
  rw [cells_bloc] at hl
  obtain ⟨c0, c1, c2, c3, c4, c5, c6, c7, c8, c9, c10, rfl⟩ := list11 hl
  obtain ⟨y0, y1, y2, y3, y4, rfl⟩ := list5' (show xs.length = 5 from hxl)
  have h0 := hf 0 _ rfl
  have h1 := hf 1 _ rfl
  have h2 := hf 2 _ rfl
  have h3 := hf 3 _ rfl
  have h4 := hf 4 _ rfl
  simp only [List.getElem_toArray, List.getElem_cons_zero, List.getElem_cons_succ] at h0 h1 h2 h3 h4
  rw [cells_int] at h0
  rw [cells_rat] at h1 h2 h3
  rw [cells_bool] at h4
  obtain ⟨a, e0, _, wa⟩ := DataW.trod_int Tryz.underlying3 (show DataW.trod enc Tryz.prog W base sp held m 3 [c0] = some y0 from h0)
  obtain ⟨tn, ta, tb, e1, _, _⟩ := dec_rat (show DataW.trod enc Tryz.prog W base sp held m 25 [c1, c2, c3] = some y1 from h1)
  obtain ⟨fn, fa, fb, e2, _, _⟩ := dec_rat (show DataW.trod enc Tryz.prog W base sp held m 25 [c4, c5, c6] = some y2 from h2)
  obtain ⟨kn, ka, kb, e3, _, _⟩ := dec_rat (show DataW.trod enc Tryz.prog W base sp held m 25 [c7, c8, c9] = some y3 from h3)
  obtain ⟨x, e4, _⟩ := DataW.trod_bool Tryz.underlying4 (show DataW.trod enc Tryz.prog W base sp held m 4 [c10] = some y4 from h4)
  injection e0 with e0
  injection e4 with e4
  unfold ratCells at e1 e2 e3
  simp only [List.cons.injEq, and_true] at e1 e2 e3
  obtain ⟨rfl, rfl, rfl⟩ := e1
  obtain ⟨rfl, rfl, rfl⟩ := e2
  obtain ⟨rfl, rfl, rfl⟩ := e3
  subst e0
  subst e4
  exact ⟨⟨a, tn, ta, tb, fn, fa, fb, kn, ka, kb, x⟩, rfl, trivial⟩
set_option maxRecDepth 100000 in
theorem cells_venture : Tryz.prog.cellsOf 28 = 4 := by kernel_rfl
set_option maxRecDepth 100000 in
theorem cells_blocs : Tryz.prog.cellsOf 26 = 1 := by kernel_rfl
set_option maxRecDepth 100000 in
theorem open_venture {r : Reach} {b0 : Nat} {v : Value} {d : DataW H} {p : List MemPlace} (hv : Value.okWide Tryz.prog W r b0 28 v) (h : DataW.Trod enc Tryz.prog W 0 (fun _ => true) held 28 v d p) :
    ∃ vn va vb s l, v = .agg #[.bool vn, .string (bs va), .string (bs vb), s] ∧ BlocsL W s l := by
  obtain ⟨cs, rfl, hsz⟩ := okWide_struct Tryz.underlying28 hv
  obtain ⟨fuel, hf0⟩ := h
  obtain ⟨xs, m, rfl, hx, hl, hxl, hf⟩ := DataW.trod_struct Tryz.underlying28 hf0
  rw [cells_venture] at hl
  obtain ⟨c0, c1, c2, c3, hcs⟩ := list4 hl
  have hcs0 := hcs
  have hcs : cs.toList = [c0, c1, c2, c3] := hcs
  obtain ⟨y0, y1, rfl⟩ := list2 (show xs.length = 2 from hxl)
  have h0 := hf 0 _ rfl
  have h1 := hf 1 _ rfl
  simp only [List.getElem_toArray, List.getElem_cons_zero, List.getElem_cons_succ] at h0 h1
  rw [cells_rat, hcs0] at h0
  rw [cells_blocs, hcs0] at h1
  obtain ⟨vn, va, vb, e0, _, _⟩ := dec_rat (show DataW.trod enc Tryz.prog W 0 (fun _ => true) held m 25 [c0, c1, c2] = some y0 from h0)
  obtain ⟨s, l, e1, hs, _⟩ := open_slc (⟨0, false, [], [], false, [], [], false, [], [], false⟩ : Blc) BlcAny Tryz.underlying26 (by decide) cells_bloc blc_len (fun n cs' y h => dec_bloc h) (show DataW.trod enc Tryz.prog W 0 (fun _ => true) held m 26 [c3] = some y1 from h1)
  unfold ratCells at e0
  simp only [List.cons.injEq, and_true] at e0 e1
  obtain ⟨rfl, rfl, rfl⟩ := e0
  subst e1
  refine ⟨vn, va, vb, c3, l, ?_, hs⟩
  congr 1
  apply Array.toList_inj.1
  rw [hcs]
set_option maxRecDepth 100000 in
theorem cells_arr4 : Tryz.prog.cellsOf 77 = 4 := by kernel_rfl
set_option maxRecDepth 100000 in
/-- Four cells that read as four words. -/
theorem dec_arr4 {n : Nat} {cs : List Value} {y : DataW H × List MemPlace} (h : DataW.trod enc Tryz.prog W base sp held n 77 cs = some y) : ∃ t : Qua, cs = t.enc ∧ t.ok := by
  obtain ⟨xs, m, rfl, hx, hl, hxl, hf⟩ := DataW.trod_array Tryz.underlying77 h
  rw [cells_arr4] at hl
  obtain ⟨c0, c1, c2, c3, rfl⟩ := list4 hl
  obtain ⟨y0, y1, y2, y3, rfl⟩ := list4 (show xs.length = 4 from hxl)
  have h0 := hf 0 (by decide)
  have h1 := hf 1 (by decide)
  have h2 := hf 2 (by decide)
  have h3 := hf 3 (by decide)
  rw [cells_u16] at h0 h1 h2 h3
  obtain ⟨a, e0, _, w0⟩ := DataW.trod_int Tryz.underlying22 (show DataW.trod enc Tryz.prog W base sp held m 22 [c0] = some y0 from h0)
  obtain ⟨b, e1, _, w1⟩ := DataW.trod_int Tryz.underlying22 (show DataW.trod enc Tryz.prog W base sp held m 22 [c1] = some y1 from h1)
  obtain ⟨c, e2, _, w2⟩ := DataW.trod_int Tryz.underlying22 (show DataW.trod enc Tryz.prog W base sp held m 22 [c2] = some y2 from h2)
  obtain ⟨d, e3, _, w3⟩ := DataW.trod_int Tryz.underlying22 (show DataW.trod enc Tryz.prog W base sp held m 22 [c3] = some y3 from h3)
  injection e0 with e0
  injection e1 with e1
  injection e2 with e2
  injection e3 with e3
  subst e0; subst e1; subst e2; subst e3
  obtain ⟨a0, a1⟩ := u16_range w0
  obtain ⟨b0, b1⟩ := u16_range w1
  obtain ⟨c0, c1⟩ := u16_range w2
  obtain ⟨d0, d1⟩ := u16_range w3
  refine ⟨⟨a.toNat, b.toNat, c.toNat, d.toNat⟩, ?_, ?_⟩
  · unfold Qua.enc
    dsimp only
    rw [Int.toNat_of_nonneg a0, Int.toNat_of_nonneg b0, Int.toNat_of_nonneg c0, Int.toNat_of_nonneg d0]
  · unfold Qua.ok
    dsimp only
    omega
theorem dec_u16w {n : Nat} {cs : List Value} {y : DataW H × List MemPlace} (h : DataW.trod enc Tryz.prog W base sp held n 22 cs = some y) : ∃ t : Nat, cs = w16 t ∧ W16ok t := by
  obtain ⟨a, e, _, wa⟩ := DataW.trod_int Tryz.underlying22 h
  obtain ⟨a0, a1⟩ := u16_range wa
  refine ⟨a.toNat, ?_, ?_⟩
  · rw [e]; unfold w16; rw [Int.toNat_of_nonneg a0]
  · unfold W16ok; omega
end
end Go.Proofs.YtcllocdhbicpkaaGreatDoor
