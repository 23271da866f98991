/-
Arguments opened: voters; fours of words.
-/
import Derived.Test.YtakoagjpmdcddaaDoorVK
import Derived.Test.YtakoagjpmdcddaaDoorVlA
namespace Go.Proofs.YtakoagjpmdcddaaDoor
open Go.ChangeShapes Go.WideShapes Go.ChangeAt Go.ChangeMaps Go.RowKit

theorem list8 {α : Type} {l : List α} (h : l.length = 8) : ∃ a b c d e f g i, l = [a, b, c, d, e, f, g, i] := by
  match l, h with
  | [a, b, c, d, e, f, g, i], _ => exact ⟨a, b, c, d, e, f, g, i, rfl⟩
section
variable {H : Type} {enc : TypeId × Value → H} {W : World} {base : Nat} {sp : Nat → Bool} {held : Bool}
set_option maxRecDepth 100000 in
theorem cells_voter : Tryd.prog.cellsOf 30 = 8 := by kernel_rfl
/-- Eight cells that read as a voter. -/
theorem dec_voter {n : Nat} {cs : List Value} {y : DataW H × List MemPlace} (h : DataW.trod enc Tryd.prog W base sp held n 30 cs = some y) : ∃ q : Vtr, cs = q.enc ∧ VtrDay q := by
  obtain ⟨xs, m, rfl, hx, hl, hxl, hf⟩ := DataW.trod_struct Tryd.underlying30 h
  rw [cells_voter] at hl
  obtain ⟨c0, c1, c2, c3, c4, c5, c6, c7, rfl⟩ := list8 hl
  obtain ⟨y0, y1, y2, y3, rfl⟩ := list4 (show xs.length = 4 from hxl)
  have h0 := hf 0 _ rfl
  have h1 := hf 1 _ rfl
  have h2 := hf 2 _ rfl
  have h3 := hf 3 _ rfl
  simp only [List.getElem_toArray, List.getElem_cons_zero, List.getElem_cons_succ] at h0 h1 h2 h3
  rw [cells_int] at h0
  rw [cells_rat] at h1 h2
  rw [cells_bool] at h3
  obtain ⟨a, e0, _, wa⟩ := DataW.trod_int Tryd.underlying3 (show DataW.trod enc Tryd.prog W base sp held m 3 [c0] = some y0 from h0)
  obtain ⟨an, aa, ab, e1, _, _⟩ := dec_rat (show DataW.trod enc Tryd.prog W base sp held m 28 [c1, c2, c3] = some y1 from h1)
  obtain ⟨kn, ka, kb, e2, _, _⟩ := dec_rat (show DataW.trod enc Tryd.prog W base sp held m 28 [c4, c5, c6] = some y2 from h2)
  obtain ⟨x, e3, _⟩ := DataW.trod_bool Tryd.underlying4 (show DataW.trod enc Tryd.prog W base sp held m 4 [c7] = some y3 from h3)
  injection e0 with e0
  injection e3 with e3
  unfold ratCells at e1 e2
  simp only [List.cons.injEq, and_true] at e1 e2
  obtain ⟨rfl, rfl, rfl⟩ := e1
  obtain ⟨rfl, rfl, rfl⟩ := e2
  subst e0
  subst e3
  exact ⟨⟨a, an, aa, ab, kn, ka, kb, x⟩, rfl, int_range wa⟩
set_option maxRecDepth 100000 in
theorem cells_arr4 : Tryd.prog.cellsOf 52 = 4 := by kernel_rfl
set_option maxRecDepth 100000 in
/-- Four cells that read as four words. -/
theorem dec_arr4 {n : Nat} {cs : List Value} {y : DataW H × List MemPlace} (h : DataW.trod enc Tryd.prog W base sp held n 52 cs = some y) : ∃ t : Qua, cs = t.enc ∧ t.ok := by
  obtain ⟨xs, m, rfl, hx, hl, hxl, hf⟩ := DataW.trod_array Tryd.underlying52 h
  rw [cells_arr4] at hl
  obtain ⟨c0, c1, c2, c3, rfl⟩ := list4 hl
  obtain ⟨y0, y1, y2, y3, rfl⟩ := list4 (show xs.length = 4 from hxl)
  have h0 := hf 0 (by decide)
  have h1 := hf 1 (by decide)
  have h2 := hf 2 (by decide)
  have h3 := hf 3 (by decide)
  rw [cells_u16] at h0 h1 h2 h3
  obtain ⟨a, e0, _, w0⟩ := DataW.trod_int Tryd.underlying35 (show DataW.trod enc Tryd.prog W base sp held m 35 [c0] = some y0 from h0)
  obtain ⟨b, e1, _, w1⟩ := DataW.trod_int Tryd.underlying35 (show DataW.trod enc Tryd.prog W base sp held m 35 [c1] = some y1 from h1)
  obtain ⟨c, e2, _, w2⟩ := DataW.trod_int Tryd.underlying35 (show DataW.trod enc Tryd.prog W base sp held m 35 [c2] = some y2 from h2)
  obtain ⟨d, e3, _, w3⟩ := DataW.trod_int Tryd.underlying35 (show DataW.trod enc Tryd.prog W base sp held m 35 [c3] = some y3 from h3)
  injection e0 with e0
  injection e1 with e1
  injection e2 with e2
  injection e3 with e3
  subst e0; subst e1; subst e2; subst e3
  obtain ⟨a0, a1⟩ := u16_range w0
  obtain ⟨b0, b1⟩ := u16_range w1
  obtain ⟨c0, c1⟩ := u16_range w2
  obtain ⟨d0, d1⟩ := u16_range w3
  refine ⟨⟨a.toNat, b.toNat, c.toNat, d.toNat⟩, ?_, ?_⟩
  · unfold Qua.enc
    dsimp only
    rw [Int.toNat_of_nonneg a0, Int.toNat_of_nonneg b0, Int.toNat_of_nonneg c0, Int.toNat_of_nonneg d0]
  · unfold Qua.ok
    dsimp only
    omega
end
end Go.Proofs.YtakoagjpmdcddaaDoor
