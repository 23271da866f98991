/-
Part 45 of the base.
-/
import Derived.Test.YtlkhoommpkndpaaGreatDoorKb44
import Derived.Test.YtlkhoommpkndpaaGreatDoorKb30
set_option maxRecDepth 100000
set_option maxHeartbeats 1000000
namespace Go.Proofs.YtlkhoommpkndpaaGreatDoor
open Go.ChangeShapes Go.WideShapes Go.ChangeAt Go.ChangeMaps Go.RowKit
theorem list10_ {α : Type} {l : List α} (h : l.length = 10) : ∃ a0 a1 a2 a3 a4 a5 a6 a7 a8 a9, l = [a0, a1, a2, a3, a4, a5, a6, a7, a8, a9] := by
 match l, h with
 | [a0, a1, a2, a3, a4, a5, a6, a7, a8, a9], _ => exact ⟨a0, a1, a2, a3, a4, a5, a6, a7, a8, a9, rfl⟩
theorem list14_ {α : Type} {l : List α} (h : l.length = 14) : ∃ a0 a1 a2 a3 a4 a5 a6 a7 a8 a9 a10 a11 a12 a13, l = [a0, a1, a2, a3, a4, a5, a6, a7, a8, a9, a10, a11, a12, a13] := by
 match l, h with
 | [a0, a1, a2, a3, a4, a5, a6, a7, a8, a9, a10, a11, a12, a13], _ => exact ⟨a0, a1, a2, a3, a4, a5, a6, a7, a8, a9, a10, a11, a12, a13, rfl⟩
theorem list6_ {α : Type} {l : List α} (h : l.length = 6) : ∃ a0 a1 a2 a3 a4 a5, l = [a0, a1, a2, a3, a4, a5] := by
 match l, h with
 | [a0, a1, a2, a3, a4, a5], _ => exact ⟨a0, a1, a2, a3, a4, a5, rfl⟩
theorem list5_ {α : Type} {l : List α} (h : l.length = 5) : ∃ a0 a1 a2 a3 a4, l = [a0, a1, a2, a3, a4] := by
 match l, h with
 | [a0, a1, a2, a3, a4], _ => exact ⟨a0, a1, a2, a3, a4, rfl⟩
theorem list3_ {α : Type} {l : List α} (h : l.length = 3) : ∃ a0 a1 a2, l = [a0, a1, a2] := by
 match l, h with
 | [a0, a1, a2], _ => exact ⟨a0, a1, a2, rfl⟩
theorem okWide_array {P : Program} {W : World} {r : Reach} {b0 : Nat} {t e : TypeId} {n : Nat} {v : Value} (ht : P.underlying t = some (.array n e)) (h : Value.okWide P W r b0 t v) : ∃ cs, v = .agg cs ∧ cs.size = P.cellsOf t := by
 simp only [Value.okWide, ht] at h
 obtain ⟨cs, h1, h2, _⟩ := h
 exact ⟨cs, h1, h2⟩
section
variable {H : Type} {enc : TypeId × Value → H} {W : World} {base : Nat} {sp : Nat → Bool} {held : Bool}
theorem cells_u8 : Tryz.prog.cellsOf 5 = 1 := by kernel_rfl
theorem cells_six : Tryz.prog.cellsOf 47 = 6 := by kernel_rfl
theorem dec_six {n : Nat} {cs : List Value} {y : DataW H × List MemPlace} (h : DataW.trod enc Tryz.prog W base sp held n 47 cs = some y) : ∃ q : Six, cs = q.enc ∧ q.ok := by
 obtain ⟨xs, m, rfl, hx, hl, hxl, hf⟩ := DataW.trod_array Tryz.underlying47 h
 rw [cells_six] at hl
 obtain ⟨c0, c1, c2, c3, c4, c5, rfl⟩ := list6_ hl
 obtain ⟨y0, y1, y2, y3, y4, y5, rfl⟩ := list6_ (show xs.length = 6 from hxl)
 have h0 := hf 0 (by decide)
 have h1 := hf 1 (by decide)
 have h2 := hf 2 (by decide)
 have h3 := hf 3 (by decide)
 have h4 := hf 4 (by decide)
 have h5 := hf 5 (by decide)
 rw [cells_u16] at h0
 obtain ⟨v0, e0, _, w0⟩ := DataW.trod_int Tryz.underlying46 (show DataW.trod enc Tryz.prog W base sp held m 46 [c0] = some y0 from h0)
 injection e0 with e0
 subst e0
 rw [cells_u16] at h1
 obtain ⟨v1, e1, _, w1⟩ := DataW.trod_int Tryz.underlying46 (show DataW.trod enc Tryz.prog W base sp held m 46 [c1] = some y1 from h1)
 injection e1 with e1
 subst e1
 rw [cells_u16] at h2
 obtain ⟨v2, e2, _, w2⟩ := DataW.trod_int Tryz.underlying46 (show DataW.trod enc Tryz.prog W base sp held m 46 [c2] = some y2 from h2)
 injection e2 with e2
 subst e2
 rw [cells_u16] at h3
 obtain ⟨v3, e3, _, w3⟩ := DataW.trod_int Tryz.underlying46 (show DataW.trod enc Tryz.prog W base sp held m 46 [c3] = some y3 from h3)
 injection e3 with e3
 subst e3
 rw [cells_u16] at h4
 obtain ⟨v4, e4, _, w4⟩ := DataW.trod_int Tryz.underlying46 (show DataW.trod enc Tryz.prog W base sp held m 46 [c4] = some y4 from h4)
 injection e4 with e4
 subst e4
 rw [cells_u16] at h5
 obtain ⟨v5, e5, _, w5⟩ := DataW.trod_int Tryz.underlying46 (show DataW.trod enc Tryz.prog W base sp held m 46 [c5] = some y5 from h5)
 injection e5 with e5
 subst e5
 obtain ⟨r0, s0⟩ := u16_range w0
 obtain ⟨r1, s1⟩ := u16_range w1
 obtain ⟨r2, s2⟩ := u16_range w2
 obtain ⟨r3, s3⟩ := u16_range w3
 obtain ⟨r4, s4⟩ := u16_range w4
 obtain ⟨r5, s5⟩ := u16_range w5
 refine ⟨⟨v0.toNat, v1.toNat, v2.toNat, v3.toNat, v4.toNat, v5.toNat⟩, ?_, ?_⟩
 ·unfold Six.enc
  dsimp only
  rw [Int.toNat_of_nonneg r0, Int.toNat_of_nonneg r1, Int.toNat_of_nonneg r2, Int.toNat_of_nonneg r3, Int.toNat_of_nonneg r4, Int.toNat_of_nonneg r5]
 ·unfold Six.ok
  dsimp only
  omega
theorem cells_act : Tryz.prog.cellsOf 54 = 10 := by kernel_rfl
theorem dec_act {n : Nat} {cs : List Value} {y : DataW H × List MemPlace} (h : DataW.trod enc Tryz.prog W base sp held n 54 cs = some y) : ∃ q : ActN, cs = q.enc ∧ q.ok := by
 obtain ⟨xs, m, rfl, hx, hl, hxl, hf⟩ := DataW.trod_struct Tryz.underlying54 h
 rw [cells_act] at hl
 obtain ⟨c0, c1, c2, c3, c4, c5, c6, c7, c8, c9, rfl⟩ := list10_ hl
 obtain ⟨y0, y1, y2, y3, y4, rfl⟩ := list5_ (show xs.length = 5 from hxl)
 have h0 := hf 0 _ rfl
 have h1 := hf 1 _ rfl
 have h2 := hf 2 _ rfl
 have h3 := hf 3 _ rfl
 have h4 := hf 4 _ rfl
 simp only [List.getElem_toArray, List.getElem_cons_zero, List.getElem_cons_succ] at h0 h1 h2 h3 h4
 rw [cells_u8] at h0
 obtain ⟨v0, e0, _, w0⟩ := DataW.trod_int Tryz.underlying5 (show DataW.trod enc Tryz.prog W base sp held m 5 [c0] = some y0 from h0)
 injection e0 with e0
 subst e0
 rw [cells_u8] at h1
 obtain ⟨v1, e1, _, w1⟩ := DataW.trod_int Tryz.underlying5 (show DataW.trod enc Tryz.prog W base sp held m 5 [c1] = some y1 from h1)
 injection e1 with e1
 subst e1
 rw [cells_u8] at h2
 obtain ⟨v2, e2, _, w2⟩ := DataW.trod_int Tryz.underlying5 (show DataW.trod enc Tryz.prog W base sp held m 5 [c2] = some y2 from h2)
 injection e2 with e2
 subst e2
 rw [cells_u16] at h3
 obtain ⟨v3, e3, _, w3⟩ := DataW.trod_int Tryz.underlying46 (show DataW.trod enc Tryz.prog W base sp held m 46 [c3] = some y3 from h3)
 injection e3 with e3
 subst e3
 rw [cells_six] at h4
 obtain ⟨q4, e4, k4⟩ := dec_six (show DataW.trod enc Tryz.prog W base sp held m 47 [c4, c5, c6, c7, c8, c9] = some y4 from h4)
 unfold Six.enc at e4
 simp only [List.cons.injEq, and_true] at e4
 obtain ⟨rfl, rfl, rfl, rfl, rfl, rfl⟩ := e4
 obtain ⟨r0, s0⟩ := u8_range w0
 obtain ⟨r1, s1⟩ := u8_range w1
 obtain ⟨r2, s2⟩ := u8_range w2
 obtain ⟨r3, s3⟩ := u16_range w3
 refine ⟨⟨v0.toNat, v1.toNat, v2.toNat, v3.toNat, q4⟩, ?_, ?_⟩
 ·unfold ActN.enc Six.enc
  dsimp only
  rw [Int.toNat_of_nonneg r0, Int.toNat_of_nonneg r1, Int.toNat_of_nonneg r2, Int.toNat_of_nonneg r3]
  rfl
 ·refine ⟨?_, k4⟩
  dsimp only
  omega
theorem cells_prf : Tryz.prog.cellsOf 36 = 14 := by kernel_rfl
theorem dec_prf {n : Nat} {cs : List Value} {y : DataW H × List MemPlace} (h : DataW.trod enc Tryz.prog W base sp held n 36 cs = some y) : ∃ q : Prf, cs = q.enc ∧ q.fit := by
 obtain ⟨xs, m, rfl, hx, hl, hxl, hf⟩ := DataW.trod_struct Tryz.underlying36 h
 rw [cells_prf] at hl
 obtain ⟨c0, c1, c2, c3, c4, c5, c6, c7, c8, c9, c10, c11, c12, c13, rfl⟩ := list14_ hl
 obtain ⟨y0, y1, y2, y3, y4, y5, y6, y7, y8, y9, rfl⟩ := list10_ (show xs.length = 10 from hxl)
 have h0 := hf 0 _ rfl
 have h1 := hf 1 _ rfl
 have h2 := hf 2 _ rfl
 have h3 := hf 3 _ rfl
 have h4 := hf 4 _ rfl
 have h5 := hf 5 _ rfl
 have h6 := hf 6 _ rfl
 have h7 := hf 7 _ rfl
 have h8 := hf 8 _ rfl
 have h9 := hf 9 _ rfl
 simp only [List.getElem_toArray, List.getElem_cons_zero, List.getElem_cons_succ] at h0 h1 h2 h3 h4 h5 h6 h7 h8 h9
 rw [cells_str] at h0
 obtain ⟨v0, e0, _, l0⟩ := DataW.trod_string Tryz.underlying9 (show DataW.trod enc Tryz.prog W base sp held m 9 [c0] = some y0 from h0)
 injection e0 with e0
 subst e0
 rw [cells_int] at h1
 obtain ⟨v1, e1, _, w1⟩ := DataW.trod_int Tryz.underlying3 (show DataW.trod enc Tryz.prog W base sp held m 3 [c1] = some y1 from h1)
 injection e1 with e1
 subst e1
 rw [cells_int] at h2
 obtain ⟨v2, e2, _, w2⟩ := DataW.trod_int Tryz.underlying3 (show DataW.trod enc Tryz.prog W base sp held m 3 [c2] = some y2 from h2)
 injection e2 with e2
 subst e2
 rw [cells_str] at h3
 obtain ⟨v3, e3, _, l3⟩ := DataW.trod_string Tryz.underlying9 (show DataW.trod enc Tryz.prog W base sp held m 9 [c3] = some y3 from h3)
 injection e3 with e3
 subst e3
 rw [cells_rat] at h4
 obtain ⟨n4, a4, b4, e4, la4, lb4⟩ := dec_rat (show DataW.trod enc Tryz.prog W base sp held m 34 [c4, c5, c6] = some y4 from h4)
 unfold ratCells at e4
 simp only [List.cons.injEq, and_true] at e4
 obtain ⟨rfl, rfl, rfl⟩ := e4
 rw [cells_int] at h5
 obtain ⟨v5, e5, _, w5⟩ := DataW.trod_int Tryz.underlying3 (show DataW.trod enc Tryz.prog W base sp held m 3 [c7] = some y5 from h5)
 injection e5 with e5
 subst e5
 rw [cells_int] at h6
 obtain ⟨v6, e6, _, w6⟩ := DataW.trod_int Tryz.underlying3 (show DataW.trod enc Tryz.prog W base sp held m 3 [c8] = some y6 from h6)
 injection e6 with e6
 subst e6
 rw [cells_rat] at h7
 obtain ⟨n7, a7, b7, e7, la7, lb7⟩ := dec_rat (show DataW.trod enc Tryz.prog W base sp held m 34 [c9, c10, c11] = some y7 from h7)
 unfold ratCells at e7
 simp only [List.cons.injEq, and_true] at e7
 obtain ⟨rfl, rfl, rfl⟩ := e7
 rw [cells_int] at h8
 obtain ⟨v8, e8, _, w8⟩ := DataW.trod_int Tryz.underlying3 (show DataW.trod enc Tryz.prog W base sp held m 3 [c12] = some y8 from h8)
 injection e8 with e8
 subst e8
 rw [cells_int] at h9
 obtain ⟨v9, e9, _, w9⟩ := DataW.trod_int Tryz.underlying3 (show DataW.trod enc Tryz.prog W base sp held m 3 [c13] = some y9 from h9)
 injection e9 with e9
 subst e9
 have mx : ∀ n : Nat, n ≤ maxLen → n ≤ 9223372036854775807 := fun n h => by unfold maxLen at h; omega
 refine ⟨⟨v0.data.toList, v1, v2, v3.data.toList, n4, a4, b4, v5, v6, n7, a7, b7, v8, v9⟩, rfl, ⟨⟨?_, ?_, mx _ la4, mx _ lb4, mx _ la7, mx _ lb7⟩, w1, w2, w5, w6, w8, w9⟩⟩
 ·show v0.data.toList.length ≤ _
  rw [size_list]
  exact mx _ l0
 ·show v3.data.toList.length ≤ _
  rw [size_list]
  exact mx _ l3
def Evt.fit (e : Evt) : Prop := e.p.fit ∧ (Lit.int .i64 e.kind).wf = true ∧ (Lit.int .i64 e.day).wf = true ∧ (Lit.int .i64 e.cre).wf = true
theorem cells_quote : Tryz.prog.cellsOf 40 = 5 := by kernel_rfl
theorem dec_quote {n : Nat} {cs : List Value} {y : DataW H × List MemPlace} (h : DataW.trod enc Tryz.prog W base sp held n 40 cs = some y) : ∃ q : Quo, cs = q.enc ∧ QuoAny q := by
 obtain ⟨xs, m, rfl, hx, hl, hxl, hf⟩ := DataW.trod_struct Tryz.underlying40 h
 rw [cells_quote] at hl
 obtain ⟨c0, c1, c2, c3, c4, rfl⟩ := list5_ hl
 obtain ⟨y0, y1, y2, rfl⟩ := list3_ (show xs.length = 3 from hxl)
 have h0 := hf 0 _ rfl
 have h1 := hf 1 _ rfl
 have h2 := hf 2 _ rfl
 simp only [List.getElem_toArray, List.getElem_cons_zero, List.getElem_cons_succ] at h0 h1 h2
 rw [cells_str] at h0
 obtain ⟨v0, e0, _, l0⟩ := DataW.trod_string Tryz.underlying9 (show DataW.trod enc Tryz.prog W base sp held m 9 [c0] = some y0 from h0)
 injection e0 with e0
 subst e0
 rw [cells_int] at h1
 obtain ⟨v1, e1, _, w1⟩ := DataW.trod_int Tryz.underlying3 (show DataW.trod enc Tryz.prog W base sp held m 3 [c1] = some y1 from h1)
 injection e1 with e1
 subst e1
 rw [cells_rat] at h2
 obtain ⟨n2, a2, b2, e2, la2, lb2⟩ := dec_rat (show DataW.trod enc Tryz.prog W base sp held m 34 [c2, c3, c4] = some y2 from h2)
 unfold ratCells at e2
 simp only [List.cons.injEq, and_true] at e2
 obtain ⟨rfl, rfl, rfl⟩ := e2
 refine ⟨⟨v0.data.toList, v1, n2, a2, b2⟩, rfl, ?_, int_range w1⟩
 show v0.data.toList.length ≤ _
 rw [size_list]
 unfold maxLen at l0
 omega
theorem cells_arr3 : Tryz.prog.cellsOf 132 = 3 := by kernel_rfl
theorem dec_arr3 {n : Nat} {cs : List Value} {y : DataW H × List MemPlace} (h : DataW.trod enc Tryz.prog W base sp held n 132 cs = some y) : ∃ q : Tri, cs = q.enc ∧ q.ok := by
 obtain ⟨xs, m, rfl, hx, hl, hxl, hf⟩ := DataW.trod_array Tryz.underlying132 h
 rw [cells_arr3] at hl
 obtain ⟨c0, c1, c2, rfl⟩ := list3_ hl
 obtain ⟨y0, y1, y2, rfl⟩ := list3_ (show xs.length = 3 from hxl)
 have h0 := hf 0 (by decide)
 have h1 := hf 1 (by decide)
 have h2 := hf 2 (by decide)
 rw [cells_u16] at h0
 obtain ⟨v0, e0, _, w0⟩ := DataW.trod_int Tryz.underlying46 (show DataW.trod enc Tryz.prog W base sp held m 46 [c0] = some y0 from h0)
 injection e0 with e0
 subst e0
 rw [cells_u16] at h1
 obtain ⟨v1, e1, _, w1⟩ := DataW.trod_int Tryz.underlying46 (show DataW.trod enc Tryz.prog W base sp held m 46 [c1] = some y1 from h1)
 injection e1 with e1
 subst e1
 rw [cells_u16] at h2
 obtain ⟨v2, e2, _, w2⟩ := DataW.trod_int Tryz.underlying46 (show DataW.trod enc Tryz.prog W base sp held m 46 [c2] = some y2 from h2)
 injection e2 with e2
 subst e2
 obtain ⟨r0, s0⟩ := u16_range w0
 obtain ⟨r1, s1⟩ := u16_range w1
 obtain ⟨r2, s2⟩ := u16_range w2
 refine ⟨⟨v0.toNat, v1.toNat, v2.toNat⟩, ?_, ?_⟩
 ·unfold Tri.enc
  dsimp only
  rw [Int.toNat_of_nonneg r0, Int.toNat_of_nonneg r1, Int.toNat_of_nonneg r2]
 ·unfold Tri.ok
  dsimp only
  omega
theorem open_six {r : Reach} {b0 : Nat} {v : Value} {d : DataW H} {p : List MemPlace} (hv : Value.okWide Tryz.prog W r b0 47 v) (h : DataW.Trod enc Tryz.prog W base sp held 47 v d p) : ∃ q : Six, v = .agg q.enc.toArray ∧ q.ok := by
 obtain ⟨cs, rfl, hsz⟩ := okWide_array Tryz.underlying47 hv
 obtain ⟨fuel, hf0⟩ := h
 obtain ⟨q, he, hq⟩ := dec_six hf0
 refine ⟨q, ?_, hq⟩
 congr 1
 exact Array.toList_inj.1 he
theorem open_prf {r : Reach} {b0 : Nat} {v : Value} {d : DataW H} {p : List MemPlace} (hv : Value.okWide Tryz.prog W r b0 36 v) (h : DataW.Trod enc Tryz.prog W base sp held 36 v d p) : ∃ q : Prf, v = .agg q.enc.toArray ∧ q.fit := by
 obtain ⟨cs, rfl, hsz⟩ := okWide_struct Tryz.underlying36 hv
 obtain ⟨fuel, hf0⟩ := h
 obtain ⟨q, he, hq⟩ := dec_prf hf0
 refine ⟨q, ?_, hq⟩
 congr 1
 exact Array.toList_inj.1 he
end
end Go.Proofs.YtlkhoommpkndpaaGreatDoor
