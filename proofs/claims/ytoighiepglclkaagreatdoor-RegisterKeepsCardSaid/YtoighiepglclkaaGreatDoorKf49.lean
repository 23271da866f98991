/-
Part 49 of the base.
-/
import Derived.Test.YtoighiepglclkaaGreatDoorKf48
import Derived.Test.YtoighiepglclkaaGreatDoorKf27
set_option maxRecDepth 100000
set_option maxHeartbeats 1000000
namespace Go.Proofs.YtoighiepglclkaaGreatDoor
open Go.ChangeShapes Go.WideShapes Go.ChangeAt Go.ChangeMaps Go.RowKit
theorem list10_ {α : Type} {l : List α} (h : l.length = 10) : ∃ a0 a1 a2 a3 a4 a5 a6 a7 a8 a9, l = [a0, a1, a2, a3, a4, a5, a6, a7, a8, a9] := by
 match l, h with
 | [a0, a1, a2, a3, a4, a5, a6, a7, a8, a9], _ => exact ⟨a0, a1, a2, a3, a4, a5, a6, a7, a8, a9, rfl⟩
theorem list6_ {α : Type} {l : List α} (h : l.length = 6) : ∃ a0 a1 a2 a3 a4 a5, l = [a0, a1, a2, a3, a4, a5] := by
 match l, h with
 | [a0, a1, a2, a3, a4, a5], _ => exact ⟨a0, a1, a2, a3, a4, a5, rfl⟩
theorem list5_ {α : Type} {l : List α} (h : l.length = 5) : ∃ a0 a1 a2 a3 a4, l = [a0, a1, a2, a3, a4] := by
 match l, h with
 | [a0, a1, a2, a3, a4], _ => exact ⟨a0, a1, a2, a3, a4, rfl⟩
theorem list3_ {α : Type} {l : List α} (h : l.length = 3) : ∃ a0 a1 a2, l = [a0, a1, a2] := by
 match l, h with
 | [a0, a1, a2], _ => exact ⟨a0, a1, a2, rfl⟩
section
variable {H : Type} {enc : TypeId × Value -> H} {W : World} {base : Nat} {sp : Nat -> Bool} {held : Bool}
theorem c0x : Tryz.prog.cellsOf 5 = 1 := by kernel_rfl
theorem c3b : Tryz.prog.cellsOf 25 = 6 := by kernel_rfl
theorem dec_six {n : Nat} {cs : List Value} {y : DataW H × List MemPlace} (h : DataW.trod enc Tryz.prog W base sp held n 25 cs = some y) : ∃ q : Six, cs = q.enc /\ q.ok := by
 obtain ⟨xs, m, rfl, hx, hl, hxl, hf⟩ := DataW.trod_array Tryz.underlying25 h
 rw [c3b] at hl
 obtain ⟨c0, c1, c2, c3, c4, c5, rfl⟩ := list6_ hl
 obtain ⟨y0, y1, y2, y3, y4, y5, rfl⟩ := list6_ (show xs.length = 6 from hxl)
 have h0 := hf 0 (by decide)
 have h1 := hf 1 (by decide)
 have h2 := hf 2 (by decide)
 have h3 := hf 3 (by decide)
 have h4 := hf 4 (by decide)
 have h5 := hf 5 (by decide)
 rw [a4q] at h0
 obtain ⟨v0, e0, _, w0⟩ := DataW.trod_int Tryz.underlying24 (show DataW.trod enc Tryz.prog W base sp held m 24 [c0] = some y0 from h0)
 injection e0 with e0
 subst e0
 rw [a4q] at h1
 obtain ⟨v1, e1, _, w1⟩ := DataW.trod_int Tryz.underlying24 (show DataW.trod enc Tryz.prog W base sp held m 24 [c1] = some y1 from h1)
 injection e1 with e1
 subst e1
 rw [a4q] at h2
 obtain ⟨v2, e2, _, w2⟩ := DataW.trod_int Tryz.underlying24 (show DataW.trod enc Tryz.prog W base sp held m 24 [c2] = some y2 from h2)
 injection e2 with e2
 subst e2
 rw [a4q] at h3
 obtain ⟨v3, e3, _, w3⟩ := DataW.trod_int Tryz.underlying24 (show DataW.trod enc Tryz.prog W base sp held m 24 [c3] = some y3 from h3)
 injection e3 with e3
 subst e3
 rw [a4q] at h4
 obtain ⟨v4, e4, _, w4⟩ := DataW.trod_int Tryz.underlying24 (show DataW.trod enc Tryz.prog W base sp held m 24 [c4] = some y4 from h4)
 injection e4 with e4
 subst e4
 rw [a4q] at h5
 obtain ⟨v5, e5, _, w5⟩ := DataW.trod_int Tryz.underlying24 (show DataW.trod enc Tryz.prog W base sp held m 24 [c5] = some y5 from h5)
 injection e5 with e5
 subst e5
 obtain ⟨r0, s0⟩ := a4j w0
 obtain ⟨r1, s1⟩ := a4j w1
 obtain ⟨r2, s2⟩ := a4j w2
 obtain ⟨r3, s3⟩ := a4j w3
 obtain ⟨r4, s4⟩ := a4j w4
 obtain ⟨r5, s5⟩ := a4j w5
 refine ⟨⟨v0.toNat, v1.toNat, v2.toNat, v3.toNat, v4.toNat, v5.toNat⟩, ?_, ?_⟩
 ·unfold Six.enc
  dsimp only
  rw [Int.toNat_of_nonneg r0, Int.toNat_of_nonneg r1, Int.toNat_of_nonneg r2, Int.toNat_of_nonneg r3, Int.toNat_of_nonneg r4, Int.toNat_of_nonneg r5]
 unfold Six.ok
 dsimp only
 omega
theorem c3c : Tryz.prog.cellsOf 27 = 10 := by kernel_rfl
theorem d0y {n : Nat} {cs : List Value} {y : DataW H × List MemPlace} (h : DataW.trod enc Tryz.prog W base sp held n 27 cs = some y) : ∃ q : ActN, cs = q.enc /\ q.ok := by
 obtain ⟨xs, m, rfl, hx, hl, hxl, hf⟩ := DataW.trod_struct Tryz.underlying27 h
 rw [c3c] at hl
 obtain ⟨c0, c1, c2, c3, c4, c5, c6, c7, c8, c9, rfl⟩ := list10_ hl
 obtain ⟨y0, y1, y2, y3, y4, rfl⟩ := list5_ (show xs.length = 5 from hxl)
 have h0 := hf 0 _ rfl
 have h1 := hf 1 _ rfl
 have h2 := hf 2 _ rfl
 have h3 := hf 3 _ rfl
 have h4 := hf 4 _ rfl
 simp only [List.getElem_toArray, List.getElem_cons_zero, List.getElem_cons_succ] at h0 h1 h2 h3 h4
 rw [c0x] at h0
 obtain ⟨v0, e0, _, w0⟩ := DataW.trod_int Tryz.underlying5 (show DataW.trod enc Tryz.prog W base sp held m 5 [c0] = some y0 from h0)
 injection e0 with e0
 subst e0
 rw [c0x] at h1
 obtain ⟨v1, e1, _, w1⟩ := DataW.trod_int Tryz.underlying5 (show DataW.trod enc Tryz.prog W base sp held m 5 [c1] = some y1 from h1)
 injection e1 with e1
 subst e1
 rw [c0x] at h2
 obtain ⟨v2, e2, _, w2⟩ := DataW.trod_int Tryz.underlying5 (show DataW.trod enc Tryz.prog W base sp held m 5 [c2] = some y2 from h2)
 injection e2 with e2
 subst e2
 rw [a4q] at h3
 obtain ⟨v3, e3, _, w3⟩ := DataW.trod_int Tryz.underlying24 (show DataW.trod enc Tryz.prog W base sp held m 24 [c3] = some y3 from h3)
 injection e3 with e3
 subst e3
 rw [c3b] at h4
 obtain ⟨q4, e4, k4⟩ := dec_six (show DataW.trod enc Tryz.prog W base sp held m 25 [c4, c5, c6, c7, c8, c9] = some y4 from h4)
 unfold Six.enc at e4
 simp only [List.cons.injEq, and_true] at e4
 obtain ⟨rfl, rfl, rfl, rfl, rfl, rfl⟩ := e4
 obtain ⟨r0, s0⟩ := b1j w0
 obtain ⟨r1, s1⟩ := b1j w1
 obtain ⟨r2, s2⟩ := b1j w2
 obtain ⟨r3, s3⟩ := a4j w3
 refine ⟨⟨v0.toNat, v1.toNat, v2.toNat, v3.toNat, q4⟩, ?_, ?_⟩
 ·unfold ActN.enc Six.enc
  dsimp only
  rw [Int.toNat_of_nonneg r0, Int.toNat_of_nonneg r1, Int.toNat_of_nonneg r2, Int.toNat_of_nonneg r3]
  rfl
 refine ⟨?_, k4⟩
 dsimp only
 omega
def Evt.fit (e : Evt) : Prop := e.p.fit /\ (Lit.int .i64 e.kind).wf = true /\ (Lit.int .i64 e.day).wf = true /\ (Lit.int .i64 e.cre).wf = true
theorem b9m : Tryz.prog.cellsOf 72 = 3 := by kernel_rfl
theorem dec_arr3 {n : Nat} {cs : List Value} {y : DataW H × List MemPlace} (h : DataW.trod enc Tryz.prog W base sp held n 72 cs = some y) : ∃ q : Tri, cs = q.enc /\ q.ok := by
 obtain ⟨xs, m, rfl, hx, hl, hxl, hf⟩ := DataW.trod_array Tryz.underlying72 h
 rw [b9m] at hl
 obtain ⟨c0, c1, c2, rfl⟩ := list3_ hl
 obtain ⟨y0, y1, y2, rfl⟩ := list3_ (show xs.length = 3 from hxl)
 have h0 := hf 0 (by decide)
 have h1 := hf 1 (by decide)
 have h2 := hf 2 (by decide)
 rw [a4q] at h0
 obtain ⟨v0, e0, _, w0⟩ := DataW.trod_int Tryz.underlying24 (show DataW.trod enc Tryz.prog W base sp held m 24 [c0] = some y0 from h0)
 injection e0 with e0
 subst e0
 rw [a4q] at h1
 obtain ⟨v1, e1, _, w1⟩ := DataW.trod_int Tryz.underlying24 (show DataW.trod enc Tryz.prog W base sp held m 24 [c1] = some y1 from h1)
 injection e1 with e1
 subst e1
 rw [a4q] at h2
 obtain ⟨v2, e2, _, w2⟩ := DataW.trod_int Tryz.underlying24 (show DataW.trod enc Tryz.prog W base sp held m 24 [c2] = some y2 from h2)
 injection e2 with e2
 subst e2
 obtain ⟨r0, s0⟩ := a4j w0
 obtain ⟨r1, s1⟩ := a4j w1
 obtain ⟨r2, s2⟩ := a4j w2
 refine ⟨⟨v0.toNat, v1.toNat, v2.toNat⟩, ?_, ?_⟩
 ·unfold Tri.enc
  dsimp only
  rw [Int.toNat_of_nonneg r0, Int.toNat_of_nonneg r1, Int.toNat_of_nonneg r2]
 unfold Tri.ok
 dsimp only
 omega
theorem open_act {r : Reach} {b0 : Nat} {v : Value} {d : DataW H} {p : List MemPlace} (hv : Value.okWide Tryz.prog W r b0 27 v) (h : DataW.Trod enc Tryz.prog W base sp held 27 v d p) : ∃ q : ActN, v = .agg q.enc.toArray /\ q.ok := by
 obtain ⟨cs, rfl, hsz⟩ := okWide_struct Tryz.underlying27 hv
 obtain ⟨fuel, hf0⟩ := h
 obtain ⟨q, he, hq⟩ := d0y hf0
 refine ⟨q, ?_, hq⟩
 congr 1
 exact Array.toList_inj.1 he
end
end Go.Proofs.YtoighiepglclkaaGreatDoor
