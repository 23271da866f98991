/-
Part 50 of the base.
-/
import Derived.Test.YtlkhoommpkndpaaGreatDoorKh49
import Derived.Test.YtlkhoommpkndpaaGreatDoorKh27
set_option maxRecDepth 100000
set_option maxHeartbeats 1000000
namespace Go.Proofs.YtlkhoommpkndpaaGreatDoor
open Go.ChangeShapes Go.WideShapes Go.ChangeAt Go.ChangeMaps Go.RowKit
theorem list10_ {α : Type} {l : List α} (h : l.length = 10) : ∃ a0 a1 a2 a3 a4 a5 a6 a7 a8 a9, l = [a0, a1, a2, a3, a4, a5, a6, a7, a8, a9] := by
 match l, h with
 | [a0, a1, a2, a3, a4, a5, a6, a7, a8, a9], _ => exact ⟨a0, a1, a2, a3, a4, a5, a6, a7, a8, a9, rfl⟩
theorem list14_ {α : Type} {l : List α} (h : l.length = 14) : ∃ a0 a1 a2 a3 a4 a5 a6 a7 a8 a9 a10 a11 a12 a13, l = [a0, a1, a2, a3, a4, a5, a6, a7, a8, a9, a10, a11, a12, a13] := by
 match l, h with
 | [a0, a1, a2, a3, a4, a5, a6, a7, a8, a9, a10, a11, a12, a13], _ => exact ⟨a0, a1, a2, a3, a4, a5, a6, a7, a8, a9, a10, a11, a12, a13, rfl⟩
theorem list21_ {α : Type} {l : List α} (h : l.length = 21) : ∃ a0 a1 a2 a3 a4 a5 a6 a7 a8 a9 a10 a11 a12 a13 a14 a15 a16 a17 a18 a19 a20, l = [a0, a1, a2, a3, a4, a5, a6, a7, a8, a9, a10, a11, a12, a13, a14, a15, a16, a17, a18, a19, a20] := by
 match l, h with
 | [a0, a1, a2, a3, a4, a5, a6, a7, a8, a9, a10, a11, a12, a13, a14, a15, a16, a17, a18, a19, a20], _ => exact ⟨a0, a1, a2, a3, a4, a5, a6, a7, a8, a9, a10, a11, a12, a13, a14, a15, a16, a17, a18, a19, a20, rfl⟩
theorem list30_ {α : Type} {l : List α} (h : l.length = 30) : ∃ a0 a1 a2 a3 a4 a5 a6 a7 a8 a9 a10 a11 a12 a13 a14 a15 a16 a17 a18 a19 a20 a21 a22 a23 a24 a25 a26 a27 a28 a29, l = [a0, a1, a2, a3, a4, a5, a6, a7, a8, a9, a10, a11, a12, a13, a14, a15, a16, a17, a18, a19, a20, a21, a22, a23, a24, a25, a26, a27, a28, a29] := by
 match l, h with
 | [a0, a1, a2, a3, a4, a5, a6, a7, a8, a9, a10, a11, a12, a13, a14, a15, a16, a17, a18, a19, a20, a21, a22, a23, a24, a25, a26, a27, a28, a29], _ => exact ⟨a0, a1, a2, a3, a4, a5, a6, a7, a8, a9, a10, a11, a12, a13, a14, a15, a16, a17, a18, a19, a20, a21, a22, a23, a24, a25, a26, a27, a28, a29, rfl⟩
theorem list6_ {α : Type} {l : List α} (h : l.length = 6) : ∃ a0 a1 a2 a3 a4 a5, l = [a0, a1, a2, a3, a4, a5] := by
 match l, h with
 | [a0, a1, a2, a3, a4, a5], _ => exact ⟨a0, a1, a2, a3, a4, a5, rfl⟩
theorem list9_ {α : Type} {l : List α} (h : l.length = 9) : ∃ a0 a1 a2 a3 a4 a5 a6 a7 a8, l = [a0, a1, a2, a3, a4, a5, a6, a7, a8] := by
 match l, h with
 | [a0, a1, a2, a3, a4, a5, a6, a7, a8], _ => exact ⟨a0, a1, a2, a3, a4, a5, a6, a7, a8, rfl⟩
section
variable {H : Type} {enc : TypeId × Value -> H} {W : World} {base : Nat} {sp : Nat -> Bool} {held : Bool}
theorem b6a : Tryz.prog.cellsOf 36 = 14 := by kernel_rfl
theorem c9b {n : Nat} {cs : List Value} {y : DataW H × List MemPlace} (h : DataW.trod enc Tryz.prog W base sp held n 36 cs = some y) : ∃ q : Prf, cs = q.enc /\ q.fit := by
 obtain ⟨xs, m, rfl, hx, hl, hxl, hf⟩ := DataW.trod_struct Tryz.underlying36 h
 rw [b6a] at hl
 obtain ⟨c0, c1, c2, c3, c4, c5, c6, c7, c8, c9, c10, c11, c12, c13, rfl⟩ := list14_ hl
 obtain ⟨y0, y1, y2, y3, y4, y5, y6, y7, y8, y9, rfl⟩ := list10_ (show xs.length = 10 from hxl)
 have h0 := hf 0 _ rfl
 have h1 := hf 1 _ rfl
 have h2 := hf 2 _ rfl
 have h3 := hf 3 _ rfl
 have h4 := hf 4 _ rfl
 have h5 := hf 5 _ rfl
 have h6 := hf 6 _ rfl
 have h7 := hf 7 _ rfl
 have h8 := hf 8 _ rfl
 have h9 := hf 9 _ rfl
 simp only [List.getElem_toArray, List.getElem_cons_zero, List.getElem_cons_succ] at h0 h1 h2 h3 h4 h5 h6 h7 h8 h9
 rw [b1v] at h0
 obtain ⟨v0, e0, _, l0⟩ := DataW.trod_string Tryz.underlying9 (show DataW.trod enc Tryz.prog W base sp held m 9 [c0] = some y0 from h0)
 injection e0 with e0
 subst e0
 rw [a3f] at h1
 obtain ⟨v1, e1, _, w1⟩ := DataW.trod_int Tryz.underlying3 (show DataW.trod enc Tryz.prog W base sp held m 3 [c1] = some y1 from h1)
 injection e1 with e1
 subst e1
 rw [a3f] at h2
 obtain ⟨v2, e2, _, w2⟩ := DataW.trod_int Tryz.underlying3 (show DataW.trod enc Tryz.prog W base sp held m 3 [c2] = some y2 from h2)
 injection e2 with e2
 subst e2
 rw [b1v] at h3
 obtain ⟨v3, e3, _, l3⟩ := DataW.trod_string Tryz.underlying9 (show DataW.trod enc Tryz.prog W base sp held m 9 [c3] = some y3 from h3)
 injection e3 with e3
 subst e3
 rw [a5r] at h4
 obtain ⟨n4, a4, b4, e4, la4, lb4⟩ := b0p (show DataW.trod enc Tryz.prog W base sp held m 34 [c4, c5, c6] = some y4 from h4)
 unfold a6v at e4
 simp only [List.cons.injEq, and_true] at e4
 obtain ⟨rfl, rfl, rfl⟩ := e4
 rw [a3f] at h5
 obtain ⟨v5, e5, _, w5⟩ := DataW.trod_int Tryz.underlying3 (show DataW.trod enc Tryz.prog W base sp held m 3 [c7] = some y5 from h5)
 injection e5 with e5
 subst e5
 rw [a3f] at h6
 obtain ⟨v6, e6, _, w6⟩ := DataW.trod_int Tryz.underlying3 (show DataW.trod enc Tryz.prog W base sp held m 3 [c8] = some y6 from h6)
 injection e6 with e6
 subst e6
 rw [a5r] at h7
 obtain ⟨n7, a7, b7, e7, la7, lb7⟩ := b0p (show DataW.trod enc Tryz.prog W base sp held m 34 [c9, c10, c11] = some y7 from h7)
 unfold a6v at e7
 simp only [List.cons.injEq, and_true] at e7
 obtain ⟨rfl, rfl, rfl⟩ := e7
 rw [a3f] at h8
 obtain ⟨v8, e8, _, w8⟩ := DataW.trod_int Tryz.underlying3 (show DataW.trod enc Tryz.prog W base sp held m 3 [c12] = some y8 from h8)
 injection e8 with e8
 subst e8
 rw [a3f] at h9
 obtain ⟨v9, e9, _, w9⟩ := DataW.trod_int Tryz.underlying3 (show DataW.trod enc Tryz.prog W base sp held m 3 [c13] = some y9 from h9)
 injection e9 with e9
 subst e9
 have mx : ∀ n : Nat, n <= maxLen -> n <= 9223372036854775807 := fun n h => by unfold maxLen at h; omega
 refine ⟨⟨v0.data.toList, v1, v2, v3.data.toList, n4, a4, b4, v5, v6, n7, a7, b7, v8, v9⟩, rfl, ⟨⟨?_, ?_, mx _ la4, mx _ lb4, mx _ la7, mx _ lb7⟩, w1, w2, w5, w6, w8, w9⟩⟩
 ·show v0.data.toList.length <= _
  rw [a0x]
  exact mx _ l0
 show v3.data.toList.length <= _
 rw [a0x]
 exact mx _ l3
theorem c1u : Tryz.prog.cellsOf 63 = 30 := by kernel_rfl
theorem dec_ent {n : Nat} {cs : List Value} {y : DataW H × List MemPlace} (h : DataW.trod enc Tryz.prog W base sp held n 63 cs = some y) : ∃ q : Ent, cs = q.enc /\ q.fit := by
 obtain ⟨xs, m, rfl, hx, hl, hxl, hf⟩ := DataW.trod_struct Tryz.underlying63 h
 rw [c1u] at hl
 obtain ⟨c0, c1, c2, c3, c4, c5, c6, c7, c8, c9, c10, c11, c12, c13, c14, c15, c16, c17, c18, c19, c20, c21, c22, c23, c24, c25, c26, c27, c28, c29, rfl⟩ := list30_ hl
 obtain ⟨y0, y1, y2, y3, y4, y5, y6, y7, y8, rfl⟩ := list9_ (show xs.length = 9 from hxl)
 have h0 := hf 0 _ rfl
 have h1 := hf 1 _ rfl
 have h2 := hf 2 _ rfl
 have h3 := hf 3 _ rfl
 have h4 := hf 4 _ rfl
 have h5 := hf 5 _ rfl
 have h6 := hf 6 _ rfl
 have h7 := hf 7 _ rfl
 have h8 := hf 8 _ rfl
 simp only [List.getElem_toArray, List.getElem_cons_zero, List.getElem_cons_succ] at h0 h1 h2 h3 h4 h5 h6 h7 h8
 rw [b6a] at h0
 obtain ⟨p0, e0, f0⟩ := c9b (show DataW.trod enc Tryz.prog W base sp held m 36 [c0, c1, c2, c3, c4, c5, c6, c7, c8, c9, c10, c11, c12, c13] = some y0 from h0)
 unfold Prf.enc at e0
 simp only [List.cons.injEq, and_true] at e0
 obtain ⟨rfl, rfl, rfl, rfl, rfl, rfl, rfl, rfl, rfl, rfl, rfl, rfl, rfl, rfl⟩ := e0
 rw [a3f] at h1
 obtain ⟨v1, e1, _, w1⟩ := DataW.trod_int Tryz.underlying3 (show DataW.trod enc Tryz.prog W base sp held m 3 [c14] = some y1 from h1)
 injection e1 with e1
 subst e1
 rw [b8q] at h2
 obtain ⟨v2, e2, _⟩ := DataW.trod_bool Tryz.underlying4 (show DataW.trod enc Tryz.prog W base sp held m 4 [c15] = some y2 from h2)
 injection e2 with e2
 subst e2
 rw [a5r] at h3
 obtain ⟨n3, a3, b3, e3, la3, lb3⟩ := b0p (show DataW.trod enc Tryz.prog W base sp held m 34 [c16, c17, c18] = some y3 from h3)
 unfold a6v at e3
 simp only [List.cons.injEq, and_true] at e3
 obtain ⟨rfl, rfl, rfl⟩ := e3
 rw [a5r] at h4
 obtain ⟨n4, a4, b4, e4, la4, lb4⟩ := b0p (show DataW.trod enc Tryz.prog W base sp held m 34 [c19, c20, c21] = some y4 from h4)
 unfold a6v at e4
 simp only [List.cons.injEq, and_true] at e4
 obtain ⟨rfl, rfl, rfl⟩ := e4
 rw [a5r] at h5
 obtain ⟨n5, a5, b5, e5, la5, lb5⟩ := b0p (show DataW.trod enc Tryz.prog W base sp held m 34 [c22, c23, c24] = some y5 from h5)
 unfold a6v at e5
 simp only [List.cons.injEq, and_true] at e5
 obtain ⟨rfl, rfl, rfl⟩ := e5
 rw [a5r] at h6
 obtain ⟨n6, a6, b6, e6, la6, lb6⟩ := b0p (show DataW.trod enc Tryz.prog W base sp held m 34 [c25, c26, c27] = some y6 from h6)
 unfold a6v at e6
 simp only [List.cons.injEq, and_true] at e6
 obtain ⟨rfl, rfl, rfl⟩ := e6
 rw [a3f] at h7
 obtain ⟨v7, e7, _, w7⟩ := DataW.trod_int Tryz.underlying3 (show DataW.trod enc Tryz.prog W base sp held m 3 [c28] = some y7 from h7)
 injection e7 with e7
 subst e7
 rw [a3f] at h8
 obtain ⟨v8, e8, _, w8⟩ := DataW.trod_int Tryz.underlying3 (show DataW.trod enc Tryz.prog W base sp held m 3 [c29] = some y8 from h8)
 injection e8 with e8
 subst e8
 have mx : ∀ n : Nat, n <= maxLen -> n <= 9223372036854775807 := fun n h => by unfold maxLen at h; omega
 exact ⟨⟨p0, v1, v2, ⟨n3, a3, b3⟩, ⟨n4, a4, b4⟩, ⟨n5, a5, b5⟩, ⟨n6, a6, b6⟩, v7, v8⟩, rfl, ⟨f0, ⟨⟨mx _ la3, mx _ lb3⟩, ⟨mx _ la4, mx _ lb4⟩, ⟨mx _ la5, mx _ lb5⟩, ⟨mx _ la6, mx _ lb6⟩⟩, w1, w7, w8⟩⟩
def Evt.fit (e : Evt) : Prop := e.p.fit /\ (Lit.int .i64 e.kind).wf = true /\ (Lit.int .i64 e.day).wf = true /\ (Lit.int .i64 e.cre).wf = true
theorem c9f : Tryz.prog.cellsOf 56 = 21 := by kernel_rfl
theorem dec_evt {n : Nat} {cs : List Value} {y : DataW H × List MemPlace} (h : DataW.trod enc Tryz.prog W base sp held n 56 cs = some y) : ∃ q : Evt, cs = q.enc /\ q.fit := by
 obtain ⟨xs, m, rfl, hx, hl, hxl, hf⟩ := DataW.trod_struct Tryz.underlying56 h
 rw [c9f] at hl
 obtain ⟨c0, c1, c2, c3, c4, c5, c6, c7, c8, c9, c10, c11, c12, c13, c14, c15, c16, c17, c18, c19, c20, rfl⟩ := list21_ hl
 obtain ⟨y0, y1, y2, y3, y4, y5, rfl⟩ := list6_ (show xs.length = 6 from hxl)
 have h0 := hf 0 _ rfl
 have h1 := hf 1 _ rfl
 have h2 := hf 2 _ rfl
 have h3 := hf 3 _ rfl
 have h4 := hf 4 _ rfl
 have h5 := hf 5 _ rfl
 simp only [List.getElem_toArray, List.getElem_cons_zero, List.getElem_cons_succ] at h0 h1 h2 h3 h4 h5
 rw [a3f] at h0
 obtain ⟨v0, e0, _, w0⟩ := DataW.trod_int Tryz.underlying3 (show DataW.trod enc Tryz.prog W base sp held m 3 [c0] = some y0 from h0)
 injection e0 with e0
 subst e0
 rw [a3f] at h1
 obtain ⟨v1, e1, _, w1⟩ := DataW.trod_int Tryz.underlying3 (show DataW.trod enc Tryz.prog W base sp held m 3 [c1] = some y1 from h1)
 injection e1 with e1
 subst e1
 rw [b1v] at h2
 obtain ⟨v2, e2, _, l2⟩ := DataW.trod_string Tryz.underlying9 (show DataW.trod enc Tryz.prog W base sp held m 9 [c2] = some y2 from h2)
 injection e2 with e2
 subst e2
 rw [a5r] at h3
 obtain ⟨n3, a3, b3, e3, la3, lb3⟩ := b0p (show DataW.trod enc Tryz.prog W base sp held m 34 [c3, c4, c5] = some y3 from h3)
 unfold a6v at e3
 simp only [List.cons.injEq, and_true] at e3
 obtain ⟨rfl, rfl, rfl⟩ := e3
 rw [a3f] at h4
 obtain ⟨v4, e4, _, w4⟩ := DataW.trod_int Tryz.underlying3 (show DataW.trod enc Tryz.prog W base sp held m 3 [c6] = some y4 from h4)
 injection e4 with e4
 subst e4
 rw [b6a] at h5
 obtain ⟨p5, e5, f5⟩ := c9b (show DataW.trod enc Tryz.prog W base sp held m 36 [c7, c8, c9, c10, c11, c12, c13, c14, c15, c16, c17, c18, c19, c20] = some y5 from h5)
 unfold Prf.enc at e5
 simp only [List.cons.injEq, and_true] at e5
 obtain ⟨rfl, rfl, rfl, rfl, rfl, rfl, rfl, rfl, rfl, rfl, rfl, rfl, rfl, rfl⟩ := e5
 exact ⟨⟨v0, v1, v2.data.toList, ⟨n3, a3, b3⟩, v4, p5⟩, rfl, ⟨f5, w0, w1, w4⟩⟩
theorem open_evt {r : Reach} {b0 : Nat} {v : Value} {d : DataW H} {p : List MemPlace} (hv : Value.okWide Tryz.prog W r b0 56 v) (h : DataW.Trod enc Tryz.prog W base sp held 56 v d p) : ∃ q : Evt, v = .agg q.enc.toArray /\ q.fit := by
 obtain ⟨cs, rfl, hsz⟩ := okWide_struct Tryz.underlying56 hv
 obtain ⟨fuel, hf0⟩ := h
 obtain ⟨q, he, hq⟩ := dec_evt hf0
 refine ⟨q, ?_, hq⟩
 congr 1
 exact Array.toList_inj.1 he
theorem c9e : Tryz.prog.cellsOf 24 = 4 := by kernel_rfl
theorem c6r : Tryz.prog.cellsOf 22 = 1 := by kernel_rfl
def ent0 : Ent := ⟨prf0, 0, false, zero3, zero3, zero3, zero3, 0, 0⟩
theorem open_rgs {r : Reach} {b0 : Nat} {v : Value} {d : DataW H} {p : List MemPlace} (hv : Value.okWide Tryz.prog W r b0 24 v) (h : DataW.Trod enc Tryz.prog W 0 (fun _ => true) held 24 v d p) :
  ∃ cut bar day s l, v = .agg #[.int .i64 cut, .int .i64 bar, .int .i64 day, s] /\ a5f W s l /\ (∀ e ∈ l, e.fit) /\ (Lit.int .i64 cut).wf = true /\ (Lit.int .i64 bar).wf = true /\ (Lit.int .i64 day).wf = true := by
 obtain ⟨cs, rfl, hsz⟩ := okWide_struct Tryz.underlying24 hv
 obtain ⟨fuel, hf0⟩ := h
 obtain ⟨xs, m, rfl, hx, hl, hxl, hf⟩ := DataW.trod_struct Tryz.underlying24 hf0
 rw [c9e] at hl
 obtain ⟨c0, c1, c2, c3, hcs⟩ := list4 hl
 have hcs0 := hcs
 have hcs : cs.toList = [c0, c1, c2, c3] := hcs
 obtain ⟨y0, y1, y2, y3, rfl⟩ := list4 (show xs.length = 4 from hxl)
 have h0 := hf 0 _ rfl
 have h1 := hf 1 _ rfl
 have h2 := hf 2 _ rfl
 have h3 := hf 3 _ rfl
 simp only [List.getElem_toArray, List.getElem_cons_zero, List.getElem_cons_succ] at h0 h1 h2 h3
 rw [a3f, hcs0] at h0 h1 h2
 rw [c6r, hcs0] at h3
 obtain ⟨v0, e0, _, w0⟩ := DataW.trod_int Tryz.underlying3 (show DataW.trod enc Tryz.prog W 0 (fun _ => true) held m 3 [c0] = some y0 from h0)
 obtain ⟨v1, e1, _, w1⟩ := DataW.trod_int Tryz.underlying3 (show DataW.trod enc Tryz.prog W 0 (fun _ => true) held m 3 [c1] = some y1 from h1)
 obtain ⟨v2, e2, _, w2⟩ := DataW.trod_int Tryz.underlying3 (show DataW.trod enc Tryz.prog W 0 (fun _ => true) held m 3 [c2] = some y2 from h2)
 obtain ⟨s, l, e3, hs, hg⟩ := open_slc ent0 Ent.fit Tryz.underlying22 (by decide) c1u a1n (fun n cs' y h => dec_ent h) (show DataW.trod enc Tryz.prog W 0 (fun _ => true) held m 22 [c3] = some y3 from h3)
 simp only [List.cons.injEq, and_true] at e0 e1 e2 e3
 subst e0
 subst e1
 subst e2
 subst e3
 refine ⟨v0, v1, v2, c3, l, ?_, hs, hg, w0, w1, w2⟩
 congr 1
 apply Array.toList_inj.1
 rw [hcs]
end
end Go.Proofs.YtlkhoommpkndpaaGreatDoor
