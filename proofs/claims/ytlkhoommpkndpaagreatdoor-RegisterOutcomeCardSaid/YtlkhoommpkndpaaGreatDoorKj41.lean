/-
Part 41 of the base.
-/
import Derived.Test.YtlkhoommpkndpaaGreatDoorKj40
import Derived.Test.YtlkhoommpkndpaaGreatDoorKj27
set_option maxRecDepth 100000
set_option maxHeartbeats 1000000
namespace Go.Proofs.YtlkhoommpkndpaaGreatDoor
open Go.ChangeShapes Go.WideShapes Go.ChangeAt Go.ChangeMaps Go.RowKit
theorem list6_ {α : Type} {l : List α} (h : l.length = 6) : ∃ a0 a1 a2 a3 a4 a5, l = [a0, a1, a2, a3, a4, a5] := by
 match l, h with
 | [a0, a1, a2, a3, a4, a5], _ => exact ⟨a0, a1, a2, a3, a4, a5, rfl⟩
theorem b7e {P : Program} {W : World} {r : Reach} {b0 : Nat} {t e : TypeId} {n : Nat} {v : Value} (ht : P.underlying t = some (.array n e)) (h : Value.okWide P W r b0 t v) : ∃ cs, v = .agg cs /\ cs.size = P.cellsOf t := by
 simp only [Value.okWide, ht] at h
 obtain ⟨cs, h1, h2, _⟩ := h
 exact ⟨cs, h1, h2⟩
section
variable {H : Type} {enc : TypeId × Value -> H} {W : World} {base : Nat} {sp : Nat -> Bool} {held : Bool}
theorem c4g : Tryz.prog.cellsOf 47 = 6 := by kernel_rfl
theorem dec_six {n : Nat} {cs : List Value} {y : DataW H × List MemPlace} (h : DataW.trod enc Tryz.prog W base sp held n 47 cs = some y) : ∃ q : Six, cs = q.enc /\ q.ok := by
 obtain ⟨xs, m, rfl, hx, hl, hxl, hf⟩ := DataW.trod_array Tryz.underlying47 h
 rw [c4g] at hl
 obtain ⟨c0, c1, c2, c3, c4, c5, rfl⟩ := list6_ hl
 obtain ⟨y0, y1, y2, y3, y4, y5, rfl⟩ := list6_ (show xs.length = 6 from hxl)
 have h0 := hf 0 (by decide)
 have h1 := hf 1 (by decide)
 have h2 := hf 2 (by decide)
 have h3 := hf 3 (by decide)
 have h4 := hf 4 (by decide)
 have h5 := hf 5 (by decide)
 rw [a6e] at h0
 obtain ⟨v0, e0, _, w0⟩ := DataW.trod_int Tryz.underlying46 (show DataW.trod enc Tryz.prog W base sp held m 46 [c0] = some y0 from h0)
 injection e0 with e0
 subst e0
 rw [a6e] at h1
 obtain ⟨v1, e1, _, w1⟩ := DataW.trod_int Tryz.underlying46 (show DataW.trod enc Tryz.prog W base sp held m 46 [c1] = some y1 from h1)
 injection e1 with e1
 subst e1
 rw [a6e] at h2
 obtain ⟨v2, e2, _, w2⟩ := DataW.trod_int Tryz.underlying46 (show DataW.trod enc Tryz.prog W base sp held m 46 [c2] = some y2 from h2)
 injection e2 with e2
 subst e2
 rw [a6e] at h3
 obtain ⟨v3, e3, _, w3⟩ := DataW.trod_int Tryz.underlying46 (show DataW.trod enc Tryz.prog W base sp held m 46 [c3] = some y3 from h3)
 injection e3 with e3
 subst e3
 rw [a6e] at h4
 obtain ⟨v4, e4, _, w4⟩ := DataW.trod_int Tryz.underlying46 (show DataW.trod enc Tryz.prog W base sp held m 46 [c4] = some y4 from h4)
 injection e4 with e4
 subst e4
 rw [a6e] at h5
 obtain ⟨v5, e5, _, w5⟩ := DataW.trod_int Tryz.underlying46 (show DataW.trod enc Tryz.prog W base sp held m 46 [c5] = some y5 from h5)
 injection e5 with e5
 subst e5
 obtain ⟨r0, s0⟩ := a5z w0
 obtain ⟨r1, s1⟩ := a5z w1
 obtain ⟨r2, s2⟩ := a5z w2
 obtain ⟨r3, s3⟩ := a5z w3
 obtain ⟨r4, s4⟩ := a5z w4
 obtain ⟨r5, s5⟩ := a5z w5
 refine ⟨⟨v0.toNat, v1.toNat, v2.toNat, v3.toNat, v4.toNat, v5.toNat⟩, ?_, ?_⟩
 ·unfold Six.enc
  dsimp only
  rw [Int.toNat_of_nonneg r0, Int.toNat_of_nonneg r1, Int.toNat_of_nonneg r2, Int.toNat_of_nonneg r3, Int.toNat_of_nonneg r4, Int.toNat_of_nonneg r5]
 unfold Six.ok
 dsimp only
 omega
def Evt.fit (e : Evt) : Prop := e.p.fit /\ (Lit.int .i64 e.kind).wf = true /\ (Lit.int .i64 e.day).wf = true /\ (Lit.int .i64 e.cre).wf = true
theorem open_six {r : Reach} {b0 : Nat} {v : Value} {d : DataW H} {p : List MemPlace} (hv : Value.okWide Tryz.prog W r b0 47 v) (h : DataW.Trod enc Tryz.prog W base sp held 47 v d p) : ∃ q : Six, v = .agg q.enc.toArray /\ q.ok := by
 obtain ⟨cs, rfl, hsz⟩ := b7e Tryz.underlying47 hv
 obtain ⟨fuel, hf0⟩ := h
 obtain ⟨q, he, hq⟩ := dec_six hf0
 refine ⟨q, ?_, hq⟩
 congr 1
 exact Array.toList_inj.1 he
end
end Go.Proofs.YtlkhoommpkndpaaGreatDoor
