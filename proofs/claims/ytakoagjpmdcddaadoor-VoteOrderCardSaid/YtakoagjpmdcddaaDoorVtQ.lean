/-
Equality of tallies (cut out of XVtE by gen_vl2.py; never import both).
-/
import Derived.Test.YtakoagjpmdcddaaDoorVlA
namespace Go.Proofs.YtakoagjpmdcddaaDoor
open Go.RowKit
set_option maxRecDepth 100000 in
theorem tly_row : (45 : TypeId) < Tryd.prog.types.size := of_decide_eq_true (by kernel_rfl)
set_option maxRecDepth 100000 in
theorem tly_wide : (match Tryd.prog.underlying 45 with | some (.array _ _) | some (.struct _) => true | _ => false) = true := by kernel_rfl
set_option maxRecDepth 100000 in
theorem tly_deep : Tryd.prog.keyTypeAt 4 45 = true := by kernel_rfl
set_option maxRecDepth 100000 in
theorem tly_key (n1 n2 : Bool) (a1 b1 a2 b2 : List UInt8) (x y : Int) (h1 : a1.length ≤ 1099511627776) (h2 : b1.length ≤ 1099511627776) (h3 : a2.length ≤ 1099511627776) (h4 : b2.length ≤ 1099511627776) (hx : 0 ≤ x ∧ x ≤ 1000000) (hy : 0 ≤ y ∧ y ≤ 1000000) :
    ∃ k, keyOf Tryd.prog 45 (.agg #[.bool n1, .string (bs a1), .string (bs b1), .bool n2, .string (bs a2), .string (bs b2), .int .i64 x, .int .i64 y]) = some k := by
  have hu := Tryd.underlying45
  have hr := Tryd.underlying28
  obtain ⟨n, hs⟩ : ∃ n, Tryd.prog.types.size = n + 1 + 1 + 1 := ⟨Tryd.prog.types.size - 3, by have h : 3 ≤ Tryd.prog.types.size := of_decide_eq_true (by kernel_rfl); omega⟩
  have hkt : Tryd.prog.keyType 45 = true := by kernel_rfl
  have c8 : Tryd.prog.cellsOf 45 = 8 := by kernel_rfl
  have c2 : Tryd.prog.cellsOf 28 = 3 := by kernel_rfl
  have c9 : Tryd.prog.cellsOf 9 = 1 := by kernel_rfl
  have c4 : Tryd.prog.cellsOf 4 = 1 := by kernel_rfl
  have c3 : Tryd.prog.cellsOf 3 = 1 := by kernel_rfl
  have u9 := Tryd.underlying9
  have u4 := Tryd.underlying4
  have u3 := Tryd.underlying3
  have s1 : (bs a1).size ≤ maxLen := by rw [bs_size]; unfold maxLen; omega
  have s2 : (bs b1).size ≤ maxLen := by rw [bs_size]; unfold maxLen; omega
  have s3 : (bs a2).size ≤ maxLen := by rw [bs_size]; unfold maxLen; omega
  have s4 : (bs b2).size ≤ maxLen := by rw [bs_size]; unfold maxLen; omega
  have wx : (Lit.int .i64 x).wf = true := WalkArith.wf_i64 (by omega)
  have wy : (Lit.int .i64 y).wf = true := WalkArith.wf_i64 (by omega)
  unfold keyOf
  rw [hu]
  have hf : (Value.agg #[Value.bool n1, Value.string (bs a1), Value.string (bs b1), Value.bool n2, Value.string (bs a2), Value.string (bs b2), Value.int .i64 x, Value.int .i64 y]).formed Tryd.prog 45 = true := by
    simp [Value.formed, hu, c8]
  rw [hkt, hf, hs]
  have kr : ∀ (k : Nat) (ng : Bool) (a b : List UInt8), (bs a).size ≤ maxLen → (bs b).size ≤ maxLen → Tryd.prog.keyLits (k + 1 + 1) 28 [.bool ng, .string (bs a), .string (bs b)] = some [.bool ng, .string a, .string b] := by
    intro k ng a b ha hb
    simp [Program.keyLits, hr, c2, c9, c4, u9, u4, ha, hb, bs_list]
  have ki : ∀ (k : Nat) (z : Int), (Lit.int .i64 z).wf = true → Tryd.prog.keyLits (k + 1) 3 [.int .i64 z] = some [.int .i64 z] := by
    intro k z hz
    simp [Program.keyLits, u3, hz]
  have hl : Tryd.prog.keyLits (n + 1 + 1 + 1 + 1) 45 [.bool n1, .string (bs a1), .string (bs b1), .bool n2, .string (bs a2), .string (bs b2), .int .i64 x, .int .i64 y] = some [.bool n1, .string a1, .string b1, .bool n2, .string a2, .string b2, .int .i64 x, .int .i64 y] := by
    have k1 : Tryd.prog.keyLits (n + 3) 28 [.bool n1, .string (bs a1), .string (bs b1)] = some [.bool n1, .string a1, .string b1] := kr (n + 1) n1 a1 b1 s1 s2
    have k2 : Tryd.prog.keyLits (n + 3) 28 [.bool n2, .string (bs a2), .string (bs b2)] = some [.bool n2, .string a2, .string b2] := kr (n + 1) n2 a2 b2 s3 s4
    have k3 : Tryd.prog.keyLits (n + 3) 3 [.int .i64 x] = some [.int .i64 x] := ki (n + 2) x wx
    have k4 : Tryd.prog.keyLits (n + 3) 3 [.int .i64 y] = some [.int .i64 y] := ki (n + 2) y wy
    unfold Program.keyLits
    rw [hu]
    simp [c8, c2, c3, k1, k2, k3, k4]
  simp [Value.cells, hl]
set_option maxRecDepth 100000 in
theorem tly_eql (n1 n2 : Bool) (a1 b1 a2 b2 : List UInt8) (x y : Int) (h1 : a1.length ≤ 1099511627776) (h2 : b1.length ≤ 1099511627776) (h3 : a2.length ≤ 1099511627776) (h4 : b2.length ≤ 1099511627776) (hx : 0 ≤ x ∧ x ≤ 1000000) (hy : 0 ≤ y ∧ y ≤ 1000000) (w : World) :
    (binOp .eql 45 (.agg #[.bool n1, .string (bs a1), .string (bs b1), .bool n2, .string (bs a2), .string (bs b2), .int .i64 x, .int .i64 y]) (.agg #[.bool n1, .string (bs a1), .string (bs b1), .bool n2, .string (bs a2), .string (bs b2), .int .i64 x, .int .i64 y])).run Tryd.prog w = .ok (.bool true) w := by
  obtain ⟨k, hk⟩ := tly_key n1 n2 a1 b1 a2 b2 x y h1 h2 h3 h4 hx hy
  obtain ⟨r, hr, hiff⟩ := run_equal_deep w (m := 4) (by omega) tly_deep tly_wide hk hk
  have hry : r = true := hiff.2 rfl
  subst hry
  simp only [binOp]
  simp [hr, Result.andThen]
theorem tly_same {t : Tly} (h : Sized 10000000 t.amount ∧ Sized 10000000 t.yes ∧ t.heads ≤ 1000000 ∧ t.yesHeads ≤ 1000000) (w : World) : (binOp .eql 45 (tly t) (tly t)).run Tryd.prog w = .ok (.bool true) w :=
  tly_eql _ _ _ _ _ _ _ _ (Nat.le_trans h.1.num (by omega)) (Nat.le_trans h.1.denom (by omega)) (Nat.le_trans h.2.1.num (by omega)) (Nat.le_trans h.2.1.denom (by omega)) ⟨by omega, by have := h.2.2.1; omega⟩ ⟨by omega, by have := h.2.2.2; omega⟩ w
end Go.Proofs.YtakoagjpmdcddaaDoor
