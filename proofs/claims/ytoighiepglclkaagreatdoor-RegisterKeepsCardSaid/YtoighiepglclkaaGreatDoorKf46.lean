/-
Part 46 of the base.
-/
import Derived.Test.YtoighiepglclkaaGreatDoorKf37
import Derived.Test.YtoighiepglclkaaGreatDoorKf45
namespace Go.Proofs.YtoighiepglclkaaGreatDoor
open Go.RowKit
theorem b7g {r : Rgs} {e : Evt} {qs : List Quo} {v qv : Value} (hr : r.good) (hl : r.es.length <= 1000) (he : e.mid) (hok : ∀ q ∈ qs, q.ok) (hq : ∀ q ∈ qs, q.low) (w : World) (hv : a5d w v r.es) (hqv : a3f w qv qs) :
  Calls Tryz.prog 9 #[.agg #[.int .i64 r.cut, .int .i64 r.bar, .int .i64 r.day, v], .agg #[.int .i64 e.kind, .int .i64 e.day, .string (bs e.id), .bool e.am.n, .string (bs e.am.a), .string (bs e.am.b), .int .i64 e.cre, .string (bs e.p.id), .int .i64 e.p.est, .int .i64 e.p.cre, .string (bs e.p.code), .bool e.p.an, .string (bs e.p.aa), .string (bs e.p.ab), .int .i64 e.p.inc, .int .i64 e.p.rank, .bool e.p.rn, .string (bs e.p.ra), .string (bs e.p.rb), .int .i64 e.p.rf, .int .i64 e.p.sec], qv] w fun q w' => ∃ v', q = .returned (.tuple #[.agg #[.int .i64 (a0q r e qs).1.cut, .int .i64 (a0q r e qs).1.bar, .int .i64 (a0q r e qs).1.day, v'], .int .i64 (a0q r e qs).2]) /\ Grows w' w.heap.size 57 30 v' (a0q r e qs).1.es.length (flat Ent.enc (a0q r e qs).1.es) /\ Below w.heap.size w w' :=
 c7n r.cut r.bar r.day v qv r.es e qs w hv hl (c2m hr.2) (by obtain ⟨h1, h2⟩ := he.1; exact ⟨by omega, by omega⟩) hqv hok hq ⟨he.2.1.1.1, he.2.1.1.2.1⟩ he.2.2
theorem b5w (cut bar day : Int) (v : Value) (l : List Ent) (w : World) (h : a5d w v l) (hn : l.length <= 1000) :
  Calls Tryz.prog 6 #[.agg #[.int .i64 cut, .int .i64 bar, .int .i64 day, v]] w fun e w' => ∃ A c, e = .returned (.agg #[.int .i64 cut, .int .i64 bar, .int .i64 day, .slice A l.length c]) /\ Grows w' w.heap.size 57 30 (.slice A l.length c) l.length (flat Ent.enc l) /\ Below w.heap.size w w' := by
 by_cases h0 : 0 < l.length
 ·refine (a8g cut bar day v l w h hn h0).mono ?_
  rintro e w2 ⟨g, cap, rs, rfl, hg, hB, h1, h2, h3, hb⟩
  exact ⟨_, _, rfl, a5f a1g hB hg h1 h2 h3, hb⟩
 obtain rfl : l = [] := List.length_eq_zero_iff.1 (by omega)
 refine (a9g cut bar day v w h).mono ?_
 rintro e w2 ⟨rfl, hb⟩
 exact ⟨_, _, rfl, ⟨rfl, .inl ⟨rfl, rfl⟩⟩, hb⟩
end Go.Proofs.YtoighiepglclkaaGreatDoor
