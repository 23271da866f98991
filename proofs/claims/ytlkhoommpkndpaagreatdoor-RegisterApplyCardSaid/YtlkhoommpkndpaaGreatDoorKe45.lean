/-
Part 45 of the base.
-/
import Derived.Test.YtlkhoommpkndpaaGreatDoorKe37
import Derived.Test.YtlkhoommpkndpaaGreatDoorKe44
namespace Go.Proofs.YtlkhoommpkndpaaGreatDoor
open Go.RowKit
theorem b6z {r : Rgs} {e : Evt} {qs : List Quo} {v qv : Value} (hr : r.good) (hl : r.es.length <= 1000) (he : e.mid) (hok : ∀ q ∈ qs, q.ok) (hq : ∀ q ∈ qs, q.low) (w : World) (hv : a6x w v r.es) (hqv : a3h w qv qs) :
  Calls Tryz.prog 24 #[.agg #[.int .i64 r.cut, .int .i64 r.bar, .int .i64 r.day, v], .agg #[.int .i64 e.kind, .int .i64 e.day, .string (bs e.id), .bool e.am.n, .string (bs e.am.a), .string (bs e.am.b), .int .i64 e.cre, .string (bs e.p.id), .int .i64 e.p.est, .int .i64 e.p.cre, .string (bs e.p.code), .bool e.p.an, .string (bs e.p.aa), .string (bs e.p.ab), .int .i64 e.p.inc, .int .i64 e.p.rank, .bool e.p.rn, .string (bs e.p.ra), .string (bs e.p.rb), .int .i64 e.p.rf, .int .i64 e.p.sec], qv] w fun q w' => ∃ v', q = .returned (.tuple #[.agg #[.int .i64 (a0q r e qs).1.cut, .int .i64 (a0q r e qs).1.bar, .int .i64 (a0q r e qs).1.day, v'], .int .i64 (a0q r e qs).2]) /\ Grows w' w.heap.size 63 30 v' (a0q r e qs).1.es.length (flat Ent.enc (a0q r e qs).1.es) /\ Below w.heap.size w w' :=
 c7d r.cut r.bar r.day v qv r.es e qs w hv hl (c2b hr.2) (by obtain ⟨h1, h2⟩ := he.1; exact ⟨by omega, by omega⟩) hqv hok hq ⟨he.2.1.1.1, he.2.1.1.2.1⟩ he.2.2
end Go.Proofs.YtlkhoommpkndpaaGreatDoor
