/-
Part 37 of the base.
-/
import Derived.Test.YtlkhoommpkndpaaGreatDoorKe36
namespace Go.Proofs.YtlkhoommpkndpaaGreatDoor
open Go.RowKit
def AppI (w0 : World) (R : List Own) (a b d : Value) (B : Nat) (n : Nat) (es : List Ent) (gp : World -> Prop) (vc : Value) (wv : World) : Prop :=
 ∃ g A c, vc = Value.pointer (some ⟨g, 0, none⟩) /\ Hid (St w0 (⟨g, #[a, b, d, .slice A n c], 24⟩ :: R) wv) /\ Hid (Grows wv B 63 30 (.slice A n c) n (flat Ent.enc es)) /\ Hid (gp wv)
theorem AppI.below {w0 : World} {R : List Own} {a b d : Value} {B n : Nat} {es : List Ent} {gp : World -> Prop} {vc : Value} {w1 w2 : World} (h : AppI w0 R a b d B n es gp vc w1) (hb : Below w1.heap.size w1 w2) (hg : ∀ w1 w2, gp w1 -> Below w1.heap.size w1 w2 -> gp w2) : AppI w0 R a b d B n es gp vc w2 := by
 obtain ⟨g, A, c, hx, h, h2, h3⟩ := h
 exact ⟨g, A, c, hx, zh (h.out.call hb), zh (Grows.below h2.out hb), zh (hg _ _ h3.out hb)⟩
theorem c2b {l : List Ent} (h : ∀ x ∈ l, x.mid) : ∀ x ∈ l, (x.fl.a.length <= 1000000 /\ x.fl.b.length <= 1000000) /\ (x.ad.a.length <= 1000000 /\ x.ad.b.length <= 1000000) /\ (x.ce.a.length <= 1000000 /\ x.ce.b.length <= 1000000) := fun x hx => by
 obtain ⟨_, ⟨h1, h2⟩, ⟨h3, h4⟩, h5, h6⟩ := h x hx
 exact ⟨⟨by omega, by omega⟩, ⟨by omega, by omega⟩, by omega, by omega⟩
theorem c8a {r : Rgs} {e : Evt} {qs : List Quo} {v qv : Value} (hr : r.good) (hl : r.es.length <= 1000) (he : e.mid) (hok : ∀ q ∈ qs, q.ok) (hq : ∀ q ∈ qs, q.low) (w : World) (hv : a6x w v r.es) (hqv : a3h w qv qs) :
  Calls Tryz.prog 23 #[.agg #[.int .i64 r.cut, .int .i64 r.bar, .int .i64 r.day, v], .agg #[.int .i64 e.kind, .int .i64 e.day, .string (bs e.id), .bool e.am.n, .string (bs e.am.a), .string (bs e.am.b), .int .i64 e.cre, .string (bs e.p.id), .int .i64 e.p.est, .int .i64 e.p.cre, .string (bs e.p.code), .bool e.p.an, .string (bs e.p.aa), .string (bs e.p.ab), .int .i64 e.p.inc, .int .i64 e.p.rank, .bool e.p.rn, .string (bs e.p.ra), .string (bs e.p.rb), .int .i64 e.p.rf, .int .i64 e.p.sec], qv] w fun q w' => ∃ v', q = .returned (.tuple #[.agg #[.int .i64 (a0q r e qs).1.cut, .int .i64 (a0q r e qs).1.bar, .int .i64 (a0q r e qs).1.day, v'], .int .i64 (a0q r e qs).2]) /\ Grows w' w.heap.size 63 30 v' (a0q r e qs).1.es.length (flat Ent.enc (a0q r e qs).1.es) /\ Below w.heap.size w w' :=
 a5m r.cut r.bar r.day v qv r.es e qs w hv hl (c2b hr.2) (by obtain ⟨h1, h2⟩ := he.1; exact ⟨by omega, by omega⟩) hqv hok hq ⟨he.2.1.1.1, he.2.1.1.2.1⟩ he.2.2 (d0f he.2.1.2.2.2.2.2.2)
end Go.Proofs.YtlkhoommpkndpaaGreatDoor
