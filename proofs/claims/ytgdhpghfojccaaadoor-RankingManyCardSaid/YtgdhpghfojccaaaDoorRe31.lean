/-
Part 31 of the base.
-/
import Derived.Test.YtgdhpghfojccaaaDoorRe27
import Derived.Deep.AppendLies
namespace Go.Proofs.YtgdhpghfojccaaaDoor
open Go.RowKit
theorem Rel.skip {cl : List Nmd} {l : List Cls} {k a b : Nat} {c : Cls} (hc : l[k]? = some c) (hk : c.kind ≠ 2) : Rel cl l (k + 1) a b ↔ Rel cl l k a b := by
 constructor
 ·rintro ⟨j, d, hj, hd, hd2, h⟩
  by_cases hjk : j = k
  ·subst hjk
   rw [hc] at hd
   obtain rfl := Option.some.inj hd
   exact absurd hd2 hk
  exact ⟨j, d, by omega, hd, hd2, h⟩
 rintro ⟨j, d, hj, h⟩
 exact ⟨j, d, by omega, h⟩
theorem Rel.step {cl : List Nmd} {l : List Cls} {k a b : Nat} {c : Cls} (hc : l[k]? = some c) (hk : c.kind = 2) : Rel cl l (k + 1) a b ↔ Rel cl l k a b \/ (Den cl l c.name a /\ Den cl l c.other b) := by
 constructor
 ·rintro ⟨j, d, hj, hd, hd2, h⟩
  by_cases hjk : j = k
  ·subst hjk
   rw [hc] at hd
   obtain rfl := Option.some.inj hd
   exact .inr h
  exact .inl ⟨j, d, by omega, hd, hd2, h⟩
 rintro (⟨j, d, hj, h⟩ | h)
 ·exact ⟨j, d, by omega, h⟩
 exact ⟨k, c, Nat.lt_succ_self _, hc, hk, h⟩
end Go.Proofs.YtgdhpghfojccaaaDoor
