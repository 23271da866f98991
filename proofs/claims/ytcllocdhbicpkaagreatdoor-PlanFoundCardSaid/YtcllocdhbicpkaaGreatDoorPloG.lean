/-
What the laws of the laws' own ventures share (printed by gen_pln15.py).
-/
import Derived.Test.YtcllocdhbicpkaaGreatDoorPloA
import Derived.Deep.DeepCutAuto
namespace Go.Proofs.YtcllocdhbicpkaaGreatDoor
open Go.RowKit

theorem law0_VentureS (x : Nat) (v : Value) (ts : List Qua) (w : World) (hx : x ≤ 65535) (h : Quas w v ts) (hok : ∀ t ∈ ts, t.ok) :
  Calls Tryz.prog 24 #[.int .u16 (x : Nat), v] w fun e w' => ∃ (A : Option Addr) (c : Nat), e = .returned (.agg #[.bool (negB (valueOf x)), .string (bs (numB (valueOf x))), .string (bs (denomB (valueOf x))), .slice A (blocsOf ts).length c]) ∧ BlocsL w' (.slice A (blocsOf ts).length c) (blocsOf ts) ∧ Below w.heap.size w w' :=
 (law0_Venture x v ts w hx h hok).mono fun _ _ ⟨A, c, he, hg, hb⟩ => ⟨A, c, he, hg.blocs rfl, hb⟩
theorem lt_sgnB {a b : Rat} : (sgn (a - b).num < 0) ↔ a < b := by
 have h : 0 ≤ sgn (a - b).num ↔ 0 ≤ a - b := sgn_nonneg_iff
 rw [← Int.not_le, h]
 constructor
 ·intro h; grind
 ·intro h; grind
theorem search_sized {x : Nat} {ts : List Qua} (hok : ∀ t ∈ ts, t.ok) (h : (searchR (valueOf x) (blocsOf ts)).2.1 = true) :
  (searchR (valueOf x) (blocsOf ts)).1.length = (blocsOf ts).length ∧ ∀ r ∈ (searchR (valueOf x) (blocsOf ts)).1, Sized 1000 r := by
 obtain ⟨_, he, _⟩ := searchR_ok h
 obtain ⟨h1, h2⟩ := blocsOf_small hok
 rw [he]
 exact ⟨ratesOf_len _ _, fun r hr => (rates_sized _ _ (valueOf_sized x) h1 (by decide) r hr).mono (by omega)⟩
theorem rates_len_sized (ws : List Nat) (n : Nat) : (ratesW ws n).length = n ∧ ∀ r ∈ ratesW ws n, Sized 1000 r :=
 ⟨ratesW_len ws n, fun r hr => by
  unfold ratesW at hr
  obtain ⟨i, _, rfl⟩ := List.mem_map.1 hr
  exact (rateW_sized ws i).mono (by decide)⟩
end Go.Proofs.YtcllocdhbicpkaaGreatDoor
