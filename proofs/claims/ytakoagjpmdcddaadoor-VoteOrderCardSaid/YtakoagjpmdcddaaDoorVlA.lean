/-
What the laws of votes share (printed by gen_vl.py).
-/
import Derived.Test.YtakoagjpmdcddaaDoorVotJ
namespace Go.Proofs.YtakoagjpmdcddaaDoor
open Go.RowKit

theorem W64_of {p : Int} (h : -9223372036854775808 ≤ p ∧ p ≤ 9223372036854775807) : W64 p := by
  exact WalkArith.wf_i64 (by omega)
def VtrDay (v : Vtr) : Prop := -9223372036854775808 ≤ v.party ∧ v.party ≤ 9223372036854775807
theorem Grows.base {w : World} {B B' : Nat} {e : TypeId} {k : Nat} {v : Value} {n : Nat} {xs : List Value} (h : Grows w B e k v n xs) (hB : B' ≤ B) : Grows w B' e k v n xs := by
  refine ⟨h.1, ?_⟩
  rcases h.2 with h2 | ⟨g, cap, cur, h3, h4, h5⟩
  · exact .inl h2
  · exact .inr ⟨g, cap, cur, h3, Nat.le_trans hB h4, h5⟩
theorem Grows.voters {w : World} {B n : Nat} {v : Value} {l : List Vtr} (h : Grows w B 30 8 v n (flat Vtr.enc l)) (hn : l.length = n) : VotersL w v l := Slc.of_own vtr_len h hn
theorem law30_Voters (v : Value) (ts : List Qua) (w : World) (h : Quas w v ts) (hok : ∀ t ∈ ts, t.ok) :
    Calls Tryd.prog 9 #[v] w fun e w' => ∃ v', e = .returned v' ∧ VotersL w' v' (votersOf ts) ∧ Below w.heap.size w w' :=
  (law0_Voters v ts w h hok).mono fun _ _ ⟨v', he, hg, hb⟩ => ⟨v', he, hg.voters rfl, hb⟩
theorem rateI_sized {n : Int} {d : Nat} (hd : d ≠ 0) (h1 : n.natAbs < 18446744073709551616) (h2 : d < 18446744073709551616) : Sized 8 (mkRat n d) := by
  have hp : (256 : Nat) ^ 8 = 18446744073709551616 := by decide
  exact sized_mkRat hd (bytesOf_length _ _ (by omega)) (bytesOf_length _ _ (by omega))
theorem mkRat_nonneg' {n : Int} {d : Nat} (hn : 0 ≤ n) (hd : d ≠ 0) : 0 ≤ mkRat n d := by
  rw [← Rat.num_nonneg, ← Rat.normalize_eq_mkRat hd, Rat.num_normalize]
  exact Int.ediv_nonneg hn (by omega)
theorem mkRat_le_one {n : Int} {d : Nat} (hd : d ≠ 0) (h : n ≤ d) : mkRat n d ≤ 1 := by
  have h0 : 0 ≤ mkRat ((d : Int) - n) d := mkRat_nonneg' (by omega) hd
  have h1 : mkRat n d + mkRat ((d : Int) - n) d = 1 := by
    have hd' : ((d : Int) : Rat) ≠ 0 := by exact_mod_cast hd
    have hdc : ((d : Nat) : Rat) = ((d : Int) : Rat) := (Rat.intCast_natCast d).symm
    rw [Rat.mkRat_eq_div, Rat.mkRat_eq_div, Rat.intCast_sub, hdc]
    generalize ((d : Int) : Rat) = D at *
    generalize (n : Rat) = N at *
    clear h0 hdc
    grind
  grind
end Go.Proofs.YtakoagjpmdcddaaDoor
