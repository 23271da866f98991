/-
Votes: sizes, the laws' tests of shortness, their example, the padded list; plain Lean.
-/
import Derived.Test.YtakoagjpmdcddaaDoorVotC
namespace Go.Proofs.YtakoagjpmdcddaaDoor
open Go.RowKit

def SmallV (N : Nat) (l : List Vtr) : Prop := ∀ v ∈ l, v.small N
theorem SmallV.amount {N : Nat} {l : List Vtr} (h : SmallV N l) (h1 : 1 ≤ N) {v : Vtr} (hv : v ∈ l) : Sized N v.amount := sized_dec (h v hv).1 (h v hv).2.1 h1
theorem SmallV.ask {N : Nat} {l : List Vtr} (h : SmallV N l) (h1 : 1 ≤ N) {v : Vtr} (hv : v ∈ l) : Sized N v.ask := sized_dec (h v hv).2.2.1 (h v hv).2.2.2 h1
theorem SmallV.mono {M N : Nat} {l : List Vtr} (h : SmallV M l) (hN : M ≤ N) : SmallV N l := fun v hv => by
  obtain ⟨h1, h2, h3, h4⟩ := h v hv
  exact ⟨Nat.le_trans h1 hN, Nat.le_trans h2 hN, Nat.le_trans h3 hN, Nat.le_trans h4 hN⟩
theorem SmallV.take {N : Nat} {l : List Vtr} (h : SmallV N l) (k : Nat) : SmallV N (l.take k) := fun v hv => h v (List.mem_of_mem_take hv)
theorem amountV_sized {N : Nat} (h1 : 1 ≤ N) : ∀ {l : List Vtr}, SmallV N l → Sized (l.length * (N + 1) + 1) (amountV l) := by
  intro l
  induction l using rev_ind with
  | h0 => intro _; exact Sized.mono (q := 0) sized_zero (Nat.le_add_left 1 _)
  | h1 l v ih =>
    intro h
    have hl : SmallV N l := fun u hu => h u (by simp [hu])
    rw [amountV_snoc, List.length_append, List.length_singleton, Nat.add_mul, Nat.one_mul]
    split
    · exact (ih hl).mono (by omega)
    · exact ((ih hl).add (h.amount h1 (v := v) (by simp))).mono (by omega)
theorem forOf_sized {N : Nat} (h1 : 1 ≤ N) (f : Int → Bool) : ∀ {l : List Vtr}, SmallV N l → Sized (l.length * (N + 1) + 1) (forOf f l) := by
  intro l
  induction l using rev_ind with
  | h0 => intro _; exact Sized.mono (q := 0) sized_zero (Nat.le_add_left 1 _)
  | h1 l v ih =>
    intro h
    have hl : SmallV N l := fun u hu => h u (by simp [hu])
    rw [forOf_snoc, List.length_append, List.length_singleton, Nat.add_mul, Nat.one_mul]
    split
    · exact (ih hl).mono (by omega)
    · split
      · exact ((ih hl).add (h.amount h1 (v := v) (by simp))).mono (by omega)
      · exact (ih hl).mono (by omega)
theorem parts_len : ∀ (l : List Vtr) (acc : List Int), (parts l acc).length ≤ acc.length + l.length
  | [], acc => Nat.le_refl _
  | v :: l, acc => by
    rw [parts]
    refine Nat.le_trans (parts_len l _) ?_
    split <;> simp <;> omega
theorem filter_len {f : Int → Bool} (m : List Int) : (m.filter f).length ≤ m.length := List.length_filter_le _ _

/-- The tests of shortness. -/
def fewVt (v : Vtr) : Bool := fewR v.aa v.ab && fewR v.ka v.kb
def fewV (l : List Vtr) : Bool := decide (l.length ≤ 10) && l.all fewVt
theorem fewV_in {l : List Vtr} (h : fewV l = true) : l.length ≤ 10 ∧ SmallV 24 l := by
  unfold fewV at h
  rw [Bool.and_eq_true, decide_eq_true_eq] at h
  refine ⟨h.1, fun v hv => ?_⟩
  have := List.all_eq_true.1 h.2 v hv
  unfold fewVt fewR at this
  simp only [Bool.and_eq_true, decide_eq_true_eq] at this
  exact ⟨this.1.1, this.1.2, this.2.1, this.2.2⟩

/-- The chapter's example. -/
def awakeV : List Vtr := [⟨0, false, [60], [], false, [1], [2], false⟩, ⟨1, false, [20], [], false, [1], [4], false⟩, ⟨2, false, [20], [], false, [3], [4], false⟩]
theorem awakeV_small : SmallV 24 awakeV := by
  intro v hv
  unfold awakeV at hv
  simp only [List.mem_cons, List.mem_nil_iff, or_false] at hv
  rcases hv with rfl | rfl | rfl <;> exact ⟨by decide, by decide, by decide, by decide⟩
theorem awakeV_check : checkV awakeV = 0 := by decide +kernel
theorem awakeV_thr : thrV awakeV = (mkRat 1 2, true) := by decide +kernel

/-- A list made longer by its first voter. -/
def padV (l : List Vtr) (m : Nat) : List Vtr := l ++ List.replicate m (l.headD ⟨0, false, [], [], false, [], [], false⟩)
theorem padV_small {N : Nat} {l : List Vtr} (h : SmallV N l) (h0 : 0 < l.length) (m : Nat) : SmallV N (padV l m) := by
  intro v hv
  unfold padV at hv
  rcases List.mem_append.1 hv with hv | hv
  · exact h v hv
  · rw [(List.mem_replicate.1 hv).2]
    cases l with
    | nil => simp at h0
    | cons a l => exact h _ (by simp)
theorem padV_head {l : List Vtr} {v : Vtr} (h : l[0]? = some v) (m : Nat) : (padV l m)[0]? = some v := by
  unfold padV
  rw [List.getElem?_append_left (by cases l <;> simp at h ⊢), h]
theorem padV_snoc {l : List Vtr} {v : Vtr} (h : l[0]? = some v) (m : Nat) : padV l (m + 1) = padV l m ++ [v] := by
  unfold padV
  rw [List.replicate_succ', ← List.append_assoc]
  congr 2
  cases l with
  | nil => simp at h
  | cons a l => simpa using h
theorem padV_len (l : List Vtr) (m : Nat) : (padV l m).length = l.length + m := by unfold padV; simp
theorem padV_zero (l : List Vtr) : padV l 0 = l := by unfold padV; simp

/-- The rotated list. -/
theorem turn_take (l : List Vtr) (k : Nat) (r : Rat) : tallyV (l.drop k ++ l.take k) r = tallyV l r := by
  rw [tally_turn, List.take_append_drop]
theorem turn_check {l : List Vtr} (hl : l.length ≤ 64) (h : ∀ v ∈ l, 0 ≤ v.party ∧ 0 ≤ v.amount ∧ 0 ≤ v.ask) (k : Nat) : checkV (l.drop k ++ l.take k) = 0 := by
  refine checkV_good (by rw [List.length_append, List.length_drop, List.length_take]; omega) fun v hv => ?_
  rcases List.mem_append.1 hv with hv | hv
  · exact h v (List.mem_of_mem_drop hv)
  · exact h v (List.mem_of_mem_take hv)
end Go.Proofs.YtakoagjpmdcddaaDoor
