/-
Votes: checked, counted, carried; plain Lean.
-/
import Derived.Test.YtakoagjpmdcddaaDoorVH
namespace Go.Proofs.YtakoagjpmdcddaaDoor
open Go.RowKit

/-- A voter. -/
structure Vtr where
  party : Int
  an : Bool
  aa : List UInt8
  ab : List UInt8
  kn : Bool
  ka : List UInt8
  kb : List UInt8
  ex : Bool
def Vtr.enc (v : Vtr) : List Value := [.int .i64 v.party, .bool v.an, .string (bs v.aa), .string (bs v.ab), .bool v.kn, .string (bs v.ka), .string (bs v.kb), .bool v.ex]
def Vtr.amount (v : Vtr) : Rat := decR v.an v.aa v.ab
def Vtr.ask (v : Vtr) : Rat := decR v.kn v.ka v.kb
abbrev VotersL (w : World) (v : Value) (l : List Vtr) : Prop := Slc Vtr.enc 8 w v l
theorem vtr_len (v : Vtr) : v.enc.length = 8 := rfl

def vErr (v : Vtr) : Int := if v.party < 0 then 14 else if sgn v.amount.num < 0 ∨ sgn v.ask.num < 0 then 7 else 0
def checkVTo : List Vtr → Int
  | [] => 0
  | v :: l => if vErr v = 0 then checkVTo l else vErr v
def checkV (l : List Vtr) : Int := if 64 < l.length then 2 else checkVTo l
theorem checkVTo_drop {l : List Vtr} {k : Nat} {v : Vtr} (hv : l[k]? = some v) : checkVTo (l.drop k) = if vErr v = 0 then checkVTo (l.drop (k + 1)) else vErr v := by rw [drop_at hv]; rfl
theorem checkV_long {l : List Vtr} (h : 64 < l.length) : checkV l = 2 := by unfold checkV; rw [if_pos h]
theorem checkV_short {l : List Vtr} (h : l.length ≤ 64) : checkV l = checkVTo l := by unfold checkV; rw [if_neg (by omega)]
theorem checkV_zero {l : List Vtr} (h : checkV l = 0) : l.length ≤ 64 ∧ ∀ v ∈ l, 0 ≤ v.party ∧ 0 ≤ v.amount ∧ 0 ≤ v.ask := by
  unfold checkV at h
  split at h
  · cases h
  · refine ⟨by omega, ?_⟩
    have : ∀ l : List Vtr, checkVTo l = 0 → ∀ v ∈ l, 0 ≤ v.party ∧ 0 ≤ v.amount ∧ 0 ≤ v.ask := by
      intro l
      induction l with
      | nil => intro _ v hv; cases hv
      | cons a l ih =>
        intro h v hv
        rw [checkVTo] at h
        by_cases he : vErr a = 0
        · rw [if_pos he] at h
          rcases List.mem_cons.1 hv with rfl | hv
          · unfold vErr at he
            split at he
            · cases he
            · split at he
              · cases he
              · rename_i h1 h2
                exact ⟨by omega, sgn_rat (by omega), sgn_rat (by omega)⟩
          · exact ih h v hv
        · rw [if_neg he] at h; exact absurd h he
    exact this l h

/-- Does a voter block its party's consent? -/
def blocks (party : Int) (rate : Rat) (v : Vtr) : Bool := v.party == party && (!v.ex && decide (0 < sgn (v.ask - rate).num))
def yesP (l : List Vtr) (party : Int) (rate : Rat) : Bool := l.all fun v => !blocks party rate v
/-- The parties that vote, in the order of their first votes. -/
def parts : List Vtr → List Int → List Int
  | [], acc => acc
  | v :: l, acc => parts l (if v.ex || acc.contains v.party then acc else acc ++ [v.party])
def amountV (l : List Vtr) : Rat := l.foldl (fun s v => if v.ex then s else s + v.amount) 0
def forOf (yes : Int → Bool) (l : List Vtr) : Rat := l.foldl (fun s v => if v.ex then s else if yes v.party then s + v.amount else s) 0
structure Tly where
  amount : Rat
  yes : Rat
  heads : Nat
  yesHeads : Nat
def tallyV (l : List Vtr) (rate : Rat) : Tly := ⟨amountV l, forOf (fun p => yesP l p rate) l, (parts l []).length, ((parts l []).filter fun p => yesP l p rate).length⟩
def passedV (t : Tly) : Bool := decide (0 ≤ sgn (3 * t.yes - 2 * t.amount).num) && decide (t.heads < 2 * t.yesHeads)

theorem sgn_pos_iff {q : Rat} : 0 < sgn q.num ↔ 0 < q := by
  have h : 0 < q ↔ 0 < q.num := by
    rw [← Rat.not_le, ← Int.not_le]
    have h1 : q ≤ 0 ↔ q.num ≤ 0 := by
      have := @Rat.num_nonneg (-q)
      rw [Rat.neg_num] at this
      constructor
      · intro h; have := this.2 (by grind); omega
      · intro h; have := this.1 (by omega); grind
    rw [h1]
  rw [h]
  rcases sgn_cases q.num with ⟨h1, e⟩ | ⟨h1, e⟩ | ⟨h1, e⟩ <;> rw [e] <;> omega
theorem blocks_iff {p : Int} {rate : Rat} {v : Vtr} : blocks p rate v = true ↔ v.party = p ∧ v.ex = false ∧ rate < v.ask := by
  unfold blocks
  simp only [Bool.and_eq_true, beq_iff_eq, Bool.not_eq_true', decide_eq_true_eq, sgn_pos_iff]
  have : 0 < v.ask - rate ↔ rate < v.ask := by grind
  rw [this]
theorem yesP_iff {l : List Vtr} {p : Int} {rate : Rat} : yesP l p rate = true ↔ ∀ v ∈ l, v.party = p → v.ex = false → v.ask ≤ rate := by
  unfold yesP
  rw [List.all_eq_true]
  constructor
  · intro h v hv h1 h2
    have := h v hv
    rw [Bool.not_eq_true'] at this
    refine Rat.not_lt.1 fun h3 => ?_
    rw [blocks_iff.2 ⟨h1, h2, h3⟩] at this; cases this
  · intro h v hv
    rw [Bool.not_eq_true']
    cases hb : blocks p rate v with
    | false => rfl
    | true =>
      obtain ⟨h1, h2, h3⟩ := blocks_iff.1 hb
      exact absurd (h v hv h1 h2) (Rat.not_le.2 h3)
theorem yesP_mono {l : List Vtr} {p : Int} {r s : Rat} (hrs : r ≤ s) (h : yesP l p r = true) : yesP l p s = true :=
  yesP_iff.2 fun v hv h1 h2 => Rat.le_trans (yesP_iff.1 h v hv h1 h2) hrs
theorem forOf_mono {f g : Int → Bool} (h : ∀ p, f p = true → g p = true) (l : List Vtr) (hl : ∀ v ∈ l, 0 ≤ v.amount) : forOf f l ≤ forOf g l := by
  unfold forOf
  have : ∀ (l : List Vtr) (s t : Rat), (∀ v ∈ l, 0 ≤ v.amount) → s ≤ t → l.foldl (fun s v => if v.ex then s else if f v.party then s + v.amount else s) s ≤ l.foldl (fun s v => if v.ex then s else if g v.party then s + v.amount else s) t := by
    intro l
    induction l with
    | nil => intro s t _ h; exact h
    | cons v l ih =>
      intro s t hl hst
      rw [List.foldl_cons, List.foldl_cons]
      refine ih _ _ (fun x hx => hl x (by simp [hx])) ?_
      have hv := hl v (by simp)
      by_cases he : v.ex = true
      · rw [if_pos he, if_pos he]; exact hst
      · rw [if_neg he, if_neg he]
        by_cases hf : f v.party = true
        · rw [if_pos hf, if_pos (h _ hf)]; grind
        · rw [if_neg hf]
          split
          · grind
          · exact hst
  exact this l 0 0 hl Rat.le_refl
theorem filter_more {f g : Int → Bool} (h : ∀ p, f p = true → g p = true) : ∀ m : List Int, (m.filter f).length ≤ (m.filter g).length
  | [] => Nat.le_refl _
  | x :: m => by
    have ih := filter_more h m
    rw [List.filter_cons, List.filter_cons]
    by_cases hf : f x = true
    · rw [if_pos hf, if_pos (h x hf)]; simp only [List.length_cons]; omega
    · rw [if_neg hf]
      split
      · simp only [List.length_cons]; omega
      · exact ih
theorem tally_mono {l : List Vtr} (hl : ∀ v ∈ l, 0 ≤ v.amount) {r s : Rat} (hrs : r ≤ s) : (tallyV l r).yes ≤ (tallyV l s).yes ∧ (tallyV l r).yesHeads ≤ (tallyV l s).yesHeads :=
  ⟨forOf_mono (fun _ h => yesP_mono hrs h) l hl, filter_more (fun _ h => yesP_mono hrs h) _⟩
theorem sgn_nonneg_iff {q : Rat} : 0 ≤ sgn q.num ↔ 0 ≤ q := ⟨sgn_rat, fun h => Int.not_lt.1 (sgn_nonneg h)⟩
theorem passed_mono {l : List Vtr} (hl : ∀ v ∈ l, 0 ≤ v.amount) {r s : Rat} (hrs : r ≤ s) (h : passedV (tallyV l r) = true) : passedV (tallyV l s) = true := by
  unfold passedV at *
  simp only [Bool.and_eq_true, decide_eq_true_eq, sgn_nonneg_iff] at *
  obtain ⟨h1, h2⟩ := tally_mono hl hrs
  have e1 : (tallyV l r).amount = (tallyV l s).amount := rfl
  have e2 : (tallyV l r).heads = (tallyV l s).heads := rfl
  rw [← e1, ← e2]
  exact ⟨by grind, by omega⟩
/-- Two rates with the same asks below them. -/
theorem tally_same {l : List Vtr} {r s : Rat} (h : ∀ v ∈ l, v.ex = false → (v.ask ≤ r ↔ v.ask ≤ s)) : tallyV l r = tallyV l s := by
  have hy : (fun p => yesP l p r) = (fun p => yesP l p s) := by
    funext p
    rw [Bool.eq_iff_iff, yesP_iff, yesP_iff]
    exact ⟨fun hh v hv h1 h2 => (h v hv h2).1 (hh v hv h1 h2), fun hh v hv h1 h2 => (h v hv h2).2 (hh v hv h1 h2)⟩
  unfold tallyV
  rw [hy]

/-- The rates at which a vote may turn. -/
def cands (l : List Vtr) : List Rat := 0 :: (l.filter fun v => !v.ex).map Vtr.ask
theorem cand_below {l : List Vtr} {r : Rat} (hr : 0 ≤ r) : ∃ a ∈ cands l, a ≤ r ∧ tallyV l a = tallyV l r := by
  -- the greatest candidate that is not above r
  have key : ∀ m : List Rat, (∃ a ∈ m, a ≤ r) → ∃ a ∈ m, a ≤ r ∧ ∀ b ∈ m, b ≤ r → b ≤ a := by
    intro m
    induction m with
    | nil => rintro ⟨a, ha, _⟩; cases ha
    | cons x m ih =>
      rintro ⟨a, ha, har⟩
      by_cases hm : ∃ a ∈ m, a ≤ r
      · obtain ⟨c, hc, hcr, hmax⟩ := ih hm
        by_cases hx : x ≤ r ∧ c ≤ x
        · refine ⟨x, by simp, hx.1, fun b hb hbr => ?_⟩
          rcases List.mem_cons.1 hb with rfl | hb
          · exact Rat.le_refl
          · exact Rat.le_trans (hmax b hb hbr) hx.2
        · refine ⟨c, by simp [hc], hcr, fun b hb hbr => ?_⟩
          rcases List.mem_cons.1 hb with rfl | hb
          · by_cases h2 : c ≤ b
            · exact absurd ⟨hbr, h2⟩ hx
            · exact Rat.le_of_lt (Rat.not_le.1 h2)
          · exact hmax b hb hbr
      · rcases List.mem_cons.1 ha with rfl | ha
        · refine ⟨a, by simp, har, fun b hb hbr => ?_⟩
          rcases List.mem_cons.1 hb with rfl | hb
          · exact Rat.le_refl
          · exact absurd ⟨b, hb, hbr⟩ hm
        · exact absurd ⟨a, ha, har⟩ hm
  obtain ⟨a, ha, har, hmax⟩ := key (cands l) ⟨0, by simp [cands], hr⟩
  refine ⟨a, ha, har, tally_same fun v hv hex => ⟨fun h => Rat.le_trans h har, fun h => hmax v.ask ?_ h⟩⟩
  unfold cands
  refine List.mem_cons_of_mem _ (List.mem_map.2 ⟨v, List.mem_filter.2 ⟨hv, by simp [hex]⟩, rfl⟩)
end Go.Proofs.YtakoagjpmdcddaaDoor
