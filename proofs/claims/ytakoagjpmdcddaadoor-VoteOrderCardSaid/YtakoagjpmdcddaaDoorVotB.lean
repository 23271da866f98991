/-
The threshold of a vote; the order of the voters; plain Lean.
-/
import Derived.Test.YtakoagjpmdcddaaDoorVotA
namespace Go.Proofs.YtakoagjpmdcddaaDoor
open Go.RowKit

/-- A rate from 0 to 1 that carries. -/
def okRate (l : List Vtr) (r : Rat) : Bool := decide (r ≤ 1) && passedV (tallyV l r)
def tryV (l : List Vtr) (st : Rat × Bool) (r : Rat) : Rat × Bool := if (!st.2 || decide (r < st.1)) && okRate l r then (r, true) else st
/-- The program's search: 0, then the asks of those who vote. -/
def thrV (l : List Vtr) : Rat × Bool := (cands l).foldl (tryV l) (0, false)
/-- The document's: 0, else the asks of all. -/
def thrR (l : List Vtr) : Rat × Bool := if passedV (tallyV l 0) then (0, true) else (l.map Vtr.ask).foldl (tryV l) (0, false)

def IsLeast (P : Rat → Bool) (m : List Rat) (x : Rat × Bool) : Prop := (x.2 = true ∧ x.1 ∈ m ∧ P x.1 = true ∧ ∀ b ∈ m, P b = true → x.1 ≤ b) ∨ (x = (0, false) ∧ ∀ b ∈ m, P b = false)
theorem least_step {l : List Vtr} {m : List Rat} {x : Rat × Bool} {r : Rat} (h : IsLeast (okRate l) m x) : IsLeast (okRate l) (m ++ [r]) (tryV l x r) := by
  have hm : ∀ b, b ∈ m ++ [r] ↔ b ∈ m ∨ b = r := by intro b; simp
  unfold tryV
  by_cases hr : okRate l r = true
  · rcases h with ⟨h1, h2, h3, h4⟩ | ⟨rfl, h4⟩
    · rw [h1, hr]
      by_cases hlt : r < x.1
      · rw [if_pos (by simp [hlt])]
        refine .inl ⟨rfl, (hm r).2 (.inr rfl), hr, fun b hb hbp => ?_⟩
        rcases (hm b).1 hb with hb | rfl
        · exact Rat.le_trans (Rat.le_of_lt hlt) (h4 b hb hbp)
        · exact Rat.le_refl
      · rw [if_neg (by simp [hlt])]
        refine .inl ⟨h1, (hm _).2 (.inl h2), h3, fun b hb hbp => ?_⟩
        rcases (hm b).1 hb with hb | rfl
        · exact h4 b hb hbp
        · exact Rat.not_lt.1 hlt
    · rw [hr, if_pos (by rfl)]
      refine .inl ⟨rfl, (hm r).2 (.inr rfl), hr, fun b hb hbp => ?_⟩
      rcases (hm b).1 hb with hb | rfl
      · rw [h4 b hb] at hbp; cases hbp
      · exact Rat.le_refl
  · have hr' : okRate l r = false := by simpa using hr
    rw [hr', Bool.and_false, if_neg (by decide)]
    rcases h with ⟨h1, h2, h3, h4⟩ | ⟨rfl, h4⟩
    · refine .inl ⟨h1, (hm _).2 (.inl h2), h3, fun b hb hbp => ?_⟩
      rcases (hm b).1 hb with hb | rfl
      · exact h4 b hb hbp
      · rw [hr'] at hbp; cases hbp
    · refine .inr ⟨rfl, fun b hb => ?_⟩
      rcases (hm b).1 hb with hb | rfl
      · exact h4 b hb
      · exact hr'
theorem least_fold {l : List Vtr} (m : List Rat) : IsLeast (okRate l) m (m.foldl (tryV l) (0, false)) := by
  induction m using rev_ind with
  | h0 => exact .inr ⟨rfl, by simp⟩
  | h1 m r ih => rw [List.foldl_append]; exact least_step ih
theorem least_same {P : Rat → Bool} {m n : List Rat} {x y : Rat × Bool} (hx : IsLeast P m x) (hy : IsLeast P n y) (h1 : ∀ b ∈ m, P b = true → ∃ c ∈ n, P c = true ∧ c ≤ b) (h2 : ∀ b ∈ n, P b = true → ∃ c ∈ m, P c = true ∧ c ≤ b) : x = y := by
  rcases hx with ⟨x1, x2, x3, x4⟩ | ⟨rfl, x4⟩ <;> rcases hy with ⟨y1, y2, y3, y4⟩ | ⟨rfl, y4⟩
  · obtain ⟨c, hc, hcp, hcx⟩ := h1 _ x2 x3
    obtain ⟨e, he, hep, hey⟩ := h2 _ y2 y3
    have := y4 c hc hcp
    have := x4 e he hep
    have hxy : x.1 = y.1 := by grind
    exact Prod.ext hxy (x1.trans y1.symm)
  · obtain ⟨c, hc, hcp, _⟩ := h1 _ x2 x3
    rw [y4 c hc] at hcp; cases hcp
  · obtain ⟨c, hc, hcp, _⟩ := h2 _ y2 y3
    rw [x4 c hc] at hcp; cases hcp
  · rfl
theorem cands_sub {l : List Vtr} {b : Rat} (h : b ∈ cands l) : b = 0 ∨ b ∈ l.map Vtr.ask := by
  unfold cands at h
  rcases List.mem_cons.1 h with h | h
  · exact .inl h
  · obtain ⟨v, hv, e⟩ := List.mem_map.1 h
    exact .inr (List.mem_map.2 ⟨v, (List.mem_filter.1 hv).1, e⟩)
/-- Both searches find the same. -/
theorem thr_same {l : List Vtr} (hl : ∀ v ∈ l, 0 ≤ v.ask) : thrR l = thrV l := by
  have hV : IsLeast (okRate l) (cands l) (thrV l) := least_fold _
  unfold thrR
  by_cases h0 : passedV (tallyV l 0) = true
  · rw [if_pos h0]
    have hk : okRate l 0 = true := by unfold okRate; rw [h0]; decide
    have one : ∀ b : Rat, b ∈ [(0 : Rat)] → b = 0 := fun b hb => by simpa using hb
    have h0l : IsLeast (okRate l) [0] ((0 : Rat), true) := .inl ⟨rfl, by simp, hk, fun b hb _ => by rw [one b hb]; exact Rat.le_refl⟩
    refine least_same h0l hV (fun b hb _ => ⟨0, by simp [cands], hk, by rw [one b hb]; exact Rat.le_refl⟩) (fun b hb _ => ⟨0, by simp, hk, ?_⟩)
    rcases cands_sub hb with rfl | hb
    · exact Rat.le_refl
    · obtain ⟨v, hv, rfl⟩ := List.mem_map.1 hb
      exact hl v hv
  · rw [if_neg h0]
    refine least_same (least_fold _) hV (fun b hb hbp => ?_) (fun b hb hbp => ?_)
    · obtain ⟨v, hv, rfl⟩ := List.mem_map.1 hb
      obtain ⟨c, hc, hcb, ht⟩ := cand_below (l := l) (hl v hv)
      refine ⟨c, hc, ?_, hcb⟩
      unfold okRate at *
      rw [Bool.and_eq_true, decide_eq_true_eq] at *
      rw [ht]
      exact ⟨Rat.le_trans hcb hbp.1, hbp.2⟩
    · rcases cands_sub hb with rfl | hb
      · unfold okRate at hbp
        rw [Bool.and_eq_true] at hbp
        exact absurd hbp.2 h0
      · exact ⟨b, hb, hbp, Rat.le_refl⟩
/-- A rate from 0 to 1 carries exactly if it is at least the threshold. -/
theorem thr_least {l : List Vtr} (hl : ∀ v ∈ l, 0 ≤ v.amount ∧ 0 ≤ v.ask) {r : Rat} (h0 : 0 ≤ r) (h1 : r ≤ 1) : passedV (tallyV l r) = ((thrV l).2 && decide ((thrV l).1 ≤ r)) := by
  have hV : IsLeast (okRate l) (cands l) (thrV l) := least_fold _
  rw [Bool.eq_iff_iff, Bool.and_eq_true, decide_eq_true_eq]
  constructor
  · intro hp
    obtain ⟨c, hc, hcr, ht⟩ := cand_below (l := l) h0
    have hk : okRate l c = true := by
      unfold okRate; rw [ht, hp, decide_eq_true (Rat.le_trans hcr h1)]; rfl
    rcases hV with ⟨x1, x2, x3, x4⟩ | ⟨x0, x4⟩
    · exact ⟨x1, Rat.le_trans (x4 c hc hk) hcr⟩
    · rw [x4 c hc] at hk; cases hk
  · rintro ⟨hf, hle⟩
    rcases hV with ⟨x1, x2, x3, x4⟩ | ⟨x0, x4⟩
    · have := x3
      unfold okRate at this
      rw [Bool.and_eq_true] at this
      exact passed_mono (fun v hv => (hl v hv).1) hle this.2
    · rw [x0] at hf; cases hf

/-- The order of the voters has no influence. -/
theorem amount_app (a b : List Vtr) : amountV (a ++ b) = amountV a + amountV b := by
  unfold amountV
  rw [List.foldl_append]
  have : ∀ (b : List Vtr) (s : Rat), b.foldl (fun s v => if v.ex then s else s + v.amount) s = s + b.foldl (fun s v => if v.ex then s else s + v.amount) 0 := by
    intro b
    induction b with
    | nil => intro s; exact (Rat.add_zero s).symm
    | cons v b ih =>
      intro s
      rw [List.foldl_cons, List.foldl_cons]
      by_cases h : v.ex = true
      · rw [if_pos h, if_pos h]; exact ih s
      · rw [if_neg h, if_neg h, ih (s + v.amount), ih (0 + v.amount)]; grind
  exact this b _
theorem for_app (f : Int → Bool) (a b : List Vtr) : forOf f (a ++ b) = forOf f a + forOf f b := by
  unfold forOf
  rw [List.foldl_append]
  have : ∀ (b : List Vtr) (s : Rat), b.foldl (fun s v => if v.ex then s else if f v.party then s + v.amount else s) s = s + b.foldl (fun s v => if v.ex then s else if f v.party then s + v.amount else s) 0 := by
    intro b
    induction b with
    | nil => intro s; exact (Rat.add_zero s).symm
    | cons v b ih =>
      intro s
      rw [List.foldl_cons, List.foldl_cons]
      by_cases h : v.ex = true
      · rw [if_pos h, if_pos h]; exact ih s
      · rw [if_neg h, if_neg h]
        by_cases hf : f v.party = true
        · rw [if_pos hf, if_pos hf, ih (s + v.amount), ih (0 + v.amount)]; grind
        · rw [if_neg hf, if_neg hf]; exact ih s
  exact this b _
theorem parts_mem : ∀ (l : List Vtr) (acc : List Int) (p : Int), p ∈ parts l acc ↔ p ∈ acc ∨ ∃ v ∈ l, v.ex = false ∧ v.party = p
  | [], acc, p => by simp [parts]
  | v :: l, acc, p => by
    rw [parts, parts_mem l]
    by_cases hc : (v.ex || acc.contains v.party) = true
    · rw [if_pos hc]
      constructor
      · rintro (h | ⟨u, hu, h1, h2⟩)
        · exact .inl h
        · exact .inr ⟨u, by simp [hu], h1, h2⟩
      · rintro (h | ⟨u, hu, h1, h2⟩)
        · exact .inl h
        · rcases List.mem_cons.1 hu with rfl | hu
          · rw [h1, Bool.false_or] at hc
            exact .inl (by rw [← h2]; simpa using hc)
          · exact .inr ⟨u, hu, h1, h2⟩
    · rw [if_neg hc]
      have he : v.ex = false := by
        cases hh : v.ex with
        | false => rfl
        | true => rw [hh] at hc; exact absurd rfl hc
      constructor
      · rintro (h | ⟨u, hu, h1, h2⟩)
        · rcases List.mem_append.1 h with h | h
          · exact .inl h
          · exact .inr ⟨v, by simp, he, by simpa using (List.mem_singleton.1 h).symm⟩
        · exact .inr ⟨u, by simp [hu], h1, h2⟩
      · rintro (h | ⟨u, hu, h1, h2⟩)
        · exact .inl (List.mem_append.2 (.inl h))
        · rcases List.mem_cons.1 hu with rfl | hu
          · exact .inl (List.mem_append.2 (.inr (by simp [h2])))
          · exact .inr ⟨u, hu, h1, h2⟩
theorem parts_nodup : ∀ (l : List Vtr) (acc : List Int), acc.Nodup → (parts l acc).Nodup
  | [], _, h => h
  | v :: l, acc, h => by
    rw [parts]
    refine parts_nodup l _ ?_
    split
    · exact h
    · rename_i hc
      rw [List.nodup_append]
      refine ⟨h, by simp, fun a ha b hb => ?_⟩
      have : b = v.party := by simpa using hb
      subst this
      rintro rfl
      refine hc ?_
      rw [Bool.or_eq_true]; right
      simpa using ha
theorem tally_turn (a b : List Vtr) (r : Rat) : tallyV (b ++ a) r = tallyV (a ++ b) r := by
  have hy : (fun p => yesP (b ++ a) p r) = (fun p => yesP (a ++ b) p r) := by
    funext p
    unfold yesP
    rw [List.all_append, List.all_append, Bool.and_comm]
  have hp : (parts (b ++ a) []).Perm (parts (a ++ b) []) := by
    refine (List.perm_ext_iff_of_nodup (parts_nodup _ _ List.nodup_nil) (parts_nodup _ _ List.nodup_nil)).2 fun p => ?_
    rw [parts_mem, parts_mem]
    simp only [List.not_mem_nil, false_or, List.mem_append]
    constructor
    · rintro ⟨v, hv, h⟩; exact ⟨v, hv.symm, h⟩
    · rintro ⟨v, hv, h⟩; exact ⟨v, hv.symm, h⟩
  unfold tallyV
  rw [hy, amount_app, amount_app, for_app, for_app, hp.length_eq, (hp.filter _).length_eq, Rat.add_comm (amountV b), Rat.add_comm (forOf _ b)]
end Go.Proofs.YtakoagjpmdcddaaDoor
