/-
The latest quote, said without an order: plain Lean.
-/
import Derived.Test.YtcbjehnjbfmchaaDoorPI
namespace Go.Proofs.YtcbjehnjbfmchaaDoor

def elig (code : List UInt8) (day : Int) (q : Quo) : Bool := (q.code == code) && decide (q.day ≤ day)
/-- o is the quote that is latest among these. -/
def Latest (code : List UInt8) (day : Int) (l : List Quo) : Option Quo → Prop
  | none => ∀ q ∈ l, elig code day q = false
  | some q => q ∈ l ∧ elig code day q = true ∧ ∀ p ∈ l, elig code day p = true → p.day ≤ q.day
theorem best_known (qs : List Quo) (code : List UInt8) (day : Int) : ∀ i, i ≤ qs.length → (bestQ qs code day i).1 = (qs.take i).any (fun q => q.code == code)
  | 0, _ => by simp [bestQ]
  | i + 1, hi => by
    have ih := best_known qs code day i (by omega)
    have hq : qs[i]? = some qs[i] := List.getElem?_eq_getElem (by omega)
    rw [take_at hq, List.any_append, ← ih, bestQ, hq]
    by_cases h : (qs[i].code == code) = true
    · simp [h]
    · have h' : (qs[i].code == code) = false := by simpa using h
      simp [h']
theorem best_latest (qs : List Quo) (code : List UInt8) (day : Int) : ∀ i, i ≤ qs.length → Latest code day (qs.take i) ((bestQ qs code day i).2.bind fun b => qs[b]?)
  | 0, _ => by simp [bestQ, Latest]
  | i + 1, hi => by
    have ih := best_latest qs code day i (by omega)
    have hq : qs[i]? = some qs[i] := List.getElem?_eq_getElem (by omega)
    obtain ⟨q, hqe⟩ : ∃ q, q = qs[i] := ⟨_, rfl⟩
    rw [← hqe] at hq
    rw [take_at hq]
    have hmem : ∀ p, p ∈ qs.take i ++ [q] ↔ p ∈ qs.take i ∨ p = q := by intro p; simp
    have skip : elig code day q = false → Latest code day (qs.take i ++ [q]) ((bestQ qs code day i).2.bind fun b => qs[b]?) := by
      intro he
      cases ho : (bestQ qs code day i).2.bind fun b => qs[b]? with
      | none =>
        rw [ho] at ih
        intro p hp
        rcases (hmem p).1 hp with hp | rfl
        · exact ih p hp
        · exact he
      | some r =>
        rw [ho] at ih
        obtain ⟨h1, h2, h3⟩ := ih
        refine ⟨(hmem r).2 (.inl h1), h2, fun p hp hpe => ?_⟩
        rcases (hmem p).1 hp with hp | rfl
        · exact h3 p hp hpe
        · rw [he] at hpe; cases hpe
    by_cases h : (q.code == code) = true
    · by_cases h2 : decide (q.day ≤ day) = true
      · have he : elig code day q = true := by unfold elig; rw [h, h2]; rfl
        cases ho : (bestQ qs code day i).2 with
        | none =>
          rw [best_first hq h h2 ho]
          rw [ho] at ih
          show Latest code day _ (qs[i]?)
          rw [hq]
          refine ⟨(hmem q).2 (.inr rfl), he, fun p hp hpe => ?_⟩
          rcases (hmem p).1 hp with hp | rfl
          · rw [show elig code day p = false from ih p hp] at hpe; cases hpe
          · exact Int.le_refl _
        | some b =>
          have hb := best_lt qs code day i b ho
          have hbq : qs[b]? = some qs[b] := List.getElem?_eq_getElem hb.2
          rw [ho] at ih
          have ih : Latest code day (qs.take i) (qs[b]?) := ih
          rw [hbq] at ih
          obtain ⟨i1, i2, i3⟩ := ih
          have hda : dayAt qs b = qs[b].day := by unfold dayAt; rw [hbq]
          by_cases h4 : decide (dayAt qs b < q.day) = true
          · rw [best_next hq h h2 ho h4]
            show Latest code day _ (qs[i]?)
            rw [hq]
            refine ⟨(hmem q).2 (.inr rfl), he, fun p hp hpe => ?_⟩
            rcases (hmem p).1 hp with hp | rfl
            · have := i3 p hp hpe
              have h5 := of_decide_eq_true h4
              omega
            · exact Int.le_refl _
          · have h4' : decide (dayAt qs b < q.day) = false := by simpa using h4
            rw [best_stay hq h h2 ho h4']
            show Latest code day _ (qs[b]?)
            rw [hbq]
            refine ⟨(hmem _).2 (.inl i1), i2, fun p hp hpe => ?_⟩
            rcases (hmem p).1 hp with hp | rfl
            · exact i3 p hp hpe
            · have h5 := of_decide_eq_false h4'
              omega
      · have h2' : decide (q.day ≤ day) = false := by simpa using h2
        rw [best_late hq h h2']
        exact skip (by unfold elig; rw [h2', Bool.and_false])
    · have h' : (q.code == code) = false := by simpa using h
      rw [best_other hq h']
      exact skip (by unfold elig; rw [h']; rfl)
end Go.Proofs.YtcbjehnjbfmchaaDoor

/-
The latest quote of a list without twins does not depend on the order: plain Lean.
-/
namespace Go.Proofs.YtcbjehnjbfmchaaDoor

theorem latest_uniq {code : List UInt8} {day : Int} {l l' : List Quo} (hm : ∀ q, q ∈ l ↔ q ∈ l') (hu : ∀ p ∈ l, ∀ q ∈ l, p.code = q.code → p.day = q.day → p = q) {o o' : Option Quo} (h : Latest code day l o) (h' : Latest code day l' o') : o = o' := by
  cases o with
  | none =>
    cases o' with
    | none => rfl
    | some q =>
      have h1 : elig code day q = false := h q ((hm q).2 h'.1)
      rw [h'.2.1] at h1; cases h1
  | some p =>
    cases o' with
    | none =>
      have h1 : elig code day p = false := h' p ((hm p).1 h.1)
      rw [h.2.1] at h1; cases h1
    | some q =>
      have h1 := h.2.2 q ((hm q).2 h'.1) h'.2.1
      have h2 := h'.2.2 p ((hm p).1 h.1) h.2.1
      have e1 := h.2.1
      have e2 := h'.2.1
      unfold elig at e1 e2
      simp only [Bool.and_eq_true, beq_iff_eq] at e1 e2
      rw [hu p h.1 q ((hm q).2 h'.1) (e1.1.trans e2.1.symm) (by omega)]
theorem fold_uniq (ts : List Tri) : ∀ p ∈ ts.foldl addQ [], ∀ q ∈ ts.foldl addQ [], p.code = q.code → p.day = q.day → p = q := by
  induction ts using rev_ind with
  | h0 => intro p hp; simp at hp
  | h1 l t ih =>
    rw [List.foldl_append]
    show ∀ p ∈ addQ (l.foldl addQ []) t, ∀ q ∈ addQ (l.foldl addQ []) t, p.code = q.code → p.day = q.day → p = q
    generalize l.foldl addQ [] = out at *
    unfold addQ
    split
    · exact ih
    · rename_i hn
      have hno : ∀ p ∈ out, p.code = (triQ t).code → p.day = (triQ t).day → False := by
        intro p hp h1 h2
        refine hn (List.any_eq_true.2 ⟨p, hp, ?_⟩)
        unfold sameQ
        simp [h1, h2]
      intro p hp q hq h1 h2
      rcases List.mem_append.1 hp with hp | hp <;> rcases List.mem_append.1 hq with hq | hq
      · exact ih p hp q hq h1 h2
      · have e : q = triQ t := by simpa using hq
        subst e
        exact (hno p hp h1 h2).elim
      · have e : p = triQ t := by simpa using hp
        subst e
        exact (hno q hq h1.symm h2.symm).elim
      · have e : p = triQ t := by simpa using hp
        have e2 : q = triQ t := by simpa using hq
        rw [e, e2]
end Go.Proofs.YtcbjehnjbfmchaaDoor

/-
A list of quotes reversed is as valid as the list: plain Lean.
-/
namespace Go.Proofs.YtcbjehnjbfmchaaDoor

theorem check_all : ∀ (rest pre : List Quo), (∀ q ∈ rest, isCodeB q.code = true ∧ (q.code == eur) = false ∧ dayB q.day = true ∧ posQ q = true) → (pre ++ rest).Pairwise (fun p q => sameQ q p = false) → checkFrom pre rest = 0
  | [], _, _, _ => rfl
  | q :: rest, pre, h, hp => by
    obtain ⟨h1, h2, h3, h4⟩ := h q (by simp)
    have hn : pre.any (sameQ q) = false := by
      rw [List.any_eq_false]
      intro p hpm
      have := (List.pairwise_append.1 hp).2.2 p hpm q (by simp)
      simp [this]
    rw [checkFrom, if_pos (qErr_none h1 h2 h3 h4 hn)]
    exact check_all rest (pre ++ [q]) (fun p hpm => h p (by simp [hpm])) (by rw [List.append_assoc]; exact hp)
theorem fold_pair (ts : List Tri) : (ts.foldl addQ []).Pairwise (fun p q => sameQ q p = false) := by
  induction ts using rev_ind with
  | h0 => exact List.Pairwise.nil
  | h1 l t ih =>
    rw [List.foldl_append]
    show (addQ (l.foldl addQ []) t).Pairwise _
    generalize l.foldl addQ [] = out at *
    unfold addQ
    split
    · exact ih
    · rename_i hn
      rw [List.pairwise_append]
      refine ⟨ih, List.pairwise_singleton _ _, fun p hp q hq => ?_⟩
      have e : q = triQ t := by simpa using hq
      subst e
      cases hh : sameQ (triQ t) p with
      | false => rfl
      | true => exact absurd (List.any_eq_true.2 ⟨p, hp, hh⟩) hn
theorem same_comm (p q : Quo) : sameQ p q = sameQ q p := by
  unfold sameQ
  rw [Bool.beq_comm, show (q.day == p.day) = (p.day == q.day) from Bool.beq_comm]
theorem triQ_good {t : Tri} (_ : t.ok) : isCodeB (triQ t).code = true ∧ ((triQ t).code == eur) = false ∧ dayB (triQ t).day = true ∧ posQ (triQ t) = true := by
  refine ⟨code3_is _, code3_eur _, ?_, triQ_pos t⟩
  show (decide (0 ≤ ((t.b % 40 : Nat) : Int)) && decide (((t.b % 40 : Nat) : Int) ≤ 1048576)) = true
  rw [decide_eq_true (by omega), decide_eq_true (by omega)]; rfl
theorem check_rev {ts : List Tri} (h : ∀ t ∈ ts, t.ok) : checkQ (quotesOf ts).reverse = 0 := by
  have hl := quotesOf_check ts h
  unfold checkQ at hl ⊢
  rw [List.length_reverse]
  split at hl
  · cases hl
  · rename_i hlen
    rw [if_neg hlen]
    refine check_all _ [] (fun q hq => ?_) ?_
    · have hq' : q ∈ quotesOf ts := List.mem_reverse.1 hq
      obtain ⟨t, rfl⟩ := (fold_ok (ts.take 8) (fun t ht => h t (List.mem_of_mem_take ht))).2.2 q hq'
      exact ⟨code3_is _, code3_eur _, by
        show (decide (0 ≤ ((t.b % 40 : Nat) : Int)) && decide (((t.b % 40 : Nat) : Int) ≤ 1048576)) = true
        rw [decide_eq_true (by omega), decide_eq_true (by omega)]; rfl, triQ_pos t⟩
    · rw [List.nil_append, List.pairwise_reverse]
      exact (fold_pair (ts.take 8)).imp (fun hpq => by rw [same_comm]; exact hpq)
end Go.Proofs.YtcbjehnjbfmchaaDoor

/-
The rate of a list reversed: plain Lean.
-/
namespace Go.Proofs.YtcbjehnjbfmchaaDoor

def rateOf (known : Bool) (o : Option Quo) : Trip × Int := if known then (match o with | none => (zeroT, 9) | some q => (q.trip, 0)) else (zeroT, 8)
theorem rate_by {qs : List Quo} {code : List UInt8} {day : Int} (h : checkQ qs = 0) (h2 : dayB day = true) (h3 : (code == eur) = false) :
    rateQ qs code day = rateOf (bestQ qs code day qs.length).1 ((bestQ qs code day qs.length).2.bind fun b => qs[b]?) := by
  cases hb : bestQ qs code day qs.length with
  | mk k o =>
    cases k with
    | false => rw [rate_unknown h h2 h3 hb]; rfl
    | true =>
      cases o with
      | none => rw [rate_none h h2 h3 hb]; rfl
      | some b =>
        have hl := (best_lt qs code day qs.length b (by rw [hb])).2
        have hq : qs[b]? = some qs[b] := List.getElem?_eq_getElem hl
        rw [rate_some h h2 h3 hb hq]
        show _ = rateOf true (qs[b]?)
        rw [hq]; rfl
theorem rate_rev {ts : List Tri} (h : ∀ t ∈ ts, t.ok) (code : List UInt8) (day : Int) (h2 : dayB day = true) (h3 : (code == eur) = false) :
    rateQ (quotesOf ts).reverse code day = rateQ (quotesOf ts) code day := by
  rw [rate_by (check_rev h) h2 h3, rate_by (quotesOf_check ts h) h2 h3]
  have k1 := best_known (quotesOf ts).reverse code day (quotesOf ts).reverse.length (Nat.le_refl _)
  have k2 := best_known (quotesOf ts) code day (quotesOf ts).length (Nat.le_refl _)
  have l1 := best_latest (quotesOf ts).reverse code day (quotesOf ts).reverse.length (Nat.le_refl _)
  have l2 := best_latest (quotesOf ts) code day (quotesOf ts).length (Nat.le_refl _)
  rw [List.take_length] at k1 k2 l1 l2
  rw [k1, k2, List.any_reverse]
  rw [latest_uniq (fun q => List.mem_reverse) (fun p hp q hq => fold_uniq (ts.take 8) p (List.mem_reverse.1 hp) q (List.mem_reverse.1 hq)) l1 l2]
end Go.Proofs.YtcbjehnjbfmchaaDoor
