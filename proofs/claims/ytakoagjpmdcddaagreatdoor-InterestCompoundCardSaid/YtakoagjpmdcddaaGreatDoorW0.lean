/-
Steps of a rate of interest: checked, the rate of a day, the sum of the rates of days; plain Lean.
-/
import Derived.Test.YtakoagjpmdcddaaGreatDoorVH
namespace Go.Proofs.YtakoagjpmdcddaaGreatDoor
open Go.RowKit

def dayB (d : Int) : Bool := decide (0 ≤ d) && decide (d ≤ 1048576)
theorem ref_IsDay (d : Int) (w : World) : Calls Tryz.prog 11 #[.int .i64 d] w fun e w' => e = .returned (.bool (dayB d)) ∧ w = w' := by
  unfold dayB
  obtain ⟨x, hx⟩ : ∃ x, x = decide (0 ≤ d) := ⟨_, rfl⟩
  obtain ⟨y, hy⟩ : ∃ y, y = decide (d ≤ 1048576) := ⟨_, rfl⟩
  rw [← hx, ← hy]
  have hx' := hx.symm
  have hy' := hy.symm
  clear hx hy
  cases x <;> cases y
  all_goals
    go_enter Tryz.func11, Tryz.ntmps11
    go_wp2
    go_ret
    exact ⟨rfl, rfl⟩

/-- A step of a rate. -/
structure Stp where
  frm : Int
  neg : Bool
  num : List UInt8
  den : List UInt8
def Stp.enc (s : Stp) : List Value := [.int .i64 s.frm, .bool s.neg, .string (bs s.num), .string (bs s.den)]
def Stp.rate (s : Stp) : Rat := decR s.neg s.num s.den
abbrev StepsL (w : World) (v : Value) (l : List Stp) : Prop := Slc Stp.enc 4 w v l
theorem stp_len (s : Stp) : s.enc.length = 4 := rfl

def frmAt (l : List Stp) (i : Nat) : Int := match l[i]? with | some s => s.frm | none => 0
def stepErr (l : List Stp) (i : Nat) (s : Stp) : Int :=
  if dayB s.frm = false then 1 else if 0 < i ∧ s.frm ≤ frmAt l (i - 1) then 15 else if sgn s.rate.num < 0 then 7 else 0
def checkTo (l : List Stp) : Nat → Int
  | 0 => 0
  | i + 1 => if checkTo l i = 0 then (match l[i]? with | some s => stepErr l i s | none => 0) else checkTo l i
def checkS (l : List Stp) : Int := if 64 < l.length then 2 else checkTo l l.length

theorem checkTo_step {l : List Stp} {i : Nat} {s : Stp} (h : checkTo l i = 0) (hs : l[i]? = some s) : checkTo l (i + 1) = stepErr l i s := by
  rw [checkTo, if_pos h, hs]
theorem checkTo_stay {l : List Stp} {i : Nat} (h : checkTo l i ≠ 0) : ∀ k, checkTo l (i + k) = checkTo l i
  | 0 => rfl
  | k + 1 => by rw [← Nat.add_assoc, checkTo, checkTo_stay h k, if_neg h]
theorem checkS_long {l : List Stp} (h : 64 < l.length) : checkS l = 2 := by unfold checkS; rw [if_pos h]
theorem checkS_err {l : List Stp} {i : Nat} {s : Stp} {e : Int} (hl : l.length ≤ 64) (h : checkTo l i = 0) (hs : l[i]? = some s) (he : stepErr l i s = e) (h0 : e ≠ 0) : checkS l = e := by
  have hi := (List.getElem?_eq_some_iff.1 hs).1
  have h1 := checkTo_step h hs
  rw [he] at h1
  unfold checkS
  rw [if_neg (by omega), show l.length = (i + 1) + (l.length - (i + 1)) by omega, checkTo_stay (by rw [h1]; exact h0), h1]
theorem checkS_ok {l : List Stp} (hl : l.length ≤ 64) (h : checkTo l l.length = 0) : checkS l = 0 := by unfold checkS; rw [if_neg (by omega), h]
theorem stepErr_day {l : List Stp} {i : Nat} {s : Stp} (h : dayB s.frm = false) : stepErr l i s = 1 := by unfold stepErr; rw [if_pos h]
theorem stepErr_order {l : List Stp} {i : Nat} {s : Stp} (h : dayB s.frm = true) (h1 : 0 < i) (h2 : s.frm ≤ frmAt l (i - 1)) : stepErr l i s = 15 := by
  unfold stepErr; rw [if_neg (by rw [h]; decide), if_pos ⟨h1, h2⟩]
theorem stepErr_neg {l : List Stp} {i : Nat} {s : Stp} (h : dayB s.frm = true) (h1 : ¬ (0 < i ∧ s.frm ≤ frmAt l (i - 1))) (h2 : sgn s.rate.num < 0) : stepErr l i s = 7 := by
  unfold stepErr; rw [if_neg (by rw [h]; decide), if_neg h1, if_pos h2]
theorem stepErr_ok {l : List Stp} {i : Nat} {s : Stp} (h : dayB s.frm = true) (h1 : ¬ (0 < i ∧ s.frm ≤ frmAt l (i - 1))) (h2 : ¬ sgn s.rate.num < 0) : stepErr l i s = 0 := by
  unfold stepErr; rw [if_neg (by rw [h]; decide), if_neg h1, if_neg h2]

/-- What a list that passed says. -/
theorem stepErr_zero {l : List Stp} {i : Nat} {s : Stp} (h : stepErr l i s = 0) : dayB s.frm = true ∧ (0 < i → frmAt l (i - 1) < s.frm) ∧ 0 ≤ sgn s.rate.num := by
  unfold stepErr at h
  split at h
  · cases h
  · rename_i h1
    split at h
    · cases h
    · rename_i h2
      split at h
      · cases h
      · rename_i h3
        exact ⟨by simpa using h1, fun h0 => Int.not_le.1 fun h => h2 ⟨h0, h⟩, Int.not_lt.1 h3⟩
theorem checkTo_zero {l : List Stp} {i k : Nat} {s : Stp} (h : checkTo l i = 0) (hk : k < i) (hs : l[k]? = some s) : stepErr l k s = 0 := by
  have h1 : checkTo l (k + 1) = 0 := Classical.byContradiction fun hn => by
    have := checkTo_stay hn (i - (k + 1))
    rw [show k + 1 + (i - (k + 1)) = i by omega, h] at this
    exact hn this.symm
  have h0 : checkTo l k = 0 := Classical.byContradiction fun hn => hn (by rw [← checkTo_stay hn 1]; exact h1)
  rw [← checkTo_step h0 hs]; exact h1
theorem checkS_zero {l : List Stp} (h : checkS l = 0) : l.length ≤ 64 ∧ checkTo l l.length = 0 := by
  unfold checkS at h
  split at h
  · cases h
  · exact ⟨by omega, h⟩

/-- Sorted by day, days, rates that are not negative. -/
def Rising : List Stp → Prop
  | [] => True
  | s :: rest => (∀ t ∈ rest, s.frm < t.frm) ∧ 0 ≤ s.frm ∧ s.frm ≤ 1048576 ∧ 0 ≤ s.rate ∧ Rising rest
theorem dayB_in {d : Int} (h : dayB d = true) : 0 ≤ d ∧ d ≤ 1048576 := by
  unfold dayB at h
  simpa using h
theorem rising_of (l : List Stp) : ∀ (k i : Nat), i + k = l.length → (∀ j s, l[j]? = some s → stepErr l j s = 0) → Rising (l.drop i)
  | 0, i, hi, _ => by rw [List.drop_of_length_le (by omega)]; exact trivial
  | k + 1, i, hi, h => by
    have hs : l[i]? = some l[i] := List.getElem?_eq_getElem (by omega)
    have ih := rising_of l k (i + 1) (by omega) h
    rw [drop_at hs]
    obtain ⟨h1, _, h3⟩ := stepErr_zero (h i _ hs)
    refine ⟨fun t ht => ?_, (dayB_in h1).1, (dayB_in h1).2, sgn_rat h3, ih⟩
    -- the next one is later, and all behind it
    by_cases hk : i + 1 < l.length
    · have hn : l[i + 1]? = some l[i + 1] := List.getElem?_eq_getElem hk
      have h2 := (stepErr_zero (h (i + 1) _ hn)).2.1 (by omega)
      have hf : frmAt l (i + 1 - 1) = l[i].frm := by unfold frmAt; rw [show i + 1 - 1 = i by omega, hs]
      rw [hf] at h2
      rw [drop_at hn] at ht ih
      rcases List.mem_cons.1 ht with rfl | ht
      · exact h2
      · have := ih.1 t ht; omega
    · rw [List.drop_of_length_le (by omega)] at ht; cases ht
theorem checkS_rising {l : List Stp} (h : checkS l = 0) : Rising l := by
  obtain ⟨_, h2⟩ := checkS_zero h
  have := rising_of l l.length 0 (by omega) (fun j s hj => checkTo_zero h2 (List.getElem?_eq_some_iff.1 hj).1 hj)
  rwa [List.drop_zero] at this

/-- The rate of a day: that of the last step that is not after it. -/
def rateS (l : List Stp) (day : Int) : Rat := l.foldl (fun r s => if s.frm ≤ day then s.rate else r) 0
theorem fold_late (day : Int) : ∀ (l : List Stp) (r : Rat), (∀ s ∈ l, day < s.frm) → l.foldl (fun r s => if s.frm ≤ day then s.rate else r) r = r
  | [], _, _ => rfl
  | s :: l, r, h => by
    have h1 := h s (by simp)
    rw [List.foldl_cons, if_neg (by omega)]
    exact fold_late day l r (fun t ht => h t (by simp [ht]))
theorem rising_take {l : List Stp} (h : Rising l) : ∀ {i : Nat} {s : Stp}, l[i]? = some s → ∀ t ∈ l.drop (i + 1), s.frm < t.frm := by
  induction l with
  | nil => intro i s hs; simp at hs
  | cons a l ih =>
    intro i s hs t ht
    cases i with
    | zero =>
      have : a = s := by simpa using hs
      subst this
      exact h.1 t (by simpa using ht)
    | succ i => exact ih h.2.2.2.2 (by simpa using hs) t (by simpa using ht)
/-- A loop that stops at the first step after the day answers the same. -/
theorem rateS_stop {l : List Stp} (h : Rising l) {day : Int} {i : Nat} {s : Stp} (hs : l[i]? = some s) (hd : day < s.frm) : rateS l day = (l.take i).foldl (fun r s => if s.frm ≤ day then s.rate else r) 0 := by
  unfold rateS
  conv => lhs; rw [← List.take_append_drop i l, List.foldl_append]
  refine fold_late day _ _ (fun t ht => ?_)
  rw [drop_at hs] at ht
  rcases List.mem_cons.1 ht with rfl | ht
  · exact hd
  · have := rising_take h hs t ht; omega
theorem fold_step {l : List Stp} {day : Int} {i : Nat} {s : Stp} (hs : l[i]? = some s) : (l.take (i + 1)).foldl (fun r s => if s.frm ≤ day then s.rate else r) (0 : Rat) = if s.frm ≤ day then s.rate else (l.take i).foldl (fun r s => if s.frm ≤ day then s.rate else r) 0 := by
  rw [take_at hs, List.foldl_append]; rfl

/-- The sum of the rates of n days. -/
def daySum (l : List Stp) (day : Int) : Nat → Rat
  | 0 => 0
  | n + 1 => daySum l day n + rateS l (day + n)
theorem daySum_add (l : List Stp) (day : Int) (m : Nat) : ∀ n, daySum l day (m + n) = daySum l day m + daySum l (day + m) n
  | 0 => by rw [Nat.add_zero, daySum, Rat.add_zero]
  | n + 1 => by
    rw [← Nat.add_assoc, daySum, daySum_add l day m n, daySum, Rat.add_assoc, show day + ((m + n : Nat) : Int) = day + m + n by omega]
theorem daySum_const {l : List Stp} {day : Int} {r : Rat} : ∀ {n : Nat}, (∀ k : Nat, k < n → rateS l (day + k) = r) → daySum l day n = r * (n : Rat)
  | 0, _ => by rw [daySum]; grind
  | n + 1, h => by
    rw [daySum, daySum_const (n := n) (fun k hk => h k (by omega)), h n (by omega)]
    rw [Rat.natCast_add]; grind
theorem rateS_nonneg {l : List Stp} (h : Rising l) (day : Int) : 0 ≤ rateS l day := by
  have : ∀ (l : List Stp) (r : Rat), 0 ≤ r → Rising l → 0 ≤ l.foldl (fun r s => if s.frm ≤ day then s.rate else r) r := by
    intro l
    induction l with
    | nil => intro r hr _; exact hr
    | cons s l ih =>
      intro r hr h
      rw [List.foldl_cons]
      refine ih _ ?_ h.2.2.2.2
      split
      · exact h.2.2.2.1
      · exact hr
  exact this l 0 (by decide) h
theorem daySum_nonneg {l : List Stp} (h : Rising l) (day : Int) : ∀ n, 0 ≤ daySum l day n
  | 0 => by rw [daySum]; decide
  | n + 1 => by
    have h1 := daySum_nonneg h day n
    have h2 := rateS_nonneg h (day + n)
    rw [daySum]; grind
/-- Between two days without a step behind the first one the rate stays. -/
theorem rateS_same {l : List Stp} {a b : Int} (h : ∀ s ∈ l, s.frm ≤ a ↔ s.frm ≤ b) : rateS l a = rateS l b := by
  unfold rateS
  have : ∀ (l : List Stp) (r : Rat), (∀ s ∈ l, s.frm ≤ a ↔ s.frm ≤ b) → l.foldl (fun r s => if s.frm ≤ a then s.rate else r) r = l.foldl (fun r s => if s.frm ≤ b then s.rate else r) r := by
    intro l
    induction l with
    | nil => intros; rfl
    | cons s l ih =>
      intro r h
      rw [List.foldl_cons, List.foldl_cons, ih _ (fun t ht => h t (by simp [ht]))]
      congr 1
      by_cases hs : s.frm ≤ a
      · rw [if_pos hs, if_pos ((h s (by simp)).1 hs)]
      · rw [if_neg hs, if_neg (fun hb => hs ((h s (by simp)).2 hb))]
  exact this l 0 h
end Go.Proofs.YtakoagjpmdcddaaGreatDoor

/-
The program's sum over steps is the sum over days; sizes; compound interest; plain Lean.
-/
namespace Go.Proofs.YtakoagjpmdcddaaGreatDoor
open Go.RowKit

/-- The end of the part of the interval that lies before step i. -/
def endAt (l : List Stp) (dst : Int) (i : Nat) : Int := if i < l.length then min dst (frmAt l i) else dst
/-- The program's sum, step by step. -/
def segTo (l : List Stp) (src dst : Int) : Nat → Rat
  | 0 => 0
  | i + 1 => if max src (frmAt l i) < endAt l dst (i + 1) then segTo l src dst i + (match l[i]? with | some s => s.rate | none => 0) * ((endAt l dst (i + 1) - max src (frmAt l i) : Int) : Rat) else segTo l src dst i

theorem segTo_add {l : List Stp} {src dst : Int} {i : Nat} {s : Stp} (hs : l[i]? = some s) (h : max src s.frm < endAt l dst (i + 1)) : segTo l src dst (i + 1) = segTo l src dst i + s.rate * ((endAt l dst (i + 1) - max src s.frm : Int) : Rat) := by
  have hf : frmAt l i = s.frm := by unfold frmAt; rw [hs]
  rw [segTo, hf, if_pos h, hs]
theorem segTo_skip {l : List Stp} {src dst : Int} {i : Nat} {s : Stp} (hs : l[i]? = some s) (h : ¬ max src s.frm < endAt l dst (i + 1)) : segTo l src dst (i + 1) = segTo l src dst i := by
  have hf : frmAt l i = s.frm := by unfold frmAt; rw [hs]
  rw [segTo, hf, if_neg h]

theorem rateS_at {l : List Stp} (h : Rising l) {day : Int} {i : Nat} {s : Stp} (hs : l[i]? = some s) (h1 : s.frm ≤ day) (h2 : i + 1 < l.length → day < frmAt l (i + 1)) : rateS l day = s.rate := by
  by_cases hi : i + 1 < l.length
  · have hn : l[i + 1]? = some l[i + 1] := List.getElem?_eq_getElem hi
    have hf : frmAt l (i + 1) = l[i + 1].frm := by unfold frmAt; rw [hn]
    have := h2 hi
    rw [rateS_stop h hn (by omega), fold_step hs, if_pos h1]
  · have hlt := (List.getElem?_eq_some_iff.1 hs).1
    have e : l.take (i + 1) = l := List.take_of_length_le (by omega)
    unfold rateS
    rw [← e, fold_step hs, if_pos h1]
theorem rateS_first {l : List Stp} (h : Rising l) {day : Int} (h1 : 0 < l.length → day < frmAt l 0) : rateS l day = 0 := by
  cases l with
  | nil => rfl
  | cons s l =>
    have := h1 (by simp)
    rw [rateS_stop h (i := 0) (s := s) rfl (by exact this)]; rfl
theorem frm_next {l : List Stp} (h : Rising l) {i : Nat} (hi : i + 1 < l.length) : frmAt l i < frmAt l (i + 1) := by
  have h0 : l[i]? = some l[i] := List.getElem?_eq_getElem (by omega)
  have h1 : l[i + 1]? = some l[i + 1] := List.getElem?_eq_getElem hi
  have := rising_take h h0 l[i + 1] (by rw [drop_at h1]; exact List.mem_cons_self)
  unfold frmAt
  rw [h0, h1]; exact this

theorem seg_days {l : List Stp} (h : Rising l) {src dst : Int} : ∀ i, i ≤ l.length → segTo l src dst i = daySum l src (endAt l dst i - src).toNat
  | 0, _ => by
    rw [segTo, daySum_const (r := 0) (fun k hk => rateS_first h fun hl => ?_)]
    · grind
    · have he : endAt l dst 0 = min dst (frmAt l 0) := by unfold endAt; rw [if_pos hl]
      rw [he] at hk; omega
  | i + 1, hi => by
    have ih := seg_days h (src := src) (dst := dst) i (by omega)
    have hs : l[i]? = some l[i] := List.getElem?_eq_getElem (by omega)
    obtain ⟨s, hse⟩ : ∃ s, s = l[i] := ⟨_, rfl⟩
    rw [← hse] at hs
    have hf : frmAt l i = s.frm := by unfold frmAt; rw [hs]
    have e0 : endAt l dst i = min dst s.frm := by unfold endAt; rw [if_pos (by omega), hf]
    have e1 : endAt l dst (i + 1) ≤ dst ∧ (i + 1 < l.length → endAt l dst (i + 1) ≤ frmAt l (i + 1)) ∧ min dst s.frm ≤ endAt l dst (i + 1) := by
      unfold endAt
      split
      · rename_i hh
        have := frm_next h hh
        rw [hf] at this
        omega
      · omega
    rw [e0] at ih
    obtain ⟨e2, e3, e4⟩ := e1
    by_cases hlt : max src s.frm < endAt l dst (i + 1)
    · rw [segTo_add hs hlt, ih]
      have hd : (endAt l dst (i + 1) - src).toNat = (min dst s.frm - src).toNat + (endAt l dst (i + 1) - max src s.frm).toNat := by omega
      rw [hd, daySum_add]
      congr 1
      rw [daySum_const (r := s.rate) (fun k hk => rateS_at h hs (by omega) (fun hl => by have := e3 hl; omega))]
      congr 1
      have : ((endAt l dst (i + 1) - max src s.frm : Int)) = (((endAt l dst (i + 1) - max src s.frm).toNat : Nat) : Int) := by omega
      rw [this, Rat.intCast_natCast]
      rfl
    · rw [segTo_skip hs hlt, ih]
      congr 1
      -- the end of this part is its beginning
      by_cases hl : i + 1 < l.length
      · have := frm_next h hl
        have he : endAt l dst (i + 1) = min dst (frmAt l (i + 1)) := by unfold endAt; rw [if_pos hl]
        rw [hf] at this
        omega
      · have he : endAt l dst (i + 1) = dst := by unfold endAt; rw [if_neg hl]
        omega
theorem seg_all {l : List Stp} (h : Rising l) {src dst : Int} : segTo l src dst l.length = daySum l src (dst - src).toNat := by
  rw [seg_days h l.length (Nat.le_refl _)]
  unfold endAt
  rw [if_neg (by omega)]

/-- Sizes. -/
def RatesIn (N : Nat) (l : List Stp) : Prop := ∀ s ∈ l, Sized N s.rate
theorem seg_sized {l : List Stp} {N : Nat} (hN : RatesIn N l) {src dst : Int} (h1 : -1099511627776 ≤ src ∧ src ≤ 1099511627776) (h2 : -1099511627776 ≤ dst ∧ dst ≤ 1099511627776) : ∀ i, Sized (i * (N + 9) + 1) (segTo l src dst i)
  | 0 => by rw [segTo, Nat.zero_mul]; exact sized_zero
  | i + 1 => by
    have ih := seg_sized hN h1 h2 i
    by_cases hs : ∃ s, l[i]? = some s
    · obtain ⟨s, hs⟩ := hs
      by_cases hlt : max src s.frm < endAt l dst (i + 1)
      · rw [segTo_add hs hlt]
        have hb : endAt l dst (i + 1) ≤ dst := by unfold endAt; split <;> omega
        exact (ih.add ((hN s (List.mem_of_getElem? hs)).mul (sized_int8 (n := endAt l dst (i + 1) - max src s.frm) (by omega)))).mono (by rw [Nat.add_mul]; omega)
      · rw [segTo_skip hs hlt]
        exact ih.mono (by rw [Nat.add_mul]; omega)
    · have hn : l[i]? = none := by
        cases hh : l[i]? with
        | none => rfl
        | some s => exact absurd ⟨s, hh⟩ hs
      rw [segTo, hn]
      split
      · rw [Rat.zero_mul, Rat.add_zero]; exact ih.mono (by rw [Nat.add_mul]; omega)
      · exact ih.mono (by rw [Nat.add_mul]; omega)
theorem days_sized {l : List Stp} {N : Nat} (h : Rising l) (hl : l.length ≤ 64) (hN : RatesIn N l) {src : Int} {n : Nat} (h1 : -549755813888 ≤ src ∧ src ≤ 549755813888) (h2 : n ≤ 549755813888) : Sized (64 * (N + 9) + 1) (daySum l src n) := by
  have := seg_sized hN (src := src) (dst := src + n) (by omega) (by omega) l.length
  rw [seg_all h, show (src + (n : Int) - src).toNat = n by omega] at this
  exact this.mono (by have := Nat.mul_le_mul_right (N + 9) hl; omega)

/-- The interest of an interval on a principal of 1. -/
def simpS (l : List Stp) (src dst base : Int) : Rat := daySum l src (dst - src).toNat / (base : Rat)
/-- Compound interest: the principal after k periods. -/
def compTo (l : List Stp) (base every src dst : Int) (p : Rat) : Nat → Rat
  | 0 => p
  | k + 1 => compTo l base every src dst p k + compTo l base every src dst p k * simpS l (min dst (src + k * every)) (min dst (src + (k + 1) * every)) base
theorem compTo_step {l : List Stp} {base every src dst : Int} {p : Rat} (k : Nat) : compTo l base every src dst p (k + 1) = compTo l base every src dst p k + compTo l base every src dst p k * simpS l (min dst (src + k * every)) (min dst (src + (k + 1) * every)) base := rfl
theorem simpS_empty {l : List Stp} {src dst base : Int} (h : dst ≤ src) : simpS l src dst base = 0 := by
  unfold simpS
  rw [show (dst - src).toNat = 0 by omega, daySum, Rat.div_def, Rat.zero_mul]
theorem compTo_stay {l : List Stp} {base every src dst : Int} {p : Rat} (he : 0 ≤ every) {k : Nat} (h : dst ≤ src + k * every) : ∀ m : Nat, compTo l base every src dst p (k + m) = compTo l base every src dst p k
  | 0 => rfl
  | m + 1 => by
    have h1 : dst ≤ src + ((k + m : Nat) : Int) * every := by
      have : (0 : Int) ≤ (m : Int) * every := Int.mul_nonneg (by omega) he
      rw [Int.natCast_add, Int.add_mul]; omega
    rw [← Nat.add_assoc, compTo_step, compTo_stay he h m, simpS_empty (by omega), Rat.mul_zero, Rat.add_zero]
/-- What is there at the end. -/
def compS (l : List Stp) (base every src dst : Int) (p : Rat) : Rat := compTo l base every src dst p (dst - src).toNat
theorem comp_end {l : List Stp} {base every src dst : Int} {p : Rat} (he : 1 ≤ every) {k : Nat} (h : dst ≤ src + k * every) (h2 : k = 0 ∨ src + ((k : Int) - 1) * every < dst) : compS l base every src dst p = compTo l base every src dst p k := by
  have hk : k ≤ (dst - src).toNat := by
    rcases h2 with h2 | h2
    · omega
    · rcases Nat.eq_zero_or_pos k with h0 | h0
      · omega
      · have : ((k : Int) - 1) * 1 ≤ ((k : Int) - 1) * every := Int.mul_le_mul_of_nonneg_left he (by omega)
        omega
  unfold compS
  rw [show (dst - src).toNat = k + ((dst - src).toNat - k) by omega, compTo_stay (by omega) h]
theorem simp_sized {l : List Stp} {N : Nat} (h : Rising l) (hl : l.length ≤ 64) (hN : RatesIn N l) {src dst base : Int} (h1 : 0 ≤ src) (h2 : dst ≤ 549755813888) (hb : base.natAbs < 18446744073709551616) (hs : src ≤ 549755813888) : Sized (64 * (N + 9) + 9) (simpS l src dst base) := by
  unfold simpS
  exact ((days_sized h hl hN ⟨by omega, by omega⟩ (by omega)).div (sized_int8 hb)).mono (by omega)
theorem comp_sized {l : List Stp} {N M : Nat} (h : Rising l) (hl : l.length ≤ 64) (hN : RatesIn N l) {src dst base every : Int} {p : Rat} (hp : Sized M p) (h1 : 0 ≤ src) (h2 : dst ≤ 549755813888) (h0 : 0 ≤ dst) (hb : base.natAbs < 18446744073709551616) (he : 0 ≤ every) : ∀ k : Nat, Sized (M + k * (64 * (N + 9) + 11)) (compTo l base every src dst p k)
  | 0 => by rw [compTo, Nat.zero_mul]; exact hp
  | k + 1 => by
    have ih := comp_sized h hl hN hp h1 h2 h0 hb he k
    have hk : 0 ≤ (k : Int) * every := Int.mul_nonneg (by omega) he
    have hx := simp_sized h hl hN (src := min dst (src + k * every)) (dst := min dst (src + (k + 1) * every)) (base := base) (by omega) (by omega) hb (by omega)
    have hy := ih.mul (sized_one.add hx)
    rw [compTo_step]
    have e : compTo l base every src dst p k + compTo l base every src dst p k * simpS l (min dst (src + k * every)) (min dst (src + (k + 1) * every)) base = compTo l base every src dst p k * (1 + simpS l (min dst (src + k * every)) (min dst (src + (k + 1) * every)) base) := by grind
    rw [e]
    exact hy.mono (by rw [Nat.add_mul]; omega)
end Go.Proofs.YtakoagjpmdcddaaGreatDoor

/-
The laws of interest; the laws' steps, built out of numbers; plain Lean.
-/
namespace Go.Proofs.YtakoagjpmdcddaaGreatDoor
open Go.RowKit

theorem simpS_add {l : List Stp} {a b c base : Int} (h1 : a ≤ b) (h2 : b ≤ c) : simpS l a b base + simpS l b c base = simpS l a c base := by
  unfold simpS
  rw [show (c - a).toNat = (b - a).toNat + (c - b).toNat by omega, daySum_add, show a + ((b - a).toNat : Int) = b by omega]
  grind
theorem simpS_nonneg {l : List Stp} (h : Rising l) {a b base : Int} (hb : 0 < base) : 0 ≤ simpS l a b base := by
  unfold simpS
  have h1 := daySum_nonneg h a (b - a).toNat
  have h2 : (0 : Rat) < (base : Rat) := by exact_mod_cast hb
  rw [Rat.div_def]
  exact Rat.mul_nonneg h1 (Rat.le_of_lt (Rat.inv_pos.2 h2))

theorem comp_pre {l : List Stp} {base n a b c : Int} {p : Rat} (hn : 0 ≤ n) (hbc : b ≤ c) {q : Nat} (hb : a + q * n ≤ b) : ∀ k : Nat, k ≤ q → compTo l base n a c p k = compTo l base n a b p k
  | 0, _ => rfl
  | k + 1, hk => by
    have hq : ((k : Int) + 1) * n ≤ q * n := Int.mul_le_mul_of_nonneg_right (by omega) hn
    have hq2 : ((k : Int)) * n ≤ q * n := Int.mul_le_mul_of_nonneg_right (by omega) hn
    rw [compTo_step, compTo_step, comp_pre hn hbc hb k (by omega), show min c (a + (k : Int) * n) = min b (a + k * n) by omega, show min c (a + ((k : Int) + 1) * n) = min b (a + ((k : Int) + 1) * n) by omega]
theorem comp_post {l : List Stp} {base n a b c : Int} {p : Rat} {q : Nat} (hb : b = a + q * n) : ∀ m : Nat, compTo l base n a c p (q + m) = compTo l base n b c (compTo l base n a c p q) m
  | 0 => rfl
  | m + 1 => by
    rw [← Nat.add_assoc, compTo_step, compTo_step, comp_post hb m]
    rw [show a + ((q + m : Nat) : Int) * n = b + m * n by rw [hb, Int.natCast_add, Int.add_mul]; omega, show a + (((q + m : Nat) : Int) + 1) * n = b + ((m : Int) + 1) * n by rw [hb, Int.natCast_add, Int.add_mul, Int.add_mul, Int.add_mul]; omega]
/-- Compounding over two intervals, the first one of whole periods. -/
theorem comp_chain {l : List Stp} {base n a b c : Int} {p : Rat} (hn : 1 ≤ n) {q : Nat} (hb : b = a + q * n) (hbc : b ≤ c) : compS l base n a c p = compS l base n b c (compS l base n a b p) := by
  have hq : (q : Int) * 1 ≤ q * n := Int.mul_le_mul_of_nonneg_left hn (by omega)
  have e1 : compS l base n a b p = compTo l base n a c p q := by
    rw [comp_pre (by omega) hbc (by omega) q (Nat.le_refl _)]
    refine comp_end hn (by omega) ?_
    rcases Nat.eq_zero_or_pos q with h0 | h0
    · exact .inl h0
    · right
      rw [Int.sub_mul]; omega
  rw [e1]
  unfold compS
  obtain ⟨m, hm⟩ : ∃ m, (c - a).toNat = q + m := ⟨(c - a).toNat - q, by omega⟩
  rw [hm, comp_post hb]
  -- both are at their end
  have hle : (c - b).toNat ≤ m := by omega
  rw [show m = (c - b).toNat + (m - (c - b).toNat) by omega, compTo_stay (by omega) ?_]
  have : ((c - b).toNat : Int) * 1 ≤ ((c - b).toNat : Int) * n := Int.mul_le_mul_of_nonneg_left hn (by omega)
  omega
/-- How many periods there are. -/
theorem comp_count {n a b : Int} (hn : 1 ≤ n) (hab : a ≤ b) (h : b - a ≤ 64 * n) : ∃ k : Nat, k ≤ 64 ∧ b ≤ a + k * n ∧ (k = 0 ∨ a + ((k : Int) - 1) * n < b) := by
  have h1 := Int.emod_add_mul_ediv (b - a + n - 1) n
  have h2 := Int.emod_nonneg (b - a + n - 1) (show n ≠ 0 by omega)
  have h3 := Int.emod_lt_of_pos (b - a + n - 1) (show 0 < n by omega)
  have h4 : 0 ≤ (b - a + n - 1) / n := Int.ediv_nonneg (by omega) (by omega)
  obtain ⟨k, hk⟩ := Int.eq_ofNat_of_zero_le h4
  rw [hk] at h1
  have e : n * (k : Int) = (k : Int) * n := Int.mul_comm _ _
  refine ⟨k, ?_, by omega, .inr (by rw [Int.sub_mul]; omega)⟩
  have h5 : (k : Int) < 65 := by
    refine Int.lt_of_mul_lt_mul_right (a := n) ?_ (by omega)
    omega
  omega
theorem comp_one {l : List Stp} {base n a b : Int} {p : Rat} (hn : 1 ≤ n) (h : b ≤ a + n) (hab : a ≤ b) : compS l base n a b p = p + p * simpS l a b base := by
  by_cases h0 : a = b
  · subst h0
    unfold compS
    rw [show (a - a).toNat = 0 by omega, compTo, simpS_empty (Int.le_refl _), Rat.mul_zero, Rat.add_zero]
  · rw [comp_end (k := 1) hn (by omega) (.inr (by omega)), compTo_step]
    show p + p * simpS l (min b (a + (0 : Int) * n)) (min b (a + ((0 : Int) + 1) * n)) base = _
    rw [show min b (a + (0 : Int) * n) = a by omega, show min b (a + ((0 : Int) + 1) * n) = b by omega]
theorem comp_least {l : List Stp} (hl : Rising l) {base n a b : Int} {p : Rat} (hp : 0 ≤ p) (hb : 0 < base) (hn : 0 ≤ n) (hab : a ≤ b) : ∀ k : Nat, p + p * simpS l a (min b (a + k * n)) base ≤ compTo l base n a b p k
  | 0 => by
    rw [compTo, simpS_empty (by omega), Rat.mul_zero, Rat.add_zero]; exact Rat.le_refl
  | k + 1 => by
    have ih := comp_least hl hp hb hn hab k
    have hk : 0 ≤ (k : Int) * n := Int.mul_nonneg (by omega) hn
    have hk1 : ((k : Int) + 1) * n = k * n + n := by rw [Int.add_mul, Int.one_mul]
    have hs := simpS_add (l := l) (base := base) (a := a) (b := min b (a + k * n)) (c := min b (a + ((k : Int) + 1) * n)) (by omega) (by omega)
    rw [compTo_step, show ((k + 1 : Nat) : Int) = (k : Int) + 1 by omega, ← hs]
    have h1 := simpS_nonneg hl (a := a) (b := min b (a + (k : Int) * n)) hb
    have h2 := simpS_nonneg hl (a := min b (a + (k : Int) * n)) (b := min b (a + ((k : Int) + 1) * n)) hb
    generalize simpS l a (min b (a + (k : Int) * n)) base = x at *
    generalize simpS l (min b (a + (k : Int) * n)) (min b (a + ((k : Int) + 1) * n)) base = y at *
    generalize compTo l base n a b p k = c at *
    have h3 := Rat.mul_nonneg (Rat.mul_nonneg hp h1) h2
    have h4 : (p + p * x) * y ≤ c * y := Rat.mul_le_mul_of_nonneg_right ih h2
    grind
theorem comp_more {l : List Stp} (hl : Rising l) {base n a b : Int} {p : Rat} (hp : 0 ≤ p) (hb : 0 < base) (hn : 1 ≤ n) (hab : a ≤ b) : p + p * simpS l a b base ≤ compS l base n a b p := by
  have := comp_least hl hp hb (by omega : (0 : Int) ≤ n) hab (b - a).toNat
  have h1 : ((b - a).toNat : Int) * 1 ≤ ((b - a).toNat : Int) * n := Int.mul_le_mul_of_nonneg_left hn (by omega)
  rw [show min b (a + ((b - a).toNat : Int) * n) = b by omega] at this
  exact this

/-- Sorted steps are accepted. -/
theorem rising_get : ∀ {l : List Stp}, Rising l → ∀ {i : Nat} {s : Stp}, l[i]? = some s → 0 ≤ s.frm ∧ s.frm ≤ 1048576 ∧ 0 ≤ s.rate
  | [], _, i, s, hs => by simp at hs
  | a :: l, h, 0, s, hs => by
    have : a = s := by simpa using hs
    subst this
    exact ⟨h.2.1, h.2.2.1, h.2.2.2.1⟩
  | a :: l, h, i + 1, s, hs => rising_get h.2.2.2.2 (by simpa using hs)
theorem rising_check {l : List Stp} (h : Rising l) (hl : l.length ≤ 64) : checkS l = 0 := by
  refine checkS_ok hl ?_
  have : ∀ i, i ≤ l.length → checkTo l i = 0 := by
    intro i
    induction i with
    | zero => intro _; rfl
    | succ i ih =>
      intro hi
      have hs : l[i]? = some l[i] := List.getElem?_eq_getElem (by omega)
      obtain ⟨h1, h2, h3⟩ := rising_get h hs
      rw [checkTo_step (ih (by omega)) hs]
      refine stepErr_ok ?_ ?_ (sgn_nonneg h3)
      · unfold dayB; rw [decide_eq_true h1, decide_eq_true h2]; rfl
      · rintro ⟨h4, h5⟩
        have := frm_next h (i := i - 1) (by omega)
        rw [show i - 1 + 1 = i by omega] at this
        have hf : frmAt l i = l[i].frm := by unfold frmAt; rw [hs]
        omega
  exact this _ (Nat.le_refl _)
theorem rising_snoc {l : List Stp} {s : Stp} (h : Rising l) (h1 : ∀ t ∈ l, t.frm < s.frm) (h2 : 0 ≤ s.frm ∧ s.frm ≤ 1048576 ∧ 0 ≤ s.rate) : Rising (l ++ [s]) := by
  induction l with
  | nil => exact ⟨by simp, h2.1, h2.2.1, h2.2.2, trivial⟩
  | cons a l ih =>
    refine ⟨fun t ht => ?_, h.2.1, h.2.2.1, h.2.2.2.1, ih h.2.2.2.2 (fun t ht => h1 t (by simp [ht]))⟩
    rcases List.mem_append.1 ht with ht | ht
    · exact h.1 t ht
    · have : t = s := by simpa using ht
      subst this
      exact h1 a (by simp)

/-- Two words. -/
structure Duo where
  a : Nat
  b : Nat
def Duo.enc (t : Duo) : List Value := [.int .u16 (t.a : Nat), .int .u16 (t.b : Nat)]
def Duo.ok (t : Duo) : Prop := t.a ≤ 65535 ∧ t.b ≤ 65535
abbrev Duos (w : World) (v : Value) (ts : List Duo) : Prop := Slc Duo.enc 2 w v ts
theorem duo_len (t : Duo) : t.enc.length = 2 := rfl
def duoR (t : Duo) : Rat := mkRat ((t.b : Int) % 12) 100
def duoS (day : Nat) (t : Duo) : Stp := ⟨((day + t.a % 60 : Nat) : Int), negB (duoR t), numB (duoR t), denomB (duoR t)⟩
def addS (x : List Stp × Nat) (t : Duo) : List Stp × Nat := (x.1 ++ [duoS x.2 t], x.2 + t.a % 60 + 1)
def stepsFold (ts : List Duo) : List Stp × Nat := ts.foldl addS ([], 0)
/-- What the law's builder makes of numbers. -/
def stepsOf (ts : List Duo) : List Stp := (stepsFold (ts.take 5)).1
theorem duoS_rate (day : Nat) (t : Duo) : (duoS day t).rate = duoR t := dec_enc _
theorem duoR_sized (t : Duo) : Sized 8 (duoR t) := by
  have hp : (256 : Nat) ^ 8 = 18446744073709551616 := by decide
  exact sized_mkRat (by omega) (bytesOf_length _ _ (by omega)) (bytesOf_length _ _ (by omega))
theorem duoR_nonneg (t : Duo) : 0 ≤ duoR t := by
  unfold duoR
  rw [← Rat.num_nonneg, ← Rat.normalize_eq_mkRat (by decide), Rat.num_normalize]
  exact Int.ediv_nonneg (by omega) (by omega)
theorem stepsFold_snoc (ts : List Duo) (t : Duo) : stepsFold (ts ++ [t]) = addS (stepsFold ts) t := by
  unfold stepsFold; rw [List.foldl_append]; rfl
theorem stepsFold_all (ts : List Duo) (hl : ts.length ≤ 1000) : Rising (stepsFold ts).1 ∧ (∀ s ∈ (stepsFold ts).1, s.frm < (stepsFold ts).2) ∧ (stepsFold ts).2 ≤ 60 * ts.length ∧ (stepsFold ts).1.length = ts.length ∧ (∀ s ∈ (stepsFold ts).1, s.num.length ≤ 8 ∧ s.den.length ≤ 8 ∧ Sized 8 s.rate) := by
  induction ts using rev_ind with
  | h0 => exact ⟨trivial, by simp [stepsFold], by simp [stepsFold], rfl, by simp [stepsFold]⟩
  | h1 l t ih =>
    rw [List.length_append] at hl
    simp only [List.length_cons, List.length_nil] at hl
    obtain ⟨h1, h2, h3, h4, h5⟩ := ih (by omega)
    rw [stepsFold_snoc]
    generalize stepsFold l = x at *
    have hf : (duoS x.2 t).frm = ((x.2 + t.a % 60 : Nat) : Int) := rfl
    refine ⟨rising_snoc h1 (fun s hs => ?_) ⟨?_, ?_, ?_⟩, fun s hs => ?_, ?_, ?_, fun s hs => ?_⟩
    · have := h2 s hs; rw [hf]; omega
    · rw [hf]; omega
    · rw [hf]; omega
    · rw [duoS_rate]; exact duoR_nonneg t
    · show s.frm < ((x.2 + t.a % 60 + 1 : Nat) : Int)
      rcases List.mem_append.1 hs with hs | hs
      · have := h2 s hs; omega
      · have : s = duoS x.2 t := by simpa using hs
        subst this
        rw [hf]; omega
    · show x.2 + t.a % 60 + 1 ≤ 60 * (l ++ [t]).length
      rw [List.length_append]; simp only [List.length_cons, List.length_nil]; omega
    · show (x.1 ++ [duoS x.2 t]).length = (l ++ [t]).length
      rw [List.length_append, List.length_append, h4]; rfl
    · rcases List.mem_append.1 hs with hs | hs
      · exact h5 s hs
      · have : s = duoS x.2 t := by simpa using hs
        subst this
        have hz := duoR_sized t
        exact ⟨hz.num, hz.denom, by rw [duoS_rate]; exact hz⟩
theorem stepsOf_all (ts : List Duo) : Rising (stepsOf ts) ∧ (stepsOf ts).length ≤ 5 ∧ checkS (stepsOf ts) = 0 ∧ (∀ s ∈ stepsOf ts, s.num.length ≤ 8 ∧ s.den.length ≤ 8) ∧ RatesIn 8 (stepsOf ts) := by
  have hl : (ts.take 5).length ≤ 5 := List.length_take_le _ _
  obtain ⟨h1, _, _, h4, h5⟩ := stepsFold_all (ts.take 5) (by omega)
  have h6 : (stepsOf ts).length ≤ 5 := by unfold stepsOf; omega
  exact ⟨h1, h6, rising_check h1 (by omega), fun s hs => ⟨(h5 s hs).1, (h5 s hs).2.1⟩, fun s hs => (h5 s hs).2.2⟩
end Go.Proofs.YtakoagjpmdcddaaGreatDoor

/-
The document's sum: from boundary dst boundary; plain Lean.
-/
namespace Go.Proofs.YtakoagjpmdcddaaGreatDoor
open Go.RowKit

/-- The next boundary behind a day, as the loop finds it. -/
def endTo (l : List Stp) (src dst : Int) : Nat → Int
  | 0 => dst
  | i + 1 => if src < frmAt l i ∧ frmAt l i < endTo l src dst i then frmAt l i else endTo l src dst i
theorem endTo_all {l : List Stp} {src dst : Int} (h : src < dst) : ∀ i, i ≤ l.length → src < endTo l src dst i ∧ endTo l src dst i ≤ dst ∧ ∀ j < i, frmAt l j ≤ src ∨ endTo l src dst i ≤ frmAt l j
  | 0, _ => ⟨h, Int.le_refl _, fun j hj => by omega⟩
  | i + 1, hi => by
    obtain ⟨h1, h2, h3⟩ := endTo_all (l := l) h i (by omega)
    rw [endTo]
    split
    · rename_i hc
      refine ⟨hc.1, by omega, fun j hj => ?_⟩
      by_cases hji : j = i
      · subst hji; right; omega
      · rcases h3 j (by omega) with h4 | h4
        · exact .inl h4
        · right; omega
    · rename_i hc
      refine ⟨h1, h2, fun j hj => ?_⟩
      by_cases hji : j = i
      · subst hji
        by_cases h5 : src < frmAt l j
        · right
          exact Int.not_lt.1 fun h6 => hc ⟨h5, h6⟩
        · left; omega
      · exact h3 j (by omega)
theorem endTo_take {l : List Stp} {src dst : Int} {i : Nat} (h1 : src < frmAt l i) (h2 : frmAt l i < endTo l src dst i) : endTo l src dst (i + 1) = frmAt l i := by rw [endTo, if_pos ⟨h1, h2⟩]
theorem endTo_skip {l : List Stp} {src dst : Int} {i : Nat} (h : ¬ (src < frmAt l i ∧ frmAt l i < endTo l src dst i)) : endTo l src dst (i + 1) = endTo l src dst i := by rw [endTo, if_neg h]
theorem days_part {l : List Stp} {a src dst : Int} (h0 : a ≤ src) (h : src < dst) : daySum l a (endTo l src dst l.length - a).toNat = daySum l a (src - a).toNat + rateS l src * ((endTo l src dst l.length - src : Int) : Rat) := by
  obtain ⟨h1, h2, h3⟩ := endTo_all (l := l) h l.length (Nat.le_refl _)
  generalize endTo l src dst l.length = e at *
  rw [show (e - a).toNat = (src - a).toNat + (e - src).toNat by omega, daySum_add]
  congr 1
  rw [show a + ((src - a).toNat : Int) = src by omega]
  rw [daySum_const (r := rateS l src) (fun k hk => rateS_same fun s hs => ?_)]
  · congr 1
    have : (e - src : Int) = (((e - src).toNat : Nat) : Int) := by omega
    rw [this, Rat.intCast_natCast]
    rfl
  · obtain ⟨j, hj, hjs⟩ := List.mem_iff_getElem.1 hs
    have hf : frmAt l j = s.frm := by unfold frmAt; rw [List.getElem?_eq_getElem hj, hjs]
    have := h3 j hj
    rw [hf] at this
    omega
theorem rateS_sized {l : List Stp} {N : Nat} (h1 : 1 ≤ N) (hN : RatesIn N l) (day : Int) : Sized N (rateS l day) := by
  unfold rateS
  have : ∀ (l : List Stp) (r : Rat), Sized N r → RatesIn N l → Sized N (l.foldl (fun r s => if s.frm ≤ day then s.rate else r) r) := by
    intro l
    induction l with
    | nil => intro r h _; exact h
    | cons s l ih =>
      intro r h hl
      rw [List.foldl_cons]
      refine ih _ ?_ (fun t ht => hl t (by simp [ht]))
      split
      · exact hl s (by simp)
      · exact h
  exact this l 0 (sized_zero.mono h1) hN
end Go.Proofs.YtakoagjpmdcddaaGreatDoor
