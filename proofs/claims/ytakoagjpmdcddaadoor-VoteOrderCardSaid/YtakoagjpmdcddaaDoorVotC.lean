/-
Votes counted voter by voter; the laws' voters; plain Lean.
-/
import Derived.Test.YtakoagjpmdcddaaDoorVotB
import Derived.Test.YtakoagjpmdcddaaDoorVI
namespace Go.Proofs.YtakoagjpmdcddaaDoor
open Go.RowKit

theorem amountV_snoc (l : List Vtr) (v : Vtr) : amountV (l ++ [v]) = if v.ex then amountV l else amountV l + v.amount := by
  unfold amountV; rw [List.foldl_append]; rfl
theorem forOf_snoc (f : Int → Bool) (l : List Vtr) (v : Vtr) : forOf f (l ++ [v]) = if v.ex then forOf f l else if f v.party then forOf f l + v.amount else forOf f l := by
  unfold forOf; rw [List.foldl_append]; rfl
theorem parts_app : ∀ (l : List Vtr) (acc : List Int) (v : Vtr), parts (l ++ [v]) acc = if v.ex || (parts l acc).contains v.party then parts l acc else parts l acc ++ [v.party]
  | [], acc, v => rfl
  | u :: l, acc, v => by rw [List.cons_append, parts, parts, parts_app l]
theorem parts_snoc (l : List Vtr) (v : Vtr) : parts (l ++ [v]) [] = if v.ex || (parts l []).contains v.party then parts l [] else parts l [] ++ [v.party] := parts_app l [] v
/-- Is the party new? -/
def fresh (l : List Vtr) (p : Int) : Bool := l.all fun v => v.ex || !(v.party == p)
theorem fresh_parts (l : List Vtr) (p : Int) : fresh l p = !(parts l []).contains p := by
  rw [Bool.eq_iff_iff, Bool.not_eq_true', ← Bool.not_eq_true, List.contains_iff_mem, parts_mem]
  unfold fresh
  rw [List.all_eq_true]
  simp only [List.not_mem_nil, false_or]
  constructor
  · rintro h ⟨v, hv, h1, h2⟩
    have := h v hv
    rw [h1, Bool.false_or, Bool.not_eq_true', beq_eq_false_iff_ne] at this
    exact this h2
  · intro h v hv
    rw [Bool.or_eq_true]
    cases hx : v.ex with
    | true => exact .inl rfl
    | false =>
      right
      rw [Bool.not_eq_true', beq_eq_false_iff_ne]
      exact fun e => h ⟨v, hv, hx, e⟩
theorem yesP_snoc (l : List Vtr) (v : Vtr) (p : Int) (r : Rat) : yesP (l ++ [v]) p r = (yesP l p r && !blocks p r v) := by
  unfold yesP; rw [List.all_append]; simp
/-- A party that does not vote consents. -/
theorem yesP_absent {l : List Vtr} {p : Int} {r : Rat} (h : (parts l []).contains p = false) : yesP l p r = true := by
  refine yesP_iff.2 fun v hv h1 h2 => ?_
  have : p ∈ parts l [] := (parts_mem l [] p).2 (.inr ⟨v, hv, h2, h1⟩)
  rw [List.contains_iff_mem.2 this] at h; cases h

/-- Four words. -/
structure Qua where
  a : Nat
  b : Nat
  c : Nat
  d : Nat
def Qua.enc (t : Qua) : List Value := [.int .u16 (t.a : Nat), .int .u16 (t.b : Nat), .int .u16 (t.c : Nat), .int .u16 (t.d : Nat)]
def Qua.ok (t : Qua) : Prop := t.a ≤ 65535 ∧ t.b ≤ 65535 ∧ t.c ≤ 65535 ∧ t.d ≤ 65535
abbrev Quas (w : World) (v : Value) (ts : List Qua) : Prop := Slc Qua.enc 4 w v ts
theorem qua_len (t : Qua) : t.enc.length = 4 := rfl
def quaR (t : Qua) : Rat := mkRat ((t.c : Int) % 14) 12
def quaV (t : Qua) : Vtr := ⟨((t.a % 5 : Nat) : Int), negB (amountR t.b), numB (amountR t.b), denomB (amountR t.b), negB (quaR t), numB (quaR t), denomB (quaR t), decide (t.d % 6 = 0)⟩
def votersOf (ts : List Qua) : List Vtr := (ts.take 7).map quaV
theorem quaV_amount (t : Qua) : (quaV t).amount = amountR t.b := dec_enc _
theorem quaV_ask (t : Qua) : (quaV t).ask = quaR t := dec_enc _
theorem quaR_sized (t : Qua) : Sized 8 (quaR t) := by
  have hp : (256 : Nat) ^ 8 = 18446744073709551616 := by decide
  exact sized_mkRat (by omega) (bytesOf_length _ _ (by omega)) (bytesOf_length _ _ (by omega))
theorem quaR_nonneg (t : Qua) : 0 ≤ quaR t := by
  unfold quaR
  rw [← Rat.num_nonneg, ← Rat.normalize_eq_mkRat (by decide), Rat.num_normalize]
  exact Int.ediv_nonneg (by omega) (by omega)
def Vtr.small (v : Vtr) (n : Nat) : Prop := v.aa.length ≤ n ∧ v.ab.length ≤ n ∧ v.ka.length ≤ n ∧ v.kb.length ≤ n
theorem votersOf_all {ts : List Qua} (hok : ∀ t ∈ ts, t.ok) : (votersOf ts).length ≤ 7 ∧ ∀ v ∈ votersOf ts, v.small 8 ∧ 0 ≤ v.party ∧ v.party ≤ 4 ∧ 0 ≤ v.amount ∧ 0 ≤ v.ask := by
  unfold votersOf
  refine ⟨by rw [List.length_map]; exact List.length_take_le _ _, fun v hv => ?_⟩
  obtain ⟨t, ht, rfl⟩ := List.mem_map.1 hv
  have hb := (hok t (List.mem_of_mem_take ht)).2.1
  have h1 := amountR_sized hb
  have h2 := quaR_sized t
  refine ⟨⟨h1.num, h1.denom, h2.num, h2.denom⟩, ?_, ?_, ?_, ?_⟩
  · show (0 : Int) ≤ ((t.a % 5 : Nat) : Int); omega
  · show ((t.a % 5 : Nat) : Int) ≤ 4; omega
  · rw [quaV_amount]; exact amountR_nonneg _
  · rw [quaV_ask]; exact quaR_nonneg _
theorem checkV_good {l : List Vtr} (hl : l.length ≤ 64) (h : ∀ v ∈ l, 0 ≤ v.party ∧ 0 ≤ v.amount ∧ 0 ≤ v.ask) : checkV l = 0 := by
  rw [checkV_short hl]
  clear hl
  induction l with
  | nil => rfl
  | cons v l ih =>
    obtain ⟨h1, h2, h3⟩ := h v (by simp)
    have he : vErr v = 0 := by
      unfold vErr
      rw [if_neg (by omega), if_neg (by
        have := sgn_nonneg h2
        have := sgn_nonneg h3
        omega)]
    rw [checkVTo, if_pos he]
    exact ih fun u hu => h u (by simp [hu])
theorem votersOf_check {ts : List Qua} (hok : ∀ t ∈ ts, t.ok) : checkV (votersOf ts) = 0 := by
  obtain ⟨h1, h2⟩ := votersOf_all hok
  exact checkV_good (by omega) fun v hv => ⟨(h2 v hv).2.1, (h2 v hv).2.2.2.1, (h2 v hv).2.2.2.2⟩
theorem votersOf_snoc {ts : List Qua} {k : Nat} {t : Qua} (h : ts[k]? = some t) : (ts.take (k + 1)).map quaV = (ts.take k).map quaV ++ [quaV t] := by rw [take_at h, List.map_append]; rfl
end Go.Proofs.YtakoagjpmdcddaaDoor
