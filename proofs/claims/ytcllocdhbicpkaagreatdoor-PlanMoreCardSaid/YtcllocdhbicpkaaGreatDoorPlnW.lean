/-
The search, round by round; plain Lean.
-/
import Derived.Test.YtcllocdhbicpkaaGreatDoorW0
import Derived.Test.YtcllocdhbicpkaaGreatDoorPlnT
namespace Go.Proofs.YtcllocdhbicpkaaGreatDoor
open Go.RowKit

/-- What is left behind k blocs that get what they need. -/
def leftK (value : Rat) (l : List Blc) (k : Nat) : Rat := (l.take k).foldl (fun s b => s - b.total * need b) value
/-- The row behind k rounds. -/
def rowK (l : List Blc) (k : Nat) : List Rtr := (l.take k).map (fun b => rtrOf (need b)) ++ List.replicate (l.length - k) rtr0
theorem rtrOf_zero : rtrOf 0 = rtr0 := by unfold rtrOf rtr0; rw [enc00.1, enc00.2.1, enc00.2.2]
theorem rowK_len {l : List Blc} {k : Nat} (hk : k ≤ l.length) : (rowK l k).length = l.length := by
  unfold rowK; rw [List.length_append, List.length_map, List.length_take, List.length_replicate]; omega
theorem rowK_zero (l : List Blc) : rowK l 0 = List.replicate l.length rtr0 := by unfold rowK; simp
theorem rowK_at {l : List Blc} {k : Nat} (hk : k < l.length) : (rowK l k)[k]? = some rtr0 := by
  unfold rowK
  rw [List.getElem?_append_right (by rw [List.length_map, List.length_take]; omega), List.length_map, List.length_take, List.getElem?_replicate, if_pos (by omega)]
theorem set_mid {α : Type} (a : List α) (x y : α) (b : List α) (k : Nat) (hk : a.length = k) : (a ++ x :: b).set k y = a ++ y :: b := by
  subst hk; rw [List.set_append_right _ _ (Nat.le_refl _), Nat.sub_self, List.set_cons_zero]
theorem rowK_form {l : List Blc} {k : Nat} (hk : k < l.length) (x : Rtr) : (rowK l k).set k x = (l.take k).map (fun b => rtrOf (need b)) ++ x :: List.replicate (l.length - (k + 1)) rtr0 := by
  unfold rowK
  rw [show l.length - k = (l.length - (k + 1)) + 1 by omega, List.replicate_succ, set_mid _ _ _ _ _ (by rw [List.length_map, List.length_take]; omega)]
theorem rowK_go {l : List Blc} {k : Nat} {b : Blc} (h : l[k]? = some b) : (rowK l k).set k (rtrOf (need b)) = rowK l (k + 1) := by
  rw [rowK_form (List.getElem?_eq_some_iff.1 h).1]
  unfold rowK
  rw [take_at h, List.map_append, List.append_assoc]; rfl
theorem leftK_step {value : Rat} {l : List Blc} {k : Nat} {b : Blc} (h : l[k]? = some b) : leftK value l (k + 1) = leftK value l k - b.total * need b := by
  unfold leftK; rw [take_at h, List.foldl_append]; rfl
def Sofar (value : Rat) (l : List Blc) (k : Nat) : Prop := ratesOf value l = (l.take k).map need ++ ratesOf (leftK value l k) (l.drop k)
theorem sofar_start (value : Rat) (l : List Blc) : Sofar value l 0 := by unfold Sofar leftK; simp
theorem sofar_go {value : Rat} {l : List Blc} {k : Nat} {b : Blc} (h : Sofar value l k) (hb : l[k]? = some b) (hc : ¬ sgn (leftK value l k - b.total * need b).num < 0) : Sofar value l (k + 1) := by
  unfold Sofar at *
  rw [h, drop_at hb, ratesOf, if_neg hc, take_at hb, List.map_append, List.append_assoc, leftK_step hb]; rfl
theorem sofar_break {value : Rat} {l : List Blc} {k : Nat} {b : Blc} (h : Sofar value l k) (hb : l[k]? = some b) (hc : sgn (leftK value l k - b.total * need b).num < 0) : (rowK l k).set k (rtrOf (leftK value l k / b.total)) = (ratesOf value l).map rtrOf := by
  unfold Sofar at h
  have hk := (List.getElem?_eq_some_iff.1 hb).1
  rw [h, drop_at hb, ratesOf, if_pos hc, rowK_form hk, List.map_append, List.map_map, List.map_cons, List.map_map]
  congr 2
  have : (fun b : Blc => rtrOf 0) = fun _ => rtr0 := by funext _; exact rtrOf_zero
  show List.replicate _ rtr0 = List.map (fun _ => rtrOf 0) _
  rw [rtrOf_zero, List.map_const', List.length_drop]
theorem sofar_end {value : Rat} {l : List Blc} (h : Sofar value l l.length) : rowK l l.length = (ratesOf value l).map rtrOf := by
  unfold Sofar at h
  rw [h, List.drop_length, ratesOf]
  unfold rowK
  rw [Nat.sub_self, List.replicate_zero, List.append_nil, List.append_nil, List.map_map]; rfl
theorem need_sized {b : Blc} {N : Nat} (h : b.small N) (h1 : 1 ≤ N) : Sized N (need b) := by
  unfold need
  split
  · unfold maxR
    split
    · exact sized_dec h.2.2.1 h.2.2.2 h1
    · exact sized_dec h.2.1.1 h.2.1.2 h1
  · exact sized_one.mono h1
theorem leftK_sized {M N : Nat} {value : Rat} {l : List Blc} (hv : Sized M value) (hok : SmallBl N l) (h1 : 1 ≤ N) : ∀ k, k ≤ l.length → Sized (M + k * (2 * N + 1)) (leftK value l k)
  | 0, _ => by unfold leftK; rw [Nat.zero_mul]; exact hv
  | k + 1, hk => by
    have hq : l[k]? = some l[k] := List.getElem?_eq_getElem (by omega)
    have ih := leftK_sized hv hok h1 k (by omega)
    have hm := List.mem_of_getElem? hq
    rw [leftK_step hq, Rat.sub_eq_add_neg]
    exact (ih.add ((hok.total h1 hm).mul (need_sized (hok _ hm) h1)).neg).mono (by rw [Nat.add_mul]; omega)
theorem rates_sized {M N : Nat} : ∀ (l : List Blc) (value : Rat), Sized M value → SmallBl N l → 1 ≤ N → ∀ r ∈ ratesOf value l, Sized (M + l.length * (2 * N + 1) + N) r
  | [], _, _, _, _, r, hr => by cases hr
  | b :: l, value, hv, hok, h1, r, hr => by
    have hb := hok b (by simp)
    have hbt := hok.total h1 (b := b) (by simp)
    rw [List.length_cons, Nat.add_mul]
    rw [ratesOf] at hr
    split at hr
    · rcases List.mem_cons.1 hr with rfl | hr
      · exact (hv.div hbt).mono (by omega)
      · obtain ⟨c, _, rfl⟩ := List.mem_map.1 hr
        exact sized_zero.mono (by omega)
    · rcases List.mem_cons.1 hr with rfl | hr
      · exact (need_sized hb h1).mono (by omega)
      · have h2 : Sized (M + (2 * N + 1)) (value - b.total * need b) := by
          rw [Rat.sub_eq_add_neg]
          exact (hv.add (hbt.mul (need_sized hb h1)).neg).mono (by omega)
        exact (rates_sized l _ h2 (fun c hc => hok c (by simp [hc])) h1 r hr).mono (by omega)
theorem rtrs_small {rs : List Rat} {N : Nat} (h : ∀ r ∈ rs, Sized N r) : SmallT N (rs.map rtrOf) := fun t ht => by
  obtain ⟨r, hr, rfl⟩ := List.mem_map.1 ht
  exact ⟨(h r hr).num, (h r hr).denom⟩
theorem rtrs_val (rs : List Rat) : (rs.map rtrOf).map Rtr.val = rs := by
  rw [List.map_map, show Rtr.val ∘ rtrOf = id from funext rtrOf_val, List.map_id]
theorem search_def (value : Rat) (l : List Blc) : searchR value l = if checkVn value l ≠ 0 then ([], false, checkVn value l) else if (confR value l (ratesOf value l)).2 ≠ 0 then ([], false, 0) else (ratesOf value l, true, 0) := rfl
theorem more_iff {a b : Rat} : (0 < sgn (a - b).num) = (sgn (b - a).num < 0) := by
  have h : b - a = -(a - b) := by grind
  rw [h, sgn_neg_num]
  exact propext ⟨fun h => by omega, fun h => by omega⟩
end Go.Proofs.YtcllocdhbicpkaaGreatDoor
