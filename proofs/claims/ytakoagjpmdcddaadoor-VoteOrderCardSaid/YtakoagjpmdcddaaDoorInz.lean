/-
A region that draws its order: its operations have values and leave the world as it is, but for a chain of operations, each of which waits for the one ahead of it and takes up what that has made (rows that grow).
-/
import Derived.Test.YtakoagjpmdcddaaDoorInx
namespace Go.Proofs.YtakoagjpmdcddaaDoor
open Go.RowKit

/-- An operation that leaves the world alone. -/
def StepV (a1 : Act) (d : Option Tmp) (w1 : World) (v0 : Value) (e : Exit) (a' : Act) (w2 : World) : Prop := e = .normal ∧ ∃ v, a' = a1.put d v ∧ v = v0 ∧ w2 = w1
theorem StepV.mk {a1 : Act} {d : Option Tmp} {w1 : World} (v : Value) : StepV a1 d w1 v .normal (a1.put d v) w1 := ⟨rfl, v, rfl, rfl, rfl⟩
/-- An operation of the chain. -/
def StepC (a1 : Act) (d : Option Tmp) (B : Nat) (w1 : World) (p : World → Value → Prop) (e : Exit) (a' : Act) (w2 : World) : Prop := e = .normal ∧ ∃ v, a' = a1.put d v ∧ Below B w1 w2 ∧ p w2 v
theorem StepC.mk {a1 : Act} {d : Option Tmp} {B : Nat} {w1 : World} {p : World → Value → Prop} {w2 : World} (v : Value) (hb : Below B w1 w2) (hv : p w2 v) : StepC a1 d B w1 p .normal (a1.put d v) w2 := ⟨rfl, v, rfl, hb, hv⟩

/-- c0, c1, c2: the chain; p0, p1, p2: what each makes. -/
def StepK (P : Program) (l : List Oper) (n : Nat) (V : List Value) (c0 c1 c2 : Nat) (p0 p1 p2 : World → Value → Prop) (a : Act) (w : World) (i : Nat) (o : Oper) : Prop :=
  ∀ (x : Nat → Value) (a1 : Act) (w1 : World), Below w.heap.size w w1 → (∀ j o' t, (l.take n)[j]? = some o' → o'.dst = some t → a1.tmps[t]?.getD undef = x j) → (∀ t, (l.take n).all (fun o => o.dst != some t) = true → a1.tmps[t]?.getD undef = a.tmps[t]?.getD undef) →
    (∀ e ∈ o.after, Region.binds .any e = true → e.on ≠ c0 → e.on ≠ c1 → e.on ≠ c2 → x e.on = V.getD e.on undef) →
    if i = c0 then wpList P l.toArray (StepC a1 o.dst w.heap.size w1 p0) [o] a1 w1
    else if i = c1 then p0 w1 (x c0) → wpList P l.toArray (StepC a1 o.dst w.heap.size w1 p1) [o] a1 w1
    else if i = c2 then p1 w1 (x c1) → wpList P l.toArray (StepC a1 o.dst w.heap.size w1 p2) [o] a1 w1
    else wpList P l.toArray (StepV a1 o.dst w1 (V.getD i undef)) [o] a1 w1

theorem wp_region_chain {P : Program} {id : Nat} {Q : Exit → Act → World → Prop} {a : Act} {w : World} {l : List Oper} (n c0 c1 c2 : Nat) (V : List Value) (p0 p1 p2 : World → Value → Prop) (hm : P.follows .mixedOrders = true) (hB : invB l.toArray n = true) (hD : apartB (l.take n) = true)
    (hS : (l.take n).all (fun o => match o.dst with | some d => decide (d < a.tmps.size) | none => true) = true) (hd1 : depB l c1 c0 = true) (hd2 : depB l c2 c1 = true) (h2n : c2 < n) (h01 : c0 < c1) (h12 : c1 < c2)
    (hstep : stepsOk (StepK P l n V c0 c1 c2 p0 p1 p2 a w) (l.take n) 0)
    (hend : ∀ x w1, Below w.heap.size w w1 → (∀ i, i < n → i ≠ c0 → i ≠ c1 → i ≠ c2 → x i = V.getD i undef) → p2 w1 (x c2) → wpList P l.toArray Q (l.drop n) (fillA (l.take n) 0 x a) w1) : (Code.region id l.toArray true).wp P Q a w := by
  refine wp_region_any hm ?_
  obtain ⟨x0, hx0⟩ := fillA_self a (l.take n) 0
  have inv0 : HeadInv .any l.toArray n (Array.replicate l.toArray.size false) :=
    ⟨by simp, fun j oj _ hl => (by rw [getD_replicate_false] at hl; cases hl), fun t _ ht => getD_in (by simpa using ht) (getD_replicate_false _ _)⟩
  have hBs := hB
  simp only [invB, Bool.and_eq_true, decide_eq_true_eq] at hBs
  have hlen : n < l.toArray.size := hBs.1.1.1.1
  have hedge := hBs.2
  have hunl : (unl (Array.replicate l.toArray.size false) n).length = n := by
    unfold unl
    rw [List.filter_eq_self.2]
    · simp
    · intro j hj
      have hjn := List.mem_range.1 hj
      have : (Array.replicate l.toArray.size false).getD j true = false := getD_in (by simpa using Nat.lt_trans hjn (by simpa using hlen)) (getD_replicate_false _ _)
      rw [this]; rfl
  have hfalse : ∀ i, i < n → (Array.replicate l.toArray.size false).getD i true = true → False := fun i hi h => by
    rw [getD_in (by simpa using Nat.lt_trans hi (by simpa using hlen)) (getD_replicate_false _ _)] at h; cases h
  have hw : Below w.heap.size w { w with drawn := w.drawn + 1 } := ⟨rfl, rfl, rfl, Nat.le_refl _, fun _ _ => rfl⟩
  have dep : ∀ {c c' : Nat} {o : Oper} {listed : Array Bool}, depB l c' c = true → l[c']? = some o → (∀ e ∈ o.after, Region.binds .any e = true → listed.getD e.on true = true) → listed.getD c true = true := by
    intro c c' o listed h ho hd
    unfold depB at h
    rw [ho] at h
    obtain ⟨e, he, hbe⟩ := Array.any_eq_true'.1 h
    rw [Bool.and_eq_true, decide_eq_true_eq] at hbe
    have := hd e he hbe.1
    rwa [hbe.2] at this
  have := inv_J (P := P) (Q := Q) (a0 := a) rfl hB hD
    (fun listed x w1 => Below w.heap.size w w1 ∧ (∀ i, i < n → i ≠ c0 → i ≠ c1 → i ≠ c2 → listed.getD i true = true → x i = V.getD i undef) ∧
      (listed.getD c2 true = true → listed.getD c1 true = true) ∧ (listed.getD c1 true = true → listed.getD c0 true = true) ∧
      (listed.getD c0 true = true → listed.getD c1 true = false → p0 w1 (x c0)) ∧ (listed.getD c1 true = true → listed.getD c2 true = false → p1 w1 (x c1)) ∧ (listed.getD c2 true = true → p2 w1 (x c2)))
    (fun listed x w1 i o ho hi hsz hun hdeps ⟨hb, hv, h21, h10, hq0, hq1, hq2⟩ => by
      have hot : (l.take n)[i]? = some o := by rw [List.getElem?_take, if_pos hi]; exact ho
      have hs0 := stepsOk_spec _ _ hstep i o hot
      rw [Nat.zero_add] at hs0
      have h := hs0 x (fillA (l.take n) 0 x a) w1 hb (fun j o' t hj hd' => by
        have hs := List.all_eq_true.1 hS o' (List.mem_of_getElem? hj)
        rw [hd'] at hs
        have := fillA_at (l.take n) 0 x a j o' t hD hj hd' (by simpa using hs)
        rwa [Nat.zero_add, eval_tmp] at this) (fun t ht => by
        have := fillA_other (l.take n) 0 x a t ht
        rwa [eval_tmp, eval_tmp] at this) (fun e he hbe n0 n1 n2 => by
        have h2 := List.all_eq_true.1 hedge i (List.mem_range.2 hi)
        rw [show l.toArray[i]? = some o by simpa using ho] at h2
        have h3 := Array.all_eq_true'.1 h2 e he
        rw [hbe] at h3
        have h4 : e.on < i := by simpa using h3
        exact hv e.on (by omega) n0 n1 n2 (hdeps e he hbe))
      clear hs0
      have sv : ∀ (v : Value), (i = c0 ∨ i = c1 ∨ i = c2) → ∀ j, j < n → j ≠ c0 → j ≠ c1 → j ≠ c2 → (listed.setIfInBounds i true).getD j true = true → upd x i v j = V.getD j undef := by
        intro v hi' j hj a0 a1 a2 hlj
        have hji : j ≠ i := by rcases hi' with rfl | rfl | rfl <;> assumption
        rw [set_ne (fun e => hji e.symm)] at hlj
        rw [upd, if_neg hji]; exact hv j hj a0 a1 a2 hlj
      by_cases hi0 : i = c0
      · rw [if_pos hi0] at h
        subst hi0
        unfold StepC at h
        refine one_step (fun v w2 hY => ?_) h
        obtain ⟨hb2, hp⟩ := hY
        have u1 : listed.getD c1 true = false := by
          cases hh : listed.getD c1 true with
          | false => rfl
          | true => rw [h10 hh] at hun; cases hun
        have u2 : listed.getD c2 true = false := by
          cases hh : listed.getD c2 true with
          | false => rfl
          | true => rw [h21 hh] at u1; cases u1
        refine ⟨hb.trans hb2, sv v (.inl rfl), ?_, ?_, ?_, ?_, ?_⟩
        · rw [set_ne (by omega), u2]; intro h; cases h
        · intro _; exact set_at
        · intro _ _; rw [upd, if_pos rfl]; exact hp
        · rw [set_ne (by omega), u1]; intro h; cases h
        · rw [set_ne (by omega), u2]; intro h; cases h
      · rw [if_neg hi0] at h
        by_cases hi1 : i = c1
        · rw [if_pos hi1] at h
          subst hi1
          have l0 := dep hd1 ho hdeps
          have h := h (hq0 l0 hun)
          unfold StepC at h
          refine one_step (fun v w2 hY => ?_) h
          obtain ⟨hb2, hp⟩ := hY
          have u2 : listed.getD c2 true = false := by
            cases hh : listed.getD c2 true with
            | false => rfl
            | true => rw [h21 hh] at hun; cases hun
          refine ⟨hb.trans hb2, sv v (.inr (.inl rfl)), ?_, ?_, ?_, ?_, ?_⟩
          · intro _; exact set_at
          · intro _; rw [set_ne (by omega)]; exact l0
          · intro _ h; rw [set_at] at h; cases h
          · intro _ _; rw [upd, if_pos rfl]; exact hp
          · rw [set_ne (by omega), u2]; intro h; cases h
        · rw [if_neg hi1] at h
          by_cases hi2 : i = c2
          · rw [if_pos hi2] at h
            subst hi2
            have l1 := dep hd2 ho hdeps
            have h := h (hq1 l1 hun)
            unfold StepC at h
            refine one_step (fun v w2 hY => ?_) h
            obtain ⟨hb2, hp⟩ := hY
            refine ⟨hb.trans hb2, sv v (.inr (.inr rfl)), ?_, ?_, ?_, ?_, ?_⟩
            · intro _; rw [set_ne (by omega)]; exact l1
            · intro _; rw [set_ne (by omega)]; exact h10 l1
            · intro _ h; rw [set_ne (by omega), l1] at h; cases h
            · intro _ h; rw [set_at] at h; cases h
            · intro _; rw [upd, if_pos rfl]; exact hp
          · rw [if_neg hi2] at h
            unfold StepV at h
            refine one_step (fun v w2 hY => ?_) h
            obtain ⟨hvv, rfl⟩ := hY
            refine ⟨hb, fun j hj a0 a1 a2 hlj => ?_, ?_, ?_, ?_, ?_, ?_⟩
            · by_cases hji : j = i
              · subst hji; rw [upd, if_pos rfl]; exact hvv
              · rw [set_ne (fun e => hji e.symm)] at hlj
                rw [upd, if_neg hji]; exact hv j hj a0 a1 a2 hlj
            · rw [set_ne hi2, set_ne hi1]; exact h21
            · rw [set_ne hi1, set_ne hi0]; exact h10
            · rw [set_ne hi0, set_ne hi1, upd, if_neg (fun e => hi0 e.symm)]; exact hq0
            · rw [set_ne hi1, set_ne hi2, upd, if_neg (fun e => hi1 e.symm)]; exact hq1
            · rw [set_ne hi2, upd, if_neg (fun e => hi2 e.symm)]; exact hq2)
    (fun x w1 ⟨hb, hv, h21, h10, hq0, hq1, hq2⟩ => by
      have hc : ∀ i, i < n → (canon l.toArray.size n).getD i true = true := by
        intro i hi
        unfold canon
        rw [Array.getD_eq_getD_getElem?, Array.getElem?_map, Array.getElem?_range, if_pos (by omega)]
        simp [hi]
      exact hend x w1 hb (fun i hi a0 a1 a2 => hv i hi a0 a1 a2 (hc i hi)) (hq2 (hc c2 h2n)))
    n (Array.replicate l.toArray.size false) x0 { w with drawn := w.drawn + 1 } inv0 hunl ⟨hw, fun i hi _ _ _ h => (hfalse i hi h).elim, fun h => (hfalse c2 h2n h).elim, fun h => (hfalse c1 (by omega) h).elim, fun h => (hfalse c0 (by omega) h).elim, fun h => (hfalse c1 (by omega) h).elim, fun h => (hfalse c2 h2n h).elim⟩
  rw [hx0 x0 (fun _ _ => rfl)] at this
  rw [show n + (l.toArray.size - n) = l.toArray.size by omega] at this
  exact this
end Go.Proofs.YtakoagjpmdcddaaDoor
