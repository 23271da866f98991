/-
A region that draws its order and makes two blocks, which its tail fills: every other operation has a value; the two blocks differ.
-/
import Derived.Test.YtakoagjpmdcddaaDoorVA
import Derived.Test.YtakoagjpmdcddaaDoorVC
namespace Go.Proofs.YtakoagjpmdcddaaDoor
open Go.RowKit

def StepT (P : Program) (l : List Oper) (n : Nat) (V : List Value) (A B : Nat) (Z : Array Value) (T : TypeId) (Z' : Array Value) (T' : TypeId) (a : Act) (w : World) (i : Nat) (o : Oper) : Prop :=
  ∀ (x : Nat → Value) (a1 : Act) (w1 : World), Below w.heap.size w w1 → (∀ j o' t, (l.take n)[j]? = some o' → o'.dst = some t → a1.tmps[t]?.getD undef = x j) → (∀ t, (l.take n).all (fun o => o.dst != some t) = true → a1.tmps[t]?.getD undef = a.tmps[t]?.getD undef) →
    (∀ e ∈ o.after, Region.binds .any e = true → e.on ≠ A → e.on ≠ B → x e.on = V.getD e.on undef) →
    if i = A then wpList P l.toArray (StepQ a1 o.dst w1 (fun w2 v => ∃ g, v = .pointer (some ⟨g, 0, none⟩) ∧ w1.heap.size ≤ g ∧ Blk w2 g Z T)) [o] a1 w1
    else if i = B then wpList P l.toArray (StepQ a1 o.dst w1 (fun w2 v => ∃ g, v = .pointer (some ⟨g, 0, none⟩) ∧ w1.heap.size ≤ g ∧ Blk w2 g Z' T')) [o] a1 w1
    else wpList P l.toArray (StepQ a1 o.dst w1 (fun _ v => v = V.getD i undef)) [o] a1 w1

theorem wp_region_two {P : Program} {id : Nat} {Q : Exit → Act → World → Prop} {a : Act} {w : World} {l : List Oper} (n A B : Nat) (V : List Value) (Z : Array Value) (T : TypeId) (Z' : Array Value) (T' : TypeId) (hm : P.follows .mixedOrders = true) (hB : invB l.toArray n = true) (hD : apartB (l.take n) = true)
    (hS : (l.take n).all (fun o => match o.dst with | some d => decide (d < a.tmps.size) | none => true) = true) (hAn : A < n) (hBn : B < n) (hAB : A ≠ B)
    (hstep : stepsOk (StepT P l n V A B Z T Z' T' a w) (l.take n) 0)
    (hend : ∀ x w1 g g', Below w.heap.size w w1 → (∀ i, i < n → i ≠ A → i ≠ B → x i = V.getD i undef) → x A = .pointer (some ⟨g, 0, none⟩) → x B = .pointer (some ⟨g', 0, none⟩) → w.heap.size ≤ g → w.heap.size ≤ g' → Blk w1 g Z T → Blk w1 g' Z' T' → g ≠ g' → wpList P l.toArray Q (l.drop n) (fillA (l.take n) 0 x a) w1) : (Code.region id l.toArray true).wp P Q a w := by
  refine wp_region_any hm ?_
  obtain ⟨x0, hx0⟩ := fillA_self a (l.take n) 0
  have inv0 : HeadInv .any l.toArray n (Array.replicate l.toArray.size false) :=
    ⟨by simp, fun j oj _ hl => (by rw [getD_replicate_false] at hl; cases hl), fun t _ ht => getD_in (by simpa using ht) (getD_replicate_false _ _)⟩
  have hBs := hB
  simp only [invB, Bool.and_eq_true, decide_eq_true_eq] at hBs
  have hlen : n < l.toArray.size := hBs.1.1.1.1
  have hedge := hBs.2
  have hunl : (unl (Array.replicate l.toArray.size false) n).length = n := by
    unfold unl
    rw [List.filter_eq_self.2]
    · simp
    · intro j hj
      have hjn := List.mem_range.1 hj
      have : (Array.replicate l.toArray.size false).getD j true = false := getD_in (by simpa using Nat.lt_trans hjn (by simpa using hlen)) (getD_replicate_false _ _)
      rw [this]; rfl
  have hfalse : ∀ i, i < n → (Array.replicate l.toArray.size false).getD i true = true → False := fun i hi h => by
    rw [getD_in (by simpa using Nat.lt_trans hi (by simpa using hlen)) (getD_replicate_false _ _)] at h; cases h
  have hw : Below w.heap.size w { w with drawn := w.drawn + 1 } := ⟨rfl, rfl, rfl, Nat.le_refl _, fun _ _ => rfl⟩
  have := inv_J (P := P) (Q := Q) (a0 := a) rfl hB hD
    (fun listed x w1 => Below w.heap.size w w1 ∧ (∀ i, i < n → i ≠ A → i ≠ B → listed.getD i true = true → x i = V.getD i undef) ∧
      (listed.getD A true = true → ∃ g, x A = .pointer (some ⟨g, 0, none⟩) ∧ w.heap.size ≤ g ∧ Blk w1 g Z T) ∧ (listed.getD B true = true → ∃ g, x B = .pointer (some ⟨g, 0, none⟩) ∧ w.heap.size ≤ g ∧ Blk w1 g Z' T') ∧
      (listed.getD A true = true → listed.getD B true = true → x A ≠ x B))
    (fun listed x w1 i o ho hi hsz hun hdeps ⟨hb, hv, hA, hBx, hne⟩ => by
      have hot : (l.take n)[i]? = some o := by rw [List.getElem?_take, if_pos hi]; exact ho
      have hq0 := stepsOk_spec _ _ hstep i o hot
      rw [Nat.zero_add] at hq0
      have h := hq0 x (fillA (l.take n) 0 x a) w1 hb (fun j o' t hj hd' => by
        have hs := List.all_eq_true.1 hS o' (List.mem_of_getElem? hj)
        rw [hd'] at hs
        have := fillA_at (l.take n) 0 x a j o' t hD hj hd' (by simpa using hs)
        rwa [Nat.zero_add, eval_tmp] at this) (fun t ht => by
        have := fillA_other (l.take n) 0 x a t ht
        rwa [eval_tmp, eval_tmp] at this) (fun e he hbe hnA hnB => by
        have h2 := List.all_eq_true.1 hedge i (List.mem_range.2 hi)
        rw [show l.toArray[i]? = some o by simpa using ho] at h2
        have h3 := Array.all_eq_true'.1 h2 e he
        rw [hbe] at h3
        have h4 : e.on < i := by simpa using h3
        exact hv e.on (by omega) hnA hnB (hdeps e he hbe))
      clear hq0
      by_cases hiA : i = A
      · rw [if_pos hiA] at h
        subst hiA
        unfold StepQ at h
        refine one_step (fun v w2 hY => ?_) h
        obtain ⟨hb2, g, rfl, hg, hblk⟩ := hY
        refine ⟨hb.trans (hb2.mono hb.size), fun j hj hjA hjB hlj => ?_, fun _ => ⟨g, by simp [upd], Nat.le_trans hb.size hg, hblk⟩, fun hl => ?_, fun _ hl => ?_⟩
        · rw [set_ne (fun e => hjA e.symm)] at hlj
          rw [upd, if_neg hjA]; exact hv j hj hjA hjB hlj
        · rw [set_ne hAB] at hl
          obtain ⟨g', h1, h2, h3⟩ := hBx hl
          exact ⟨g', by rw [upd, if_neg hAB.symm]; exact h1, h2, h3.below hb2 h3.lt⟩
        · rw [set_ne hAB] at hl
          obtain ⟨g', h1, h2, h3⟩ := hBx hl
          rw [upd, if_pos rfl, upd, if_neg hAB.symm, h1]
          intro e
          have e1 : g = g' := by simpa using e
          have := h3.lt
          omega
      · rw [if_neg hiA] at h
        by_cases hiB : i = B
        · rw [if_pos hiB] at h
          subst hiB
          unfold StepQ at h
          refine one_step (fun v w2 hY => ?_) h
          obtain ⟨hb2, g, rfl, hg, hblk⟩ := hY
          refine ⟨hb.trans (hb2.mono hb.size), fun j hj hjA hjB hlj => ?_, fun hl => ?_, fun _ => ⟨g, by simp [upd], Nat.le_trans hb.size hg, hblk⟩, fun hl _ => ?_⟩
          · rw [set_ne (fun e => hjB e.symm)] at hlj
            rw [upd, if_neg hjB]; exact hv j hj hjA hjB hlj
          · rw [set_ne hiA] at hl
            obtain ⟨g', h1, h2, h3⟩ := hA hl
            exact ⟨g', by rw [upd, if_neg hAB]; exact h1, h2, h3.below hb2 h3.lt⟩
          · rw [set_ne hiA] at hl
            obtain ⟨g', h1, h2, h3⟩ := hA hl
            rw [upd, if_neg hAB, h1, upd, if_pos rfl]
            intro e
            have e1 : g' = g := by simpa using e
            have := h3.lt
            omega
        · rw [if_neg hiB] at h
          unfold StepQ at h
          refine one_step (fun v w2 hY => ?_) h
          obtain ⟨hb2, hvv⟩ := hY
          refine ⟨hb.trans (hb2.mono hb.size), fun j hj hjA hjB hlj => ?_, fun hl => ?_, fun hl => ?_, fun hl hl' => ?_⟩
          · by_cases hji : j = i
            · subst hji; rw [upd, if_pos rfl]; exact hvv
            · rw [set_ne (fun e => hji e.symm)] at hlj
              rw [upd, if_neg hji]; exact hv j hj hjA hjB hlj
          · rw [set_ne hiA] at hl
            obtain ⟨g, hxg, hg, hblk⟩ := hA hl
            exact ⟨g, by rw [upd, if_neg (fun e => hiA e.symm)]; exact hxg, hg, hblk.below hb2 hblk.lt⟩
          · rw [set_ne hiB] at hl
            obtain ⟨g, hxg, hg, hblk⟩ := hBx hl
            exact ⟨g, by rw [upd, if_neg (fun e => hiB e.symm)]; exact hxg, hg, hblk.below hb2 hblk.lt⟩
          · rw [set_ne hiA] at hl
            rw [set_ne hiB] at hl'
            rw [upd, if_neg (fun e => hiA e.symm), upd, if_neg (fun e => hiB e.symm)]
            exact hne hl hl')
    (fun x w1 ⟨hb, hv, hA, hBx, hne⟩ => by
      have hc : ∀ i, i < n → (canon l.toArray.size n).getD i true = true := by
        intro i hi
        unfold canon
        rw [Array.getD_eq_getD_getElem?, Array.getElem?_map, Array.getElem?_range, if_pos (by omega)]
        simp [hi]
      obtain ⟨g, hxg, hg, hblk⟩ := hA (hc A hAn)
      obtain ⟨g', hxg', hg', hblk'⟩ := hBx (hc B hBn)
      exact hend x w1 g g' hb (fun i hi h1 h2 => hv i hi h1 h2 (hc i hi)) hxg hxg' hg hg' hblk hblk' (fun e => hne (hc A hAn) (hc B hBn) (by rw [hxg, hxg', e])))
    n (Array.replicate l.toArray.size false) x0 { w with drawn := w.drawn + 1 } inv0 hunl ⟨hw, fun i hi _ _ h => (hfalse i hi h).elim, fun h => (hfalse A hAn h).elim, fun h => (hfalse B hBn h).elim, fun h => (hfalse A hAn h).elim⟩
  rw [hx0 x0 (fun _ _ => rfl)] at this
  rw [show n + (l.toArray.size - n) = l.toArray.size by omega] at this
  exact this
theorem St.fill2 {w0 w w' : World} {R : List Own} {g g' : Nat} {cs cs' : Array Value} {t t' : TypeId} (h : St w0 R w) (hb : Below w.heap.size w w') (hg : w.heap.size ≤ g) (hB : Blk w' g cs t) (hg' : w.heap.size ≤ g') (hB' : Blk w' g' cs' t') (hne : g ≠ g') : St w0 (⟨g', cs', t'⟩ :: ⟨g, cs, t⟩ :: R) w' := by
  have h1 := h.fill hb hg hB
  refine ⟨h1.below, fun r hr => ?_, List.pairwise_cons.2 ⟨fun r hr => ?_, h1.apart⟩⟩
  · rcases List.mem_cons.1 hr with rfl | hr
    · exact ⟨hB', Nat.le_trans h.below.size hg'⟩
    · exact h1.ok r hr
  · rcases List.mem_cons.1 hr with rfl | hr
    · exact fun e => hne e.symm
    · have := (h.ok r hr).1.lt
      show g' ≠ r.g
      omega
end Go.Proofs.YtakoagjpmdcddaaDoor
