/-
Part 13 of the base.
-/
import Derived.Test.YtbkbiokgfoomfaaGreatDoorRa12
import Derived.Deep.RegionHeld3
namespace Go.Proofs.YtbkbiokgfoomfaaGreatDoor
open Go.RowKit


theorem Raw.far {w : World} {g : Nat} {neg : Bool} {num den : List UInt8} (h : Raw w g neg num den) {p : Addr} (hp : g ≠ p.block) (u : Value) : Raw (w.setCell p u) g neg num den :=
  (Below.heap_setCell w p u g hp).trans h


theorem a1s (a : List UInt8) (w : World) (ha : a.length <= 68719476736) : Calls Tryz.prog 134 #[.string (bs a)] w fun e w' => e = .returned (.string (bs (norm a))) /\ w = w' := a4t (bs a) w (by rw [a3d]; omega)

set_option maxRecDepth 100000 in
set_option maxHeartbeats 2000000 in
theorem c0e (neg : Bool) (num den : List UInt8) (w : World) (hn : num.length <= 68719476736) (hd : den.length <= 68719476736) :
    Calls Tryz.prog 98 #[raw neg num den] w fun e w' => e = .returned (.bool (a1t neg num den)) /\ Below w.heap.size w w' := by
  unfold raw
  by_cases h1 : norm num = num
  · have f1 : ((bs (norm num)).toList == (bs num).toList) = true := a6v h1
    by_cases h2 : norm den = den
    · have f2 : ((bs (norm den)).toList == (bs den).toList) = true := a6v h2
      by_cases h5 : den = [1]
      · have f5 : ((bs den).toList == [1]) = true := b6r h5
        have hv : a1t neg num den = false := by unfold a1t; simp [h5]
        rw [hv]
        clear h1 h2 hv h5
        go_enter Tryz.func98, Tryz.ntmps98
        go_wp2
        go_quiet (first
          | (go_at_call 134; with_reducible refine Calls.quiet_same (a1s num _ hn))
          | (go_at_call 134; with_reducible refine Calls.quiet_same (a1s den _ hd)))
        go_wp2
        go_ret
        exact ⟨rfl, a0c ((Below.refl _ _).alloc (Nat.le_refl _) _) _⟩
      · have f5 : ((bs den).toList == [1]) = false := a6w h5
        have hv : a1t neg num den = (if num = [] then !neg && den == [] else den == [] || Nat.gcd (bv num) (bv den) == 1) := by
          have e : (den == [1]) = false := by rw [beq_eq_false_iff_ne]; exact h5
          unfold a1t; simp [h1, h2, e]
        rw [hv]
        clear h1 h2 hv h5
        by_cases h3 : num = []
        · have f3 := a2m h3
          rw [if_pos h3]
          clear h3
          by_cases h4 : den = []
          · have f4 := a2m h4
            have e1 : (den == []) = true := by simp [h4]
            rw [e1]
            clear h4 e1
            cases neg
            all_goals go_enter Tryz.func98, Tryz.ntmps98
            all_goals go_wp2
            all_goals go_quiet (first
              | (go_at_call 134; with_reducible refine Calls.quiet_same (a1s num _ hn))
              | (go_at_call 134; with_reducible refine Calls.quiet_same (a1s den _ hd)))
            all_goals go_wp2
            all_goals go_ret
            all_goals exact ⟨rfl, a0c ((Below.refl _ _).alloc (Nat.le_refl _) _) _⟩
          · have f4 := a1h h4
            have e1 : (den == []) = false := by simp [h4]
            rw [e1]
            clear h4 e1
            cases neg
            all_goals go_enter Tryz.func98, Tryz.ntmps98
            all_goals go_wp2
            all_goals go_quiet (first
              | (go_at_call 134; with_reducible refine Calls.quiet_same (a1s num _ hn))
              | (go_at_call 134; with_reducible refine Calls.quiet_same (a1s den _ hd)))
            all_goals go_wp2
            all_goals go_ret
            all_goals exact ⟨rfl, a0c ((Below.refl _ _).alloc (Nat.le_refl _) _) _⟩
        · have f3 := a1h h3
          rw [if_neg h3]
          clear h3
          by_cases h4 : den = []
          · have f4 := a2m h4
            have e1 : (den == []) = true := by simp [h4]
            rw [e1]
            clear h4 e1
            go_enter Tryz.func98, Tryz.ntmps98
            go_wp2
            go_quiet (first
              | (go_at_call 134; with_reducible refine Calls.quiet_same (a1s num _ hn))
              | (go_at_call 134; with_reducible refine Calls.quiet_same (a1s den _ hd)))
            go_wp2
            go_ret
            exact ⟨rfl, a0c ((Below.refl _ _).alloc (Nat.le_refl _) _) _⟩
          · have f4 := a1h h4
            have e1 : (den == []) = false := by simp [h4]
            rw [e1, Bool.false_or]
            clear h4 e1
            obtain ⟨g, hg⟩ : ∃ g, g = Nat.gcd (bv num) (bv den) := ⟨_, rfl⟩
            have hG := fun W => ref_GCD num den W hn hd
            rw [<- hg] at hG ⊢
            have HG := zh hG
            clear hG hg
            by_cases h6 : g = 1
            · have f6 : ((bs (bytesOf g)).toList == [1]) = true := b6r (by rw [h6, a1b])
              have e3 : (g == 1) = true := by simp [h6]
              rw [e3]
              clear h6 e3
              go_enter Tryz.func98, Tryz.ntmps98
              go_wp2
              go_quiet (first
                | (go_at_call 134; with_reducible refine Calls.quiet_same (a1s num _ hn))
                | (go_at_call 134; with_reducible refine Calls.quiet_same (a1s den _ hd)))
              go_wp2_with (go_at_call 135; refine (HG.out _).mono ?_; rintro e w' ⟨rfl, hb⟩)
              go_ret
              exact ⟨rfl, Ext.trans (a0c ((Below.refl _ _).alloc (Nat.le_refl _) _) _) hb⟩
            · have f6 : ((bs (bytesOf g)).toList == [1]) = false := a6w (by rw [<- a1b]; exact fun e => h6 (a3y e))
              have e3 : (g == 1) = false := by simp [h6]
              rw [e3]
              clear h6 e3
              go_enter Tryz.func98, Tryz.ntmps98
              go_wp2
              go_quiet (first
                | (go_at_call 134; with_reducible refine Calls.quiet_same (a1s num _ hn))
                | (go_at_call 134; with_reducible refine Calls.quiet_same (a1s den _ hd)))
              go_wp2_with (go_at_call 135; refine (HG.out _).mono ?_; rintro e w' ⟨rfl, hb⟩)
              go_ret
              exact ⟨rfl, Ext.trans (a0c ((Below.refl _ _).alloc (Nat.le_refl _) _) _) hb⟩
    · have f2 : ((bs (norm den)).toList == (bs den).toList) = false := a3z h2
      have hv : a1t neg num den = false := by unfold a1t; simp [h2]
      rw [hv]
      clear h1 h2 hv
      go_enter Tryz.func98, Tryz.ntmps98
      go_wp2
      go_quiet (first
        | (go_at_call 134; with_reducible refine Calls.quiet_same (a1s num _ hn))
        | (go_at_call 134; with_reducible refine Calls.quiet_same (a1s den _ hd)))
      go_wp2
      go_ret
      exact ⟨rfl, a0c ((Below.refl _ _).alloc (Nat.le_refl _) _) _⟩
  · have f1 : ((bs (norm num)).toList == (bs num).toList) = false := a3z h1
    have hv : a1t neg num den = false := by unfold a1t; simp [h1]
    rw [hv]
    clear h1 hv
    go_enter Tryz.func98, Tryz.ntmps98
    go_wp2
    go_quiet (first
      | (go_at_call 134; with_reducible refine Calls.quiet_same (a1s num _ hn))
      | (go_at_call 134; with_reducible refine Calls.quiet_same (a1s den _ hd)))
    go_wp2
    go_ret
    exact ⟨rfl, a0c ((Below.refl _ _).alloc (Nat.le_refl _) _) _⟩

set_option maxRecDepth 100000 in
theorem b8v (neg : Bool) (num den : List UInt8) (w : World) :
    Calls Tryz.prog 57 #[raw neg num den] w fun e w' => e = .returned (.int .i64 (sgnR neg num)) /\ Below w.heap.size w w' := by
  unfold raw sgnR
  by_cases h : num = []
  · have h1 := a2m h
    rw [if_pos h]
    have H := zh h
    clear h
    go_enter Tryz.func57, Tryz.ntmps57
    go_wp2
    go_ret
    exact ⟨rfl, (Below.refl _ _).alloc (Nat.le_refl _) _⟩
  · have h1 := a1h h
    rw [if_neg h]
    cases neg
    all_goals go_enter Tryz.func57, Tryz.ntmps57
    all_goals go_wp2
    all_goals go_ret
    all_goals exact ⟨rfl, (Below.refl _ _).alloc (Nat.le_refl _) _⟩


set_option maxRecDepth 100000 in
set_option maxHeartbeats 1000000 in
theorem ref_Fix (neg : Bool) (num den : List UInt8) (w : World) (hn : num.length <= 68719476736) (hd : den.length <= 68719476736) :
    Calls Tryz.prog 58 #[raw neg num den] w fun e w' => e = .returned (rat (decR neg num den)) /\ Below w.heap.size w w' := by
  have hV := fun W => c0e neg num den W hn hd
  unfold raw at hV ⊢
  have K1 : Hid (Raw ((w.alloc (Obj.cells #[.bool neg, .string (bs num), .string (bs den)] 51)).alloc (Obj.cells #[.bool false, .string (bs []), .string (bs [])] 51)) w.heap.size neg num den) := (Blk.new w _ 51).alloc _
  have K2 : Hid (Raw ((w.alloc (Obj.cells #[.bool neg, .string (bs num), .string (bs den)] 51)).alloc (Obj.cells #[.bool false, .string (bs []), .string (bs [])] 51)) (w.heap.size + 1) false [] []) := Blk.new1 w _ _ _
  have hbw : Hid (Below w.heap.size w ((w.alloc (Obj.cells #[.bool neg, .string (bs num), .string (bs den)] 51)).alloc (Obj.cells #[.bool false, .string (bs []), .string (bs [])] 51))) := Ext.alloc (Ext.alloc (Below.refl _ _) _) _
  by_cases h : a1t neg num den = true
  · have hr : rat (decR neg num den) = .agg #[.bool neg, .string (bs num), .string (bs den)] := by
      obtain ⟨a, b, c⟩ := c1t h
      unfold rat raw; rw [a, b, c]
    rw [hr]
    rw [h] at hV
    have HV := zh hV
    clear hV h hr
    go_enter Tryz.func58, Tryz.ntmps58
    go_wp2_with fail
    refine (HV.out _).mono ?_
    rintro e w' ⟨rfl, hb⟩
    have k1 := K1.out.below hb (by rw [size_alloc, size_alloc]; omega)
    have k2 := K2.out.below hb (by rw [size_alloc, size_alloc]; omega)
    have c0 := k1.c0
    have c1 := k1.c1
    have c2 := k1.c2
    have d0 := k2.c0
    have d1 := k2.c1
    have d2 := k2.c2
    have z0 := k2.frozen 0
    have z1 := k2.frozen 1
    have z2 := k2.frozen 2
    have hb2 := zh (hbw.out.trans (hb.mono (by rw [size_alloc, size_alloc]; omega)))
    have hk2 := zh k2
    clear k1 k2 hb
    go_wp2
    refine bodyPost_ret (a1c rfl _ _ _ _ _ _ rfl (hk2.out.put neg num den)) rfl ?_
    exact ⟨rfl, a4a hb2.out (Nat.le_succ _) _ _ _⟩
  · have hf : a1t neg num den = false := by simpa using h
    have hr : rat (decR neg num den) = .agg #[.bool false, .string (bs []), .string (bs [])] := by
      obtain ⟨a, b, c⟩ := b3n
      rw [b0u hf]
      unfold rat raw; rw [a, b, c]
    rw [hr]
    rw [hf] at hV
    have HV := zh hV
    clear hV h hf hr
    go_enter Tryz.func58, Tryz.ntmps58
    go_wp2_with fail
    refine (HV.out _).mono ?_
    rintro e w' ⟨rfl, hb⟩
    have k2 := K2.out.below hb (by rw [size_alloc, size_alloc]; omega)
    have d0 := k2.c0
    have d1 := k2.c1
    have d2 := k2.c2
    have z0 := k2.frozen 0
    have z1 := k2.frozen 1
    have z2 := k2.frozen 2
    have hb2 := zh (hbw.out.trans (hb.mono (by rw [size_alloc, size_alloc]; omega)))
    have hk2 := zh k2
    clear k2 hb
    go_wp2
    refine bodyPost_ret (a1c rfl _ _ _ _ _ _ rfl (hk2.out.put false [] [])) rfl ?_
    exact ⟨rfl, a4a hb2.out (Nat.le_succ _) _ _ _⟩


set_option maxRecDepth 100000 in
theorem ref_Sign (neg : Bool) (num den : List UInt8) (w : World) (hn : num.length <= 68719476736) (hd : den.length <= 68719476736) :
    Calls Tryz.prog 28 #[raw neg num den] w fun e w' => e = .returned (.int .i64 (sgn (decR neg num den).num)) /\ Below w.heap.size w w' := by
  have hV := fun W => ref_Fix neg num den W hn hd
  generalize decR neg num den = q at *
  have hs : sgnR (negB q) (numB q) = sgn q.num := by
    unfold sgnR numB
    have := a7z q
    by_cases h0 : q.num = 0
    · rw [h0]; simp [a0r, a7d]
    · rw [if_neg (fun e => h0 (by have := bytesOf_eq_nil.1 e; omega))]
      rcases Int.lt_or_lt_of_ne h0 with h | h
      · rw [a3s h]; unfold negB; simp [this.2 h]
      · rw [a3r h]; unfold negB
        have h1 : ¬ q < 0 := fun h2 => by have := this.1 h2; omega
        simp [h1]
  unfold raw at hV ⊢
  have HV := zh hV
  have HS := zh hs
  clear hV hs
  go_enter Tryz.func28, Tryz.ntmps28
  go_wp2_with fail
  refine (HV.out _).mono ?_
  rintro e w1 ⟨rfl, hb1⟩
  go_wp2_with fail
  refine (b8v (negB q) (numB q) (a0p q) _).mono ?_
  rintro e w2 ⟨rfl, hb2⟩
  rw [HS.out]
  go_wp2
  go_ret
  exact ⟨rfl, (Ext.trans (Ext.alloc (Below.refl _ _) _) (Ext.trans hb1 hb2))⟩

theorem Raw.drew {w : World} {g : Nat} {neg : Bool} {num den : List UInt8} (h : Raw w g neg num den) : Raw w.drew g neg num den := h
end Go.Proofs.YtbkbiokgfoomfaaGreatDoor
