/-
RegisterKeeps: its row, lifted.
-/
import Derived.Test.YtoighiepglclkaaGreatDoorKf47
import Derived.Test.YtoighiepglclkaaGreatDoorKf49
namespace Go.Proofs.YtoighiepglclkaaGreatDoor
open Go.ChangeShapes Go.WideShapes Go.ChangeAt Go.ChangeMaps Go.RowKit

set_option maxRecDepth 100000 in
theorem registerKeeps_lifted (os : Os) (started : os.Started) (H : Type) (enc : TypeId × Value -> H) :
    ReturnsInHanded {} Tryz.checked os 3 .any (fun w args => (Rows.registerKeepsSpec.pre enc Tryz.prog Tryz.f3 [] false w args /\ laidMetH Tryz.prog c4s w) /\ sizedMet enc Tryz.prog Tryz.f3 (OpenSpec.ofChange Rows.registerKeepsSpec) false w args)
      (Rows.registerKeepsSpec.post enc Tryz.prog Tryz.f3 false true false false) := by
  refine returnsInHanded_of_change_and (C := Tryz.checked) (X := fun w _ => laidMetH Tryz.prog c4s w) (fun _ _ _ hh h => h.of_heap hh) own_knob started (by kernel_rfl) Tryz.func3
    (ChangeSpec.witness_shaped (enc := enc) (C := Tryz.checked) (os := os) (X := fun w _ => laidMetH Tryz.prog c4s w) false (World.laidAll Tryz.prog os c4s) #[.int .u8 0, .int .u8 0, .slice none 0 0, .slice none 0 0, .agg #[.int .u8 0, .int .u8 0, .int .u8 0, .int .u16 0, .int .u16 0, .int .u16 0, .int .u16 0, .int .u16 0, .int .u16 0, .int .u16 0]] 8 (World.laidAll_os _ _ _)
      (c4q os _) (by kernel_rfl) (by kernel_rfl) (by kernel_rfl) (laid_met os _)) ?_
  intro W base args ds gs before hval0 hW _ _ hL _
  have hval : ∀ (j : Nat) t v, Tryz.f3.params[j]? = some t -> args[j]? = some v -> Value.okWide Tryz.prog W .any base t v := hval0
  have hW' := hW
  obtain ⟨p, q, hA0, hV, rfl, _, _⟩ := hW
  have hA : DataW.TrodAll enc Tryz.prog W 0 (fun _ => true) true Tryz.f3.params.toList args.toList ds p := hA0
  rw [Tryz.params3] at hA hval
  have hkeep := hA
  obtain ⟨rfl, rfl⟩ := trodVars_none hV
  simp only [List.append_nil] at hW'
  have hlt : ∀ x ∈ p, x.block < W.heap.size := fun x hx => by simpa using hW'.lt x hx
  obtain ⟨v0, vs0, d0, ds0, p0, q0, hargs0, rfl, rfl, h0, hA0'⟩ := trodAll_cons hA
  obtain ⟨v1, vs1, d1, ds1, p1, q1, hargs1, rfl, rfl, h1, hA1'⟩ := trodAll_cons hA0'
  obtain ⟨v2, vs2, d2, ds2, p2, q2, hargs2, rfl, rfl, h2, hA2'⟩ := trodAll_cons hA1'
  obtain ⟨v3, vs3, d3, ds3, p3, q3, hargs3, rfl, rfl, h3, hA3'⟩ := trodAll_cons hA2'
  obtain ⟨v4, vs4, d4, ds4, p4, q4, hargs4, rfl, rfl, h4, hA4'⟩ := trodAll_cons hA3'
  obtain ⟨e1, rfl, rfl⟩ := trodAll_nil hA4'
  subst e1
  subst hargs4
  subst hargs3
  subst hargs2
  subst hargs1
  have hargs' : args = #[v0, v1, v2, v3, v4] := Array.toList_inj.1 hargs0
  subst hargs'
  obtain ⟨n0, rfl, rfl, _, wf0⟩ := open_int Tryz.underlying5 (hval 0 _ v0 rfl rfl) h0
  obtain ⟨n1, rfl, rfl, _, wf1⟩ := open_int Tryz.underlying5 (hval 1 _ v1 rfl rfl) h1
  have hh2 := h2
  obtain ⟨fuel2, g2⟩ := hh2
  obtain ⟨x2, qs2, hv2, hq2, hday2⟩ := c6d (⟨0, 0, 0, 0, ⟨0, 0, 0, 0, 0, 0⟩⟩ : ActN) ActN.ok Tryz.underlying22 (by decide) c3c act_len (fun n cs' y h => d0y h) g2
  obtain ⟨a2, len2, cap2, rfl⟩ := okWide_slice Tryz.underlying22 (hval 2 _ v2 rfl rfl)
  have hx2 : x2 = .slice a2 len2 cap2 := by
    have : [Value.slice a2 len2 cap2] = [x2] := hv2
    injection this with this
    exact this.symm
  subst hx2
  have hh3 := h3
  obtain ⟨fuel3, g3⟩ := hh3
  obtain ⟨x3, qs3, hv3, hq3, hday3⟩ := c6d (⟨0, 0, 0⟩ : Tri) Tri.ok Tryz.underlying23 (by decide) b9m tri_len (fun n cs' y h => dec_arr3 h) g3
  obtain ⟨a3, len3, cap3, rfl⟩ := okWide_slice Tryz.underlying23 (hval 3 _ v3 rfl rfl)
  have hx3 : x3 = .slice a3 len3 cap3 := by
    have : [Value.slice a3 len3 cap3] = [x3] := hv3
    injection this with this
    exact this.symm
  subst hx3
  obtain ⟨q4, rfl, hq4⟩ := open_act (hval 4 _ v4 rfl rfl) h4
  refine (b3d n0 n1 _ qs2 _ qs3 q4 W (b1j wf0) (b1j wf1) hq2 hday2 hq3 hday3 hq4).mono fun e W' ⟨he, hb⟩ => ?_
  subst he
  exact ⟨_, rfl, _, _, _, [], _, [], hW', trodAll_mk1 (shut_bool Tryz.underlying4 _),
    b1k c4r hb hkeep (fun t ht => by
      have hall : ([5, 5, 22, 23, 27].all fun u => Tryz.prog.readableRec u && decide (u < Tryz.prog.types.size)) = true := by kernel_rfl
      have := List.all_eq_true.1 hall t ht
      rw [Bool.and_eq_true, decide_eq_true_eq] at this
      exact this) hlt, rfl, hb.frame _, fun h => by cases h⟩

end Go.Proofs.YtoighiepglclkaaGreatDoor
