/-
RegisterOutcome: its row, lifted.
-/
import Derived.Test.YtlkhoommpkndpaaGreatDoorKj39
import Derived.Test.YtlkhoommpkndpaaGreatDoorKj41
namespace Go.Proofs.YtlkhoommpkndpaaGreatDoor
open Go.ChangeShapes Go.WideShapes Go.ChangeAt Go.ChangeMaps Go.RowKit

set_option maxRecDepth 100000 in
theorem registerOutcome_lifted (os : Os) (started : os.Started) (H : Type) (enc : TypeId × Value -> H) :
    ReturnsInHanded {} Tryz.checked os 10 .any (fun w args => (Rows.registerOutcomeSpec.pre enc Tryz.prog Tryz.f10 [] false w args /\ laidMetH Tryz.prog b9g w) /\ sizedMet enc Tryz.prog Tryz.f10 (OpenSpec.ofChange Rows.registerOutcomeSpec) false w args)
      (Rows.registerOutcomeSpec.post enc Tryz.prog Tryz.f10 false true false false) := by
  refine returnsInHanded_of_change_and (C := Tryz.checked) (X := fun w _ => laidMetH Tryz.prog b9g w) (fun _ _ _ hh h => h.of_heap hh) own_knob started (by kernel_rfl) Tryz.func10
    (ChangeSpec.witness_shaped (enc := enc) (C := Tryz.checked) (os := os) (X := fun w _ => laidMetH Tryz.prog b9g w) false (World.laidAll Tryz.prog os b9g) #[.agg #[.int .u16 0, .int .u16 0, .int .u16 0, .int .u16 0, .int .u16 0, .int .u16 0], .int .u8 0, .int .u8 0, .int .u8 0, .bool false] 8 (World.laidAll_os _ _ _)
      (b9e os _) (by kernel_rfl) (by kernel_rfl) (by kernel_rfl) (laid_met os _)) ?_
  intro W base args ds gs before hval0 hW _ _ hL _
  have hval : ∀ (j : Nat) t v, Tryz.f10.params[j]? = some t -> args[j]? = some v -> Value.okWide Tryz.prog W .any base t v := hval0
  have hW' := hW
  obtain ⟨p, q, hA0, hV, rfl, _, _⟩ := hW
  have hA : DataW.TrodAll enc Tryz.prog W 0 (fun _ => true) true Tryz.f10.params.toList args.toList ds p := hA0
  rw [Tryz.params10] at hA hval
  have hkeep := hA
  obtain ⟨rfl, rfl⟩ := trodVars_none hV
  simp only [List.append_nil] at hW'
  have hlt : ∀ x ∈ p, x.block < W.heap.size := fun x hx => by simpa using hW'.lt x hx
  obtain ⟨v0, vs0, d0, ds0, p0, q0, hargs0, rfl, rfl, h0, hA0'⟩ := trodAll_cons hA
  obtain ⟨v1, vs1, d1, ds1, p1, q1, hargs1, rfl, rfl, h1, hA1'⟩ := trodAll_cons hA0'
  obtain ⟨v2, vs2, d2, ds2, p2, q2, hargs2, rfl, rfl, h2, hA2'⟩ := trodAll_cons hA1'
  obtain ⟨v3, vs3, d3, ds3, p3, q3, hargs3, rfl, rfl, h3, hA3'⟩ := trodAll_cons hA2'
  obtain ⟨v4, vs4, d4, ds4, p4, q4, hargs4, rfl, rfl, h4, hA4'⟩ := trodAll_cons hA3'
  obtain ⟨e1, rfl, rfl⟩ := trodAll_nil hA4'
  subst e1
  subst hargs4
  subst hargs3
  subst hargs2
  subst hargs1
  have hargs' : args = #[v0, v1, v2, v3, v4] := Array.toList_inj.1 hargs0
  subst hargs'
  obtain ⟨q0, rfl, hq0⟩ := open_six (hval 0 _ v0 rfl rfl) h0
  obtain ⟨n1, rfl, rfl, _, wf1⟩ := open_int Tryz.underlying5 (hval 1 _ v1 rfl rfl) h1
  obtain ⟨n2, rfl, rfl, _, wf2⟩ := open_int Tryz.underlying5 (hval 2 _ v2 rfl rfl) h2
  obtain ⟨n3, rfl, rfl, _, wf3⟩ := open_int Tryz.underlying5 (hval 3 _ v3 rfl rfl) h3
  obtain ⟨b4, rfl, rfl, _⟩ := open_bool Tryz.underlying4 (hval 4 _ v4 rfl rfl) h4
  refine (a8k q0 n1 n2 n3 b4 W hq0 (b5g wf1) (b5g wf2) (b5g wf3)).mono fun e W' ⟨he, hb⟩ => ?_
  subst he
  exact ⟨_, rfl, _, _, _, [], _, [], hW', trodAll_mk1 (shut_bool Tryz.underlying4 _),
    a8n b9f hb hkeep (fun t ht => by
      have hall : ([47, 5, 5, 5, 4].all fun u => Tryz.prog.readableRec u && decide (u < Tryz.prog.types.size)) = true := by kernel_rfl
      have := List.all_eq_true.1 hall t ht
      rw [Bool.and_eq_true, decide_eq_true_eq] at this
      exact this) hlt, rfl, hb.frame _, fun h => by cases h⟩

end Go.Proofs.YtlkhoommpkndpaaGreatDoor
