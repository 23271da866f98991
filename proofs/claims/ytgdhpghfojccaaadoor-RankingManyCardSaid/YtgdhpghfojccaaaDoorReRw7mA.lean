/-
RankingMany: its row, lifted.
-/
import Derived.Test.YtgdhpghfojccaaaDoorRe43
namespace Go.Proofs.YtgdhpghfojccaaaDoor
open Go.ChangeShapes Go.WideShapes Go.ChangeAt Go.ChangeMaps Go.RowKit

set_option maxRecDepth 100000 in
theorem rankingMany_lifted (os : Os) (started : os.Started) (H : Type) (enc : TypeId × Value -> H) :
    ReturnsInHanded {} Tryd.checked os 3 .any (fun w args => (Rows.rankingManySpec.pre enc Tryd.prog Tryd.f3 [] false w args /\ laidMetH Tryd.prog b4q w) /\ sizedMet enc Tryd.prog Tryd.f3 (OpenSpec.ofChange Rows.rankingManySpec) false w args)
      (Rows.rankingManySpec.post enc Tryd.prog Tryd.f3 false true false false) := by
  refine returnsInHanded_of_change_and (C := Tryd.checked) (X := fun w _ => laidMetH Tryd.prog b4q w) (fun _ _ _ hh h => h.of_heap hh) own_knob started (by kernel_rfl) Tryd.func3
    (ChangeSpec.witness_shaped (enc := enc) (C := Tryd.checked) (os := os) (X := fun w _ => laidMetH Tryd.prog b4q w) false (World.laidAll Tryd.prog os b4q) #[.int .u8 0, .int .u8 0] 8 (World.laidAll_os _ _ _)
      (b4p os _) (by kernel_rfl) (by kernel_rfl) (by kernel_rfl) (laid_met os _)) ?_
  intro W base args ds gs before hval0 hW _ _ hL _
  have hval : ∀ (j : Nat) t v, Tryd.f3.params[j]? = some t -> args[j]? = some v -> Value.okWide Tryd.prog W .any base t v := hval0
  have hW' := hW
  obtain ⟨p, q, hA0, hV, rfl, _, _⟩ := hW
  have hA : DataW.TrodAll enc Tryd.prog W 0 (fun _ => true) true Tryd.f3.params.toList args.toList ds p := hA0
  rw [Tryd.params3] at hA hval
  have hkeep := hA
  obtain ⟨rfl, rfl⟩ := trodVars_none hV
  simp only [List.append_nil] at hW'
  have hlt : ∀ x ∈ p, x.block < W.heap.size := fun x hx => by simpa using hW'.lt x hx
  obtain ⟨v0, vs0, d0, ds0, p0, q0, hargs0, rfl, rfl, h0, hA0'⟩ := trodAll_cons hA
  obtain ⟨v1, vs1, d1, ds1, p1, q1, hargs1, rfl, rfl, h1, hA1'⟩ := trodAll_cons hA0'
  obtain ⟨e1, rfl, rfl⟩ := trodAll_nil hA1'
  subst e1
  subst hargs1
  have hargs' : args = #[v0, v1] := Array.toList_inj.1 hargs0
  subst hargs'
  obtain ⟨n0, rfl, rfl, _, wf0⟩ := open_int Tryd.underlying5 (hval 0 _ v0 rfl rfl) h0
  obtain ⟨n1, rfl, rfl, _, wf1⟩ := open_int Tryd.underlying5 (hval 1 _ v1 rfl rfl) h1
  refine (a8u n0 n1 W (b5f wf0) (b5f wf1)).mono fun e W' ⟨he, hb⟩ => ?_
  subst he
  exact ⟨_, rfl, _, _, _, [], _, [], hW', trodAll_mk1 (shut_bool Tryd.underlying4 _),
    a6a laidOut hb hkeep (fun t ht => by
      have hall : ([5, 5].all fun u => Tryd.prog.readableRec u && decide (u < Tryd.prog.types.size)) = true := by kernel_rfl
      have := List.all_eq_true.1 hall t ht
      rw [Bool.and_eq_true, decide_eq_true_eq] at this
      exact this) hlt, rfl, hb.frame _, fun h => by cases h⟩

end Go.Proofs.YtgdhpghfojccaaaDoor
