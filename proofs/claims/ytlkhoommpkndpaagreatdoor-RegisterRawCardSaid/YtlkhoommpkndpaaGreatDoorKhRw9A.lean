/-
RegisterRaw: its row, lifted.
-/
import Derived.Test.YtlkhoommpkndpaaGreatDoorKh48
import Derived.Test.YtlkhoommpkndpaaGreatDoorKh50
namespace Go.Proofs.YtlkhoommpkndpaaGreatDoor
open Go.ChangeShapes Go.WideShapes Go.ChangeAt Go.ChangeMaps Go.RowKit

set_option maxRecDepth 100000 in
theorem registerRaw_lifted (os : Os) (started : os.Started) (H : Type) (enc : TypeId × Value -> H) :
    ReturnsInHanded {} Tryz.checked os 12 .any (fun w args => (Rows.registerRawSpec.pre enc Tryz.prog Tryz.f12 [] false w args /\ laidMetH Tryz.prog c3e w) /\ sizedMet enc Tryz.prog Tryz.f12 (OpenSpec.ofChange Rows.registerRawSpec) false w args)
      (Rows.registerRawSpec.post enc Tryz.prog Tryz.f12 false true false false) := by
  refine returnsInHanded_of_change_and (C := Tryz.checked) (X := fun w _ => laidMetH Tryz.prog c3e w) (fun _ _ _ hh h => h.of_heap hh) own_knob started (by kernel_rfl) Tryz.func12
    (ChangeSpec.witness_shaped (enc := enc) (C := Tryz.checked) (os := os) (X := fun w _ => laidMetH Tryz.prog c3e w) false (World.laidAll Tryz.prog os c3e) #[.agg #[.int .i64 0, .int .i64 0, .int .i64 0, .slice none 0 0], .agg #[.int .i64 0, .int .i64 0, .string ⟨#[]⟩, .bool false, .string ⟨#[]⟩, .string ⟨#[]⟩, .int .i64 0, .string ⟨#[]⟩, .int .i64 0, .int .i64 0, .string ⟨#[]⟩, .bool false, .string ⟨#[]⟩, .string ⟨#[]⟩, .int .i64 0, .int .i64 0, .bool false, .string ⟨#[]⟩, .string ⟨#[]⟩, .int .i64 0, .int .i64 0], .int .i64 0] 8 (World.laidAll_os _ _ _)
      (c3c os _) (by kernel_rfl) (by kernel_rfl) (by kernel_rfl) (laid_met os _)) ?_
  intro W base args ds gs before hval0 hW _ _ hL _
  have hval : ∀ (j : Nat) t v, Tryz.f12.params[j]? = some t -> args[j]? = some v -> Value.okWide Tryz.prog W .any base t v := hval0
  have hW' := hW
  obtain ⟨p, q, hA0, hV, rfl, _, _⟩ := hW
  have hA : DataW.TrodAll enc Tryz.prog W 0 (fun _ => true) true Tryz.f12.params.toList args.toList ds p := hA0
  rw [Tryz.params12] at hA hval
  have hkeep := hA
  obtain ⟨rfl, rfl⟩ := trodVars_none hV
  simp only [List.append_nil] at hW'
  have hlt : ∀ x ∈ p, x.block < W.heap.size := fun x hx => by simpa using hW'.lt x hx
  obtain ⟨v0, vs0, d0, ds0, p0, q0, hargs0, rfl, rfl, h0, hA0'⟩ := trodAll_cons hA
  obtain ⟨v1, vs1, d1, ds1, p1, q1, hargs1, rfl, rfl, h1, hA1'⟩ := trodAll_cons hA0'
  obtain ⟨v2, vs2, d2, ds2, p2, q2, hargs2, rfl, rfl, h2, hA2'⟩ := trodAll_cons hA1'
  obtain ⟨e1, rfl, rfl⟩ := trodAll_nil hA2'
  subst e1
  subst hargs2
  subst hargs1
  have hargs' : args = #[v0, v1, v2] := Array.toList_inj.1 hargs0
  subst hargs'
  obtain ⟨cut0, bar0, day0, s0, l0, rfl, he0, hf0, wc0, wb0, wd0⟩ := open_rgs (hval 0 _ v0 rfl rfl) h0
  obtain ⟨q1, rfl, hq1⟩ := open_evt (hval 1 _ v1 rfl rfl) h1
  obtain ⟨n2, rfl, rfl, _, wf2⟩ := open_int Tryz.underlying3 (hval 2 _ v2 rfl rfl) h2
  refine (b5j cut0 bar0 day0 s0 l0 q1 n2 W he0 hf0 (a8y wc0) (a8y wb0) (a8y wd0) hq1 (a8y wf2)).mono fun e W' ⟨he, hb⟩ => ?_
  subst he
  exact ⟨_, rfl, _, _, _, [], _, [], hW', trodAll_mk1 (shut_bool Tryz.underlying4 _),
    b0v c3d hb hkeep (fun t ht => by
      have hall : ([24, 56, 3].all fun u => Tryz.prog.readableRec u && decide (u < Tryz.prog.types.size)) = true := by kernel_rfl
      have := List.all_eq_true.1 hall t ht
      rw [Bool.and_eq_true, decide_eq_true_eq] at this
      exact this) hlt, rfl, hb.frame _, fun h => by cases h⟩

end Go.Proofs.YtlkhoommpkndpaaGreatDoor
