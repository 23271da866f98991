/-
VoteOrder: its row, lifted.
-/
import Derived.Test.YtakoagjpmdcddaaDoorVlE
import Derived.Test.YtakoagjpmdcddaaDoorVrA
namespace Go.Proofs.YtakoagjpmdcddaaDoor
open Go.ChangeShapes Go.WideShapes Go.ChangeAt Go.ChangeMaps Go.RowKit

set_option maxRecDepth 100000 in
theorem voteOrder_lifted (os : Os) (started : os.Started) (H : Type) (enc : TypeId × Value → H) :
    ReturnsInHanded {} Tryd.checked os 5 .any (fun w args => (Rows.voteOrderSpec.pre enc Tryd.prog Tryd.f5 [] false w args ∧ laidMetH Tryd.prog laidL w) ∧ sizedMet enc Tryd.prog Tryd.f5 (OpenSpec.ofChange Rows.voteOrderSpec) false w args)
      (Rows.voteOrderSpec.post enc Tryd.prog Tryd.f5 false true false false) := by
  refine returnsInHanded_of_change_and (C := Tryd.checked) (X := fun w _ => laidMetH Tryd.prog laidL w) (fun _ _ _ hh h => h.of_heap hh) own_knob started (by kernel_rfl) Tryd.func5
    (ChangeSpec.witness_shaped (enc := enc) (C := Tryd.checked) (os := os) (X := fun w _ => laidMetH Tryd.prog laidL w) false (World.laidAll Tryd.prog os laidL) #[.slice none 0 0, .int .u8 0, .int .u8 0] 8 (World.laidAll_os _ _ _)
      (laid_shaped os _) (by kernel_rfl) (by kernel_rfl) (by kernel_rfl) (laid_met os _)) ?_
  intro W base args ds gs before hval0 hW _ _ hL _
  have hval : ∀ (j : Nat) t v, Tryd.f5.params[j]? = some t → args[j]? = some v → Value.okWide Tryd.prog W .any base t v := hval0
  have hW' := hW
  obtain ⟨p, q, hA0, hV, rfl, _, _⟩ := hW
  have hA : DataW.TrodAll enc Tryd.prog W 0 (fun _ => true) true Tryd.f5.params.toList args.toList ds p := hA0
  rw [Tryd.params5] at hA hval
  have hkeep := hA
  obtain ⟨rfl, rfl⟩ := trodVars_none hV
  simp only [List.append_nil] at hW'
  have hlt : ∀ x ∈ p, x.block < W.heap.size := fun x hx => by simpa using hW'.lt x hx
  obtain ⟨v0, vs0, d0, ds0, p0, q0, hargs0, rfl, rfl, h0, hA0'⟩ := trodAll_cons hA
  obtain ⟨v1, vs1, d1, ds1, p1, q1, hargs1, rfl, rfl, h1, hA1'⟩ := trodAll_cons hA0'
  obtain ⟨v2, vs2, d2, ds2, p2, q2, hargs2, rfl, rfl, h2, hA2'⟩ := trodAll_cons hA1'
  obtain ⟨e1, rfl, rfl⟩ := trodAll_nil hA2'
  subst e1
  subst hargs2
  subst hargs1
  have hargs' : args = #[v0, v1, v2] := Array.toList_inj.1 hargs0
  subst hargs'
  have hh0 := h0
  obtain ⟨fuel0, g0⟩ := hh0
  obtain ⟨x0, qs0, hv0, hq0, hday0⟩ := open_slc (⟨0, 0, 0, 0⟩ : Qua) Qua.ok Tryd.underlying23 (by decide) cells_arr4 qua_len (fun n cs' y h => dec_arr4 h) g0
  obtain ⟨a0, len0, cap0, rfl⟩ := okWide_slice Tryd.underlying23 (hval 0 _ v0 rfl rfl)
  have hx0 : x0 = .slice a0 len0 cap0 := by
    have : [Value.slice a0 len0 cap0] = [x0] := hv0
    injection this with this
    exact this.symm
  subst hx0
  obtain ⟨n1, rfl, rfl, _, wf1⟩ := open_int Tryd.underlying5 (hval 1 _ v1 rfl rfl) h1
  obtain ⟨n2, rfl, rfl, _, wf2⟩ := open_int Tryd.underlying5 (hval 2 _ v2 rfl rfl) h2
  refine (law_VoteOrder _ qs0 n1 n2 W hq0 hday0 (u8_range wf1) (u8_range wf2)).mono fun e W' ⟨he, hb⟩ => ?_
  subst he
  exact ⟨_, rfl, _, _, _, [], _, [], hW', trodAll_mk1 (shut_bool Tryd.underlying4 _),
    trodAll_below laidOut hb hkeep (fun t ht => by
      have hall : ([23, 5, 5].all fun u => Tryd.prog.readableRec u && decide (u < Tryd.prog.types.size)) = true := by kernel_rfl
      have := List.all_eq_true.1 hall t ht
      rw [Bool.and_eq_true, decide_eq_true_eq] at this
      exact this) hlt, rfl, hb.frame _, fun h => by cases h⟩

end Go.Proofs.YtakoagjpmdcddaaDoor
