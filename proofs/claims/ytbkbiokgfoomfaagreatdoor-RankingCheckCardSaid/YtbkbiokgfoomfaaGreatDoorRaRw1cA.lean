/-
RankingCheck: its row, lifted.
-/
import Derived.Test.YtbkbiokgfoomfaaGreatDoorRa46
namespace Go.Proofs.YtbkbiokgfoomfaaGreatDoor
open Go.ChangeShapes Go.WideShapes Go.ChangeAt Go.ChangeMaps Go.RowKit

set_option maxRecDepth 100000 in
theorem rankingCheck_lifted (os : Os) (started : os.Started) (H : Type) (enc : TypeId × Value -> H) :
    ReturnsInHanded {} Tryz.checked os 3 .any (fun w args => (Rows.rankingCheckSpec.pre enc Tryz.prog Tryz.f3 [] false w args /\ laidMetH Tryz.prog b6h w) /\ sizedMet enc Tryz.prog Tryz.f3 (OpenSpec.ofChange Rows.rankingCheckSpec) false w args)
      (Rows.rankingCheckSpec.post enc Tryz.prog Tryz.f3 false true false false) := by
  refine returnsInHanded_of_change_and (C := Tryz.checked) (X := fun w _ => laidMetH Tryz.prog b6h w) (fun _ _ _ hh h => h.of_heap hh) own_knob started (by kernel_rfl) Tryz.func3
    (ChangeSpec.witness_shaped (enc := enc) (C := Tryz.checked) (os := os) (X := fun w _ => laidMetH Tryz.prog b6h w) false (World.laidAll Tryz.prog os b6h) #[.slice none 0 0] 8 (World.laidAll_os _ _ _)
      (b6g os _) (by kernel_rfl) (by kernel_rfl) (by kernel_rfl) (laid_met os _)) ?_
  intro W base args ds gs before hval0 hW _ _ hL _
  have hval : ∀ (j : Nat) t v, Tryz.f3.params[j]? = some t -> args[j]? = some v -> Value.okWide Tryz.prog W .any base t v := hval0
  have hW' := hW
  obtain ⟨p, q, hA0, hV, rfl, _, _⟩ := hW
  have hA : DataW.TrodAll enc Tryz.prog W 0 (fun _ => true) true Tryz.f3.params.toList args.toList ds p := hA0
  rw [Tryz.params3] at hA hval
  have hkeep := hA
  obtain ⟨rfl, rfl⟩ := trodVars_none hV
  simp only [List.append_nil] at hW'
  have hlt : ∀ x ∈ p, x.block < W.heap.size := fun x hx => by simpa using hW'.lt x hx
  obtain ⟨v0, vs0, d0, ds0, p0, q0, hargs0, rfl, rfl, h0, hA0'⟩ := trodAll_cons hA
  obtain ⟨e1, rfl, rfl⟩ := trodAll_nil hA0'
  subst e1
  have hargs' : args = #[v0] := Array.toList_inj.1 hargs0
  subst hargs'
  have hh0 := h0
  obtain ⟨fuel0, g0⟩ := hh0
  obtain ⟨x0, qs0, hv0, hq0, hday0⟩ := open_slc (⟨[], 0, ⟨false, [], []⟩⟩ : Nmd) c2c Tryz.underlying22 (by decide) b1d nmd_len5 (fun n cs' y h => c1v h) g0
  obtain ⟨a0, len0, cap0, rfl⟩ := okWide_slice Tryz.underlying22 (hval 0 _ v0 rfl rfl)
  have hx0 : x0 = .slice a0 len0 cap0 := by
    have : [Value.slice a0 len0 cap0] = [x0] := hv0
    injection this with this
    exact this.symm
  subst hx0
  refine (a8w _ qs0 W hq0).mono fun e W' ⟨he, hb⟩ => ?_
  subst he
  exact ⟨_, rfl, _, _, _, [], _, [], hW', trodAll_mk1 (shut_bool Tryz.underlying4 _),
    a6y laidOut hb hkeep (fun t ht => by
      have hall : ([22].all fun u => Tryz.prog.readableRec u && decide (u < Tryz.prog.types.size)) = true := by kernel_rfl
      have := List.all_eq_true.1 hall t ht
      rw [Bool.and_eq_true, decide_eq_true_eq] at this
      exact this) hlt, rfl, hb.frame _, fun h => by cases h⟩

end Go.Proofs.YtbkbiokgfoomfaaGreatDoor
