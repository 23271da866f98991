/-
CurrencyCheck: the law walked, its row, its card.
-/
import Derived.Test.YtcbjehnjbfmchaaDoorPA
import Derived.Test.YtcbjehnjbfmchaaDoorPB
namespace Go.Proofs.YtcbjehnjbfmchaaDoor
open Go.ChangeShapes Go.WideShapes Go.ChangeAt Go.RowKit

theorem few_ok {qs : List Quo} (h : fewQs qs = true) (hd : ∀ q ∈ qs, QuoDay q) : ∀ q ∈ qs, q.ok := by
  intro q hq
  unfold fewQs at h
  rw [Bool.and_eq_true] at h
  have h1 := List.all_eq_true.1 h.2 q hq
  unfold fewQ fewR at h1
  simp only [Bool.and_eq_true, decide_eq_true_eq] at h1
  exact ⟨by omega, by omega, by omega, (hd q hq).1, (hd q hq).2⟩

set_option maxRecDepth 100000 in
theorem law_CurrencyCheck (v : Value) (qs : List Quo) (w : World) (h : Quotes w v qs) (hd : ∀ q ∈ qs, QuoDay q) :
    Calls Tryd.prog 3 #[v] w fun e w' => e = .returned (.bool true) ∧ Below w.heap.size w w' := by
  have H := Lib.hid h
  have hF := law7_few v qs w h
  obtain ⟨x, hx⟩ : ∃ x, x = fewQs qs := ⟨_, rfl⟩
  rw [← hx] at hF
  have HF := Lib.hid hF
  cases x
  · clear h hF hx hd
    go_enter Tryd.func3, Tryd.ntmps3
    go_wp2_with fail
    refine HF.out.mono ?_
    rintro e w1 ⟨rfl, hb1⟩
    go_wp2_with fail
    refine (law7_awake _).mono ?_
    rintro e w2 ⟨rfl, hb2⟩
    go_wp2
    go_ret
    exact ⟨rfl, Ext.trans hb1 hb2⟩
  · have hok := few_ok hx.symm hd
    have hA := fun W (hb : Below w.heap.size w W) => currency_Check v qs W (h.below hb) hok
    have hB := fun W (hb : Below w.heap.size w W) => ref_CheckQuotes v qs W (h.below hb) hok
    have HA := Lib.hid hA
    have HB := Lib.hid hB
    clear h hF hx hd hok hA hB
    go_enter Tryd.func3, Tryd.ntmps3
    go_wp2_with fail
    refine HF.out.mono ?_
    rintro e w1 ⟨rfl, hb1⟩
    go_wp2_with fail
    refine (law7_awake _).mono ?_
    rintro e w2 ⟨rfl, hb2⟩
    have hb12 := Ext.trans hb1 hb2
    go_wp2_with fail
    refine (HA.out _ hb12).mono ?_
    rintro e w3 ⟨rfl, hb3⟩
    have hb13 := Ext.trans hb12 hb3
    go_wp2_with fail
    refine (HB.out _ hb13).mono ?_
    rintro e w4 ⟨rfl, hb4⟩
    go_wp2
    go_ret
    exact ⟨rfl, Ext.trans hb13 hb4⟩

set_option maxRecDepth 100000 in
theorem currencyCheck_lifted (os : Os) (started : os.Started) (H : Type) (enc : TypeId × Value → H) :
    ReturnsInHanded {} Tryd.checked os 3 .any (fun w args => (Rows.currencyCheckSpec.pre enc Tryd.prog Tryd.f3 [] false w args ∧ laidMetH Tryd.prog laidL w) ∧ sizedMet enc Tryd.prog Tryd.f3 (OpenSpec.ofChange Rows.currencyCheckSpec) false w args)
      (Rows.currencyCheckSpec.post enc Tryd.prog Tryd.f3 false true false false) := by
  refine returnsInHanded_of_change_and (C := Tryd.checked) (X := fun w _ => laidMetH Tryd.prog laidL w) (fun _ _ _ hh h => h.of_heap hh) own_knob started (by kernel_rfl) Tryd.func3
    (ChangeSpec.witness_shaped (enc := enc) (C := Tryd.checked) (os := os) (X := fun w _ => laidMetH Tryd.prog laidL w) false (World.laidAll Tryd.prog os laidL) #[.slice none 0 0] 8 (World.laidAll_os _ _ _)
      (World.shaped_of_ZipB (by kernel_rfl) (by kernel_rfl)) (by kernel_rfl) (by kernel_rfl) (by kernel_rfl)
      (by rw [MakeChecks.laidMetH_plain _ _ _ (by kernel_rfl)]; exact laidMet_laidAll _ (by kernel_rfl) (by kernel_rfl))) ?_
  intro W base args ds gs before hval0 hW _ _ hL _
  have hval : ∀ (j : Nat) t v, Tryd.f3.params[j]? = some t → args[j]? = some v → Value.okWide Tryd.prog W .any base t v := hval0
  have hW' := hW
  obtain ⟨p, q, hA0, hV, rfl, _, _⟩ := hW
  have hA : DataW.TrodAll enc Tryd.prog W 0 (fun _ => true) true Tryd.f3.params.toList args.toList ds p := hA0
  rw [Tryd.params3] at hA hval
  obtain ⟨v0, d0, rfl, rfl, h0⟩ := trodAll_one hA
  obtain ⟨rfl, rfl⟩ := trodVars_none hV
  simp only [List.append_nil] at hW'
  have hlt : ∀ x ∈ p, x.block < W.heap.size := fun x hx => by simpa using hW'.lt x hx
  have h0k := h0
  obtain ⟨fuel, h0⟩ := h0
  obtain ⟨v, qs, hv, hq, hday⟩ := open_slc (⟨[], 0, false, [], []⟩ : Quo) QuoDay Tryd.underlying22 (by decide) cells_quote quo_len (fun n cs' y h => dec_quote h) h0
  obtain ⟨a, len, cap, rfl⟩ := okWide_slice Tryd.underlying22 (hval 0 _ v0 rfl rfl)
  have hv' : v = .slice a len cap := by
    have : [Value.slice a len cap] = [v] := hv
    injection this with this
    exact this.symm
  subst hv'
  refine (law_CurrencyCheck _ qs W hq hday).mono fun e W' ⟨he, hb⟩ => ?_
  subst he
  exact ⟨_, rfl, _, _, _, [], p, [], hW', trodAll_mk1 (shut_bool Tryd.underlying4 _), trodAll_mk1 (Below.trod laidOut (by kernel_rfl) (of_decide_eq_true (by kernel_rfl)) h0k hb hlt), rfl, hb.frame _, fun h => by cases h⟩

set_option maxRecDepth 100000 in
theorem currencyCheck_holds : Rows.CurrencyCheckSaid :=
  OpenClaim.holds_of_wide 3 Tryd.f3 rfl rfl rfl rfl rfl rfl rfl ⟨rfl, rfl, rfl, rfl, rfl⟩ rfl rfl rfl rfl rfl (by kernel_rfl) Tryd.func3 (by kernel_rfl)
    (of_decide_eq_true (by kernel_rfl)) (by unfold Func.isWrapper; first | (rw [if_pos (by decide +kernel)]; kernel_rfl) | (rw [if_neg (by decide +kernel)]; exact ⟨rfl, rfl⟩))
    (fun os started H enc _ => currencyCheck_lifted os started H enc)

set_option maxRecDepth 100000 in
theorem currencyCheck_card : Rows.CurrencyCheckCardSaid :=
  Claim7.holds_tied_plain_at .later [] [.data, .pinned] true (true, "9202a00ce268925bc076c3f8bf0d41c12160ba03541809317b2e0cdca78e2ce3") false currencyCheck_holds (fun _ h => by cases h) (by kernel_rfl) (fun _ h => by cases h) currencyCheck_row_tie rfl ⟨rfl, rfl⟩ (by kernel_rfl) rfl
    (fun f fn hf hfn => by
      obtain rfl : f = 3 := Option.some.inj ((show Tryd.prog.funcNamed "insolvency/insolvencylaw7.CurrencyCheck" = some 3 by kernel_rfl).symm.trans hf) |>.symm
      obtain rfl : fn = Tryd.f3 := (Option.some.inj (Tryd.func3.symm.trans hfn)).symm
      exact ⟨by kernel_rfl, fun j t ht => by
        rw [Tryd.params3] at ht
        have hm : t ∈ [22] := by simpa using Array.mem_of_getElem? ht
        have hall : ([22].all fun u => !Tryd.prog.wantsStandIn u) = true := by kernel_rfl
        exact (show Tryd.prog.wantsStandIn t = false by simpa using List.all_eq_true.1 hall t hm)⟩)
    (by kernel_rfl)
#print axioms currencyCheck_card
end Go.Proofs.YtcbjehnjbfmchaaDoor
