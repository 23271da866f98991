/-
CurrencyRate: the law walked, its row, its card.
-/
import Derived.Test.YtcbjehnjbfmchaaDoorPA
import Derived.Test.YtcbjehnjbfmchaaDoorPB
namespace Go.Proofs.YtcbjehnjbfmchaaDoor
open Go.ChangeShapes Go.WideShapes Go.ChangeAt Go.ChangeMaps Go.RowKit

theorem few_ok' {qs : List Quo} (h : fewQs qs = true) (hd : ∀ q ∈ qs, QuoDay q) : ∀ q ∈ qs, q.ok := by
  intro q hq
  unfold fewQs at h
  rw [Bool.and_eq_true] at h
  have h1 := List.all_eq_true.1 h.2 q hq
  unfold fewQ fewR at h1
  simp only [Bool.and_eq_true, decide_eq_true_eq] at h1
  exact ⟨by omega, by omega, by omega, (hd q hq).1, (hd q hq).2⟩

/-- A rate is short, as the quotes are. -/
theorem rate_short {qs : List Quo} (h : ∀ q ∈ qs, q.ok) (code : List UInt8) (day : Int) : (rateQ qs code day).1.num.length ≤ 17179869184 ∧ (rateQ qs code day).1.den.length ≤ 17179869184 := by
  unfold rateQ
  split
  · exact ⟨Nat.zero_le _, Nat.zero_le _⟩
  · split
    · exact ⟨by decide, by decide⟩
    · split
      · exact ⟨by decide, by decide⟩
      · split
        · exact ⟨by decide, by decide⟩
        · exact ⟨by decide, by decide⟩
        · rename_i b _
          cases hq : qs[b]? with
          | none => exact ⟨by decide, by decide⟩
          | some q =>
            have := h q (List.mem_of_getElem? hq)
            exact ⟨this.2.1, this.2.2.1⟩

set_option maxRecDepth 100000 in
set_option maxHeartbeats 1000000 in
theorem law_CurrencyRate (v : Value) (qs : List Quo) (s : ByteArray) (day : Int) (w : World) (h : Quotes w v qs) (hd : ∀ q ∈ qs, QuoDay q) (_ : s.size ≤ maxLen) (_ : -9223372036854775808 ≤ day ∧ day ≤ 9223372036854775807) :
    Calls Tryd.prog 5 #[v, .string s, .int .i64 day] w fun e w' => e = .returned (.bool true) ∧ Below w.heap.size w w' := by
  have H := Lib.hid h
  have hF := law7_few v qs w h
  obtain ⟨x, hx⟩ : ∃ x, x = fewQs qs := ⟨_, rfl⟩
  rw [← hx] at hF
  have HF := Lib.hid hF
  cases x
  · clear h hF hx hd
    go_enter Tryd.func5, Tryd.ntmps5
    go_wp2_with fail
    refine HF.out.mono ?_
    rintro e w1 ⟨rfl, hb1⟩
    go_wp2_with fail
    refine (law7_awake _).mono ?_
    rintro e w2 ⟨rfl, hb2⟩
    go_wp2
    go_ret
    exact ⟨rfl, Ext.trans hb1 hb2⟩
  · have hok := few_ok' hx.symm hd
    obtain ⟨l1, l2⟩ := rate_short hok s.data.toList day
    have hA := fun W (hb : Below w.heap.size w W) => currency_Rate v qs s.data.toList day W (h.below hb) hok
    have hB := fun W (hb : Below w.heap.size w W) => ref_ExchangeRate v qs s.data.toList day W (h.below hb) hok
    rw [bs_of] at hA hB
    obtain ⟨r, n, hr⟩ : ∃ r n, rateQ qs s.data.toList day = (r, n) := ⟨_, _, rfl⟩
    rw [hr] at hA hB l1 l2
    dsimp only at hA hB l1 l2
    have eq := fun W => rat_eql r.neg r.neg r.num r.num r.den r.den (by omega) (by omega) (by omega) (by omega) true (by simp) W
    obtain ⟨rn, ra, rd⟩ := r
    unfold Trip.val raw at hA hB
    unfold raw at eq
    dsimp only at hA hB eq
    have HA := Lib.hid hA
    have HB := Lib.hid hB
    clear h hF hx hd hok hA hB l1 l2 hr
    go_enter Tryd.func5, Tryd.ntmps5
    go_wp2_with fail
    refine HF.out.mono ?_
    rintro e w1 ⟨rfl, hb1⟩
    go_wp2_with fail
    refine (HA.out _ hb1).mono ?_
    rintro e w2 ⟨rfl, hb2⟩
    have hb12 := Ext.alloc (Ext.trans hb1 hb2) (Obj.cells #[.bool rn, .string (bs ra), .string (bs rd)] 30)
    have k2 := Blk.new w2 #[.bool rn, .string (bs ra), .string (bs rd)] 30
    go_wp2_with fail
    refine (HB.out _ hb12).mono ?_
    rintro e w3 ⟨rfl, hb3⟩
    have hb13 := Ext.alloc (Ext.trans hb12 hb3) (Obj.cells #[.bool rn, .string (bs ra), .string (bs rd)] 30)
    have k2' := (k2.below hb3 (Blk.lt k2)).alloc (Obj.cells #[.bool rn, .string (bs ra), .string (bs rd)] 30)
    have k3 := Blk.new w3 #[.bool rn, .string (bs ra), .string (bs rd)] 30
    go_wp2_with fail
    refine (law7_awake _).mono ?_
    rintro e w4 ⟨rfl, hb4⟩
    have K2 := k2'.below hb4 (Blk.lt k2')
    have K3 := k3.below hb4 (Blk.lt k3)
    have x0 := K2.cell 0 _ rfl
    have x1 := K2.cell 1 _ rfl
    have x2 := K2.cell 2 _ rfl
    have y0 := K3.cell 0 _ rfl
    have y1 := K3.cell 1 _ rfl
    have y2 := K3.cell 2 _ rfl
    have HBW := Lib.hid (Ext.trans hb13 hb4)
    clear hb1 hb2 hb3 hb12 hb13 hb4 k2 k2' k3 K2 K3
    go_wp2
    go_ret
    exact ⟨rfl, HBW.out⟩

set_option maxRecDepth 100000 in
theorem currencyRate_lifted (os : Os) (started : os.Started) (H : Type) (enc : TypeId × Value → H) :
    ReturnsInHanded {} Tryd.checked os 5 .any (fun w args => (Rows.currencyRateSpec.pre enc Tryd.prog Tryd.f5 [] false w args ∧ laidMetH Tryd.prog laidL w) ∧ sizedMet enc Tryd.prog Tryd.f5 (OpenSpec.ofChange Rows.currencyRateSpec) false w args)
      (Rows.currencyRateSpec.post enc Tryd.prog Tryd.f5 false true false false) := by
  refine returnsInHanded_of_change_and (C := Tryd.checked) (X := fun w _ => laidMetH Tryd.prog laidL w) (fun _ _ _ hh h => h.of_heap hh) own_knob started (by kernel_rfl) Tryd.func5
    (ChangeSpec.witness_shaped (enc := enc) (C := Tryd.checked) (os := os) (X := fun w _ => laidMetH Tryd.prog laidL w) false (World.laidAll Tryd.prog os laidL) #[.slice none 0 0, .string ⟨#[]⟩, .int .i64 0] 8 (World.laidAll_os _ _ _)
      (laid_shaped os _) (by kernel_rfl) (by kernel_rfl) (by kernel_rfl) (laid_met os _)) ?_
  intro W base args ds gs before hval0 hW _ _ hL _
  have hval : ∀ (j : Nat) t v, Tryd.f5.params[j]? = some t → args[j]? = some v → Value.okWide Tryd.prog W .any base t v := hval0
  have hW' := hW
  obtain ⟨p, q, hA0, hV, rfl, _, _⟩ := hW
  have hA : DataW.TrodAll enc Tryd.prog W 0 (fun _ => true) true Tryd.f5.params.toList args.toList ds p := hA0
  rw [Tryd.params5] at hA hval
  have hkeep := hA
  obtain ⟨rfl, rfl⟩ := trodVars_none hV
  simp only [List.append_nil] at hW'
  have hlt : ∀ x ∈ p, x.block < W.heap.size := fun x hx => by simpa using hW'.lt x hx
  obtain ⟨v0, vs0, d0, ds0, p0, q0, hargs0, rfl, rfl, h0, hA0'⟩ := trodAll_cons hA
  obtain ⟨v1, vs1, d1, ds1, p1, q1, hargs1, rfl, rfl, h1, hA1'⟩ := trodAll_cons hA0'
  obtain ⟨v2, vs2, d2, ds2, p2, q2, hargs2, rfl, rfl, h2, hA2'⟩ := trodAll_cons hA1'
  obtain ⟨e1, rfl, rfl⟩ := trodAll_nil hA2'
  subst e1
  subst hargs2
  subst hargs1
  have hargs' : args = #[v0, v1, v2] := Array.toList_inj.1 hargs0
  subst hargs'
  have hh0 := h0
  obtain ⟨fuel0, g0⟩ := hh0
  obtain ⟨x0, qs0, hv0, hq0, hday0⟩ := open_slc (⟨[], 0, false, [], []⟩ : Quo) QuoDay Tryd.underlying22 (by decide) cells_quote quo_len (fun n cs' y h => dec_quote h) g0
  obtain ⟨a0, len0, cap0, rfl⟩ := okWide_slice Tryd.underlying22 (hval 0 _ v0 rfl rfl)
  have hx0 : x0 = .slice a0 len0 cap0 := by
    have : [Value.slice a0 len0 cap0] = [x0] := hv0
    injection this with this
    exact this.symm
  subst hx0
  obtain ⟨s1, rfl, rfl, _, ls1⟩ := open_string Tryd.underlying9 (hval 1 _ v1 rfl rfl) h1
  obtain ⟨n2, rfl, rfl, _, wf2⟩ := open_int Tryd.underlying3 (hval 2 _ v2 rfl rfl) h2
  refine (law_CurrencyRate _ qs0 s1 n2 W hq0 hday0 ls1 (int_range wf2)).mono fun e W' ⟨he, hb⟩ => ?_
  subst he
  exact ⟨_, rfl, _, _, _, [], _, [], hW', trodAll_mk1 (shut_bool Tryd.underlying4 _),
    trodAll_below laidOut hb hkeep (fun t ht => by
      have hall : ([22, 9, 3].all fun u => Tryd.prog.readableRec u && decide (u < Tryd.prog.types.size)) = true := by kernel_rfl
      have := List.all_eq_true.1 hall t ht
      rw [Bool.and_eq_true, decide_eq_true_eq] at this
      exact this) hlt, rfl, hb.frame _, fun h => by cases h⟩

set_option maxRecDepth 100000 in
theorem currencyRate_holds : Rows.CurrencyRateSaid :=
  OpenClaim.holds_of_wide 5 Tryd.f5 rfl rfl rfl rfl rfl rfl rfl ⟨rfl, rfl, rfl, rfl, rfl⟩ rfl rfl rfl rfl rfl (by kernel_rfl) Tryd.func5 (by kernel_rfl)
    (of_decide_eq_true (by kernel_rfl)) (by unfold Func.isWrapper; first | (rw [if_pos (by decide +kernel)]; kernel_rfl) | (rw [if_neg (by decide +kernel)]; exact ⟨rfl, rfl⟩))
    (fun os started H enc _ => currencyRate_lifted os started H enc)

set_option maxRecDepth 100000 in
theorem currencyRate_card : Rows.CurrencyRateCardSaid :=
  Claim7.holds_tied_plain_at .later [] [.data, .pinned] true (true, "9202a00ce268925bc076c3f8bf0d41c12160ba03541809317b2e0cdca78e2ce3") false currencyRate_holds (fun _ h => by cases h) (by kernel_rfl) (fun _ h => by cases h) currencyRate_row_tie rfl ⟨rfl, rfl⟩ (by kernel_rfl) rfl
    (fun f fn hf hfn => by
      obtain rfl : f = 5 := Option.some.inj ((show Tryd.prog.funcNamed "insolvency/insolvencylaw7.CurrencyRate" = some 5 by kernel_rfl).symm.trans hf) |>.symm
      obtain rfl : fn = Tryd.f5 := (Option.some.inj (Tryd.func5.symm.trans hfn)).symm
      exact ⟨by kernel_rfl, fun j t ht => by
        rw [Tryd.params5] at ht
        have hm : t ∈ [22, 9, 3] := by simpa using Array.mem_of_getElem? ht
        have hall : ([22, 9, 3].all fun u => !Tryd.prog.wantsStandIn u) = true := by kernel_rfl
        exact (show Tryd.prog.wantsStandIn t = false by simpa using List.all_eq_true.1 hall t hm)⟩)
    (by kernel_rfl)
#print axioms currencyRate_card

end Go.Proofs.YtcbjehnjbfmchaaDoor
