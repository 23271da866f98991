/-
CurrencyMany: the list is built, the law walked.
-/
import Derived.Test.YtcbjehnjbfmchaaDoorPA
import Derived.Test.YtcbjehnjbfmchaaDoorPB
namespace Go.Proofs.YtcbjehnjbfmchaaDoor
open Go.ChangeShapes Go.WideShapes Go.ChangeAt Go.ChangeMaps Go.RowKit

def manyQ (n : Nat) : List Quo := (List.range n).map fun i : Nat => ⟨usd, (i : Int), false, [1], []⟩
theorem manyQ_len (n : Nat) : (manyQ n).length = n := by simp [manyQ]
theorem manyQ_succ (n : Nat) : manyQ (n + 1) = manyQ n ++ [⟨usd, (n : Int), false, [1], []⟩] := by simp [manyQ, List.range_succ]
theorem manyQ_mem {n : Nat} {q : Quo} (h : q ∈ manyQ n) : ∃ i, i < n ∧ q = ⟨usd, ((i : Nat) : Int), false, [1], []⟩ := by
  unfold manyQ at h
  rw [List.mem_map] at h
  obtain ⟨i, hi, rfl⟩ := h
  exact ⟨i, by simpa using hi, rfl⟩
theorem many_ok (n : Nat) (hn : n ≤ 286) : ∀ q ∈ manyQ n, q.ok := by
  intro q hq
  obtain ⟨i, hi, rfl⟩ := manyQ_mem hq
  exact ⟨by show 3 ≤ _; decide, by show 1 ≤ _; decide, Nat.zero_le _, by show _ ≤ ((i : Nat) : Int); omega, by show ((i : Nat) : Int) ≤ _; omega⟩
theorem many_check : ∀ (k n : Nat), n + k ≤ 286 → checkFrom (manyQ n) ((manyQ (n + k)).drop n) = 0
  | 0, n, _ => by
    rw [List.drop_of_length_le (by rw [manyQ_len]; omega)]; rfl
  | k + 1, n, h => by
    have hq : (manyQ (n + (k + 1)))[n]? = some ⟨usd, ((n : Nat) : Int), false, [1], []⟩ := by
      unfold manyQ
      rw [List.getElem?_map, List.getElem?_range (by omega)]; rfl
    rw [drop_at hq]
    have he : qErr (manyQ n) ⟨usd, ((n : Nat) : Int), false, [1], []⟩ = 0 := by
      refine qErr_none (show isCodeB usd = true by decide) (show (usd == eur) = false by decide) ?_ (show decide (0 < (decR false [1] []).num) = true by decide +kernel) ?_
      · show (decide (0 ≤ ((n : Nat) : Int)) && decide (((n : Nat) : Int) ≤ 1048576)) = true
        rw [decide_eq_true (by omega), decide_eq_true (by omega)]; rfl
      · rw [List.any_eq_false]
        intro p hp
        obtain ⟨i, hi, rfl⟩ := manyQ_mem hp
        unfold sameQ
        have : (((i : Nat) : Int) == ((n : Nat) : Int)) = false := by rw [beq_eq_false_iff_ne]; omega
        simp only [this, Bool.and_false]; decide
    rw [checkFrom, if_pos he, ← manyQ_succ, show n + (k + 1) = (n + 1) + k by omega]
    exact many_check k (n + 1) (by omega)
theorem many_answer (n : Nat) (hn : n ≤ 286) : checkQ (manyQ n) = if 256 < n then 2 else 0 := by
  unfold checkQ
  rw [manyQ_len]
  split
  · rfl
  · have := many_check n 0 (by omega)
    rw [Nat.zero_add, List.drop_zero] at this
    exact this

set_option maxRecDepth 100000 in
set_option maxHeartbeats 1000000 in
theorem law_CurrencyMany (m : Int) (w : World) (hm : 0 ≤ m ∧ m ≤ 65535) :
    Calls Tryd.prog 4 #[.int .u16 m] w fun e w' => e = .returned (.bool true) ∧ Below w.heap.size w w' := by
  obtain ⟨i0, hi, hz0, hz1, hz2⟩ := info_parts info_quote
  have HI := Lib.hid hi
  clear hi
  obtain ⟨h0, h1⟩ := hm
  obtain ⟨N, hN⟩ : ∃ N : Nat, (N : Int) = m % 286 := ⟨(m % 286).toNat, by omega⟩
  have hN2 : N ≤ 285 := by omega
  have HN := Lib.hid hN
  clear hN
  go_enter Tryd.func4, Tryd.ntmps4
  go_wp2
  go_loopw [3, 4] (fun l i wr => ∃ k : Nat, k ≤ N ∧ i = .int .i64 k ∧ wr.ownsRow w.heap.size 33 5 l k (flat Quo.enc (manyQ k)) ∧ Below w.heap.size w wr) (fun _ i _ => N - (intOf i).toNat)
  case atStart => exact ⟨0, Nat.zero_le _, rfl, ⟨rfl, .inl ⟨rfl, rfl⟩⟩, Below.refl _ _⟩
  case round =>
    obtain ⟨k, hk, rfl, hown, hb⟩ := hrel
    by_cases hlt : k < N
    · have hd : decide ((k : Int) < m % 286) = true := decide_eq_true (by rw [← HN.out]; omega)
      have hsz := hb.size
      go_wp2_with fail
      refine (rational_One _).mono ?_
      rintro e w1 ⟨rfl, hb1⟩
      have hown1 := hown.kept (only_below hb1 none) (Classical.em _)
      have hb01 := Ext.trans hb hb1
      have hs1 := hb01.size
      have hby : (k + 1) * 64 ≤ 140737488355328 := by omega
      clear hown hb hb1
      unfold raw
      go_wp2_with (at_builtin; refine wpList_push w1 rfl _ _ 22 rfl w.heap.size 33 i0 _ 5 64 Tryd.underlying22 HI.out hz0 hz1 hz2 rfl (by decide) quo_len _ k (manyQ k) rfl (by exact hown1) ⟨usd, ((k : Nat) : Int), false, [1], []⟩ _ ?c1 rfl (quo_cells _) (by unfold maxLen; omega) hby hs1 ?_)
      case c1 => rfl
      intro v2 w2 hown2 hb2
      rw [← manyQ_succ] at hown2
      go_wp2
      go_roundw
      case rel => exact ⟨k + 1, by omega, by go_num, hown2, hb01.trans hb2⟩
      case measure => simp [intOf]; omega
    · have hk' : k = N := by omega
      subst hk'
      have hd : decide ((k : Int) < m % 286) = false := decide_eq_false (by rw [← HN.out]; omega)
      have hq := Slc.of_own quo_len hown (manyQ_len k)
      have hC := fun W (h : Below wr.heap.size wr W) => currency_Check _ (manyQ k) W (hq.below h) (many_ok k (by omega))
      rw [many_answer k (by omega)] at hC
      have HC := Lib.hid hC
      obtain ⟨A, c, rfl, hl, hc⟩ := hq.slice
      rw [manyQ_len] at HC hl ⊢
      clear hC hq hown
      by_cases h256 : 256 < k
      · have d1 : decide ((256 : Int) < (k : Int)) = true := decide_eq_true (by omega)
        simp only [if_pos h256] at HC
        go_wp2_with fail
        refine (law7_awake _).mono ?_
        rintro e w2 ⟨rfl, hb2⟩
        go_wp2_with fail
        refine (HC.out _ hb2).mono ?_
        rintro e w3 ⟨rfl, hb3⟩
        go_wp2
        go_ret
        exact ⟨rfl, Ext.trans hb (Ext.trans hb2 hb3)⟩
      · have d1 : decide ((256 : Int) < (k : Int)) = false := decide_eq_false (by omega)
        simp only [if_neg h256] at HC
        go_wp2_with fail
        refine (law7_awake _).mono ?_
        rintro e w2 ⟨rfl, hb2⟩
        go_wp2_with fail
        refine (HC.out _ hb2).mono ?_
        rintro e w3 ⟨rfl, hb3⟩
        go_wp2
        go_ret
        exact ⟨rfl, Ext.trans hb (Ext.trans hb2 hb3)⟩

set_option maxRecDepth 100000 in
theorem currencyMany_lifted (os : Os) (started : os.Started) (H : Type) (enc : TypeId × Value → H) :
    ReturnsInHanded {} Tryd.checked os 4 .any (fun w args => (Rows.currencyManySpec.pre enc Tryd.prog Tryd.f4 [] false w args ∧ laidMetH Tryd.prog laidL w) ∧ sizedMet enc Tryd.prog Tryd.f4 (OpenSpec.ofChange Rows.currencyManySpec) false w args)
      (Rows.currencyManySpec.post enc Tryd.prog Tryd.f4 false true false false) := by
  refine returnsInHanded_of_change_and (C := Tryd.checked) (X := fun w _ => laidMetH Tryd.prog laidL w) (fun _ _ _ hh h => h.of_heap hh) own_knob started (by kernel_rfl) Tryd.func4
    (ChangeSpec.witness_shaped (enc := enc) (C := Tryd.checked) (os := os) (X := fun w _ => laidMetH Tryd.prog laidL w) false (World.laidAll Tryd.prog os laidL) #[.int .u16 0] 8 (World.laidAll_os _ _ _)
      (laid_shaped os _) (by kernel_rfl) (by kernel_rfl) (by kernel_rfl) (laid_met os _)) ?_
  intro W base args ds gs before hval0 hW _ _ hL _
  have hval : ∀ (j : Nat) t v, Tryd.f4.params[j]? = some t → args[j]? = some v → Value.okWide Tryd.prog W .any base t v := hval0
  have hW' := hW
  obtain ⟨p, q, hA0, hV, rfl, _, _⟩ := hW
  have hA : DataW.TrodAll enc Tryd.prog W 0 (fun _ => true) true Tryd.f4.params.toList args.toList ds p := hA0
  rw [Tryd.params4] at hA hval
  have hkeep := hA
  obtain ⟨rfl, rfl⟩ := trodVars_none hV
  simp only [List.append_nil] at hW'
  have hlt : ∀ x ∈ p, x.block < W.heap.size := fun x hx => by simpa using hW'.lt x hx
  obtain ⟨v0, vs0, d0, ds0, p0, q0, hargs0, rfl, rfl, h0, hA0'⟩ := trodAll_cons hA
  obtain ⟨e1, rfl, rfl⟩ := trodAll_nil hA0'
  subst e1
  have hargs' : args = #[v0] := Array.toList_inj.1 hargs0
  subst hargs'
  obtain ⟨n0, rfl, rfl, _, wf0⟩ := open_int Tryd.underlying28 (hval 0 _ v0 rfl rfl) h0
  refine (law_CurrencyMany n0 W (u16_range wf0)).mono fun e W' ⟨he, hb⟩ => ?_
  subst he
  exact ⟨_, rfl, _, _, _, [], _, [], hW', trodAll_mk1 (shut_bool Tryd.underlying4 _),
    trodAll_below laidOut hb hkeep (fun t ht => by
      have hall : ([28].all fun u => Tryd.prog.readableRec u && decide (u < Tryd.prog.types.size)) = true := by kernel_rfl
      have := List.all_eq_true.1 hall t ht
      rw [Bool.and_eq_true, decide_eq_true_eq] at this
      exact this) hlt, rfl, hb.frame _, fun h => by cases h⟩

set_option maxRecDepth 100000 in
theorem currencyMany_holds : Rows.CurrencyManySaid :=
  OpenClaim.holds_of_wide 4 Tryd.f4 rfl rfl rfl rfl rfl rfl rfl ⟨rfl, rfl, rfl, rfl, rfl⟩ rfl rfl rfl rfl rfl (by kernel_rfl) Tryd.func4 (by kernel_rfl)
    (of_decide_eq_true (by kernel_rfl)) (by unfold Func.isWrapper; first | (rw [if_pos (by decide +kernel)]; kernel_rfl) | (rw [if_neg (by decide +kernel)]; exact ⟨rfl, rfl⟩))
    (fun os started H enc _ => currencyMany_lifted os started H enc)

set_option maxRecDepth 100000 in
theorem currencyMany_card : Rows.CurrencyManyCardSaid :=
  Claim7.holds_tied_plain_at .later [] [.data, .pinned] true (true, "9202a00ce268925bc076c3f8bf0d41c12160ba03541809317b2e0cdca78e2ce3") false currencyMany_holds (fun _ h => by cases h) (by kernel_rfl) (fun _ h => by cases h) currencyMany_row_tie rfl ⟨rfl, rfl⟩ (by kernel_rfl) rfl
    (fun f fn hf hfn => by
      obtain rfl : f = 4 := Option.some.inj ((show Tryd.prog.funcNamed "insolvency/insolvencylaw7.CurrencyMany" = some 4 by kernel_rfl).symm.trans hf) |>.symm
      obtain rfl : fn = Tryd.f4 := (Option.some.inj (Tryd.func4.symm.trans hfn)).symm
      exact ⟨by kernel_rfl, fun j t ht => by
        rw [Tryd.params4] at ht
        have hm : t ∈ [28] := by simpa using Array.mem_of_getElem? ht
        have hall : ([28].all fun u => !Tryd.prog.wantsStandIn u) = true := by kernel_rfl
        exact (show Tryd.prog.wantsStandIn t = false by simpa using List.all_eq_true.1 hall t hm)⟩)
    (by kernel_rfl)
#print axioms currencyMany_card

end Go.Proofs.YtcbjehnjbfmchaaDoor
