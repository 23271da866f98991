/-
The voters checked: the program's and the document's (printed by gen_vot1.py).
-/
import Derived.Test.YtakoagjpmdcddaaDoorVotD
import Derived.Test.YtakoagjpmdcddaaDoorRcA
namespace Go.Proofs.YtakoagjpmdcddaaDoor
open Go.RowKit

theorem vErr_party {v : Vtr} (h : v.party < 0) : vErr v = 14 := by unfold vErr; rw [if_pos h]
theorem vErr_neg {v : Vtr} (h : ¬ v.party < 0) (h2 : sgn v.amount.num < 0 ∨ sgn v.ask.num < 0) : vErr v = 7 := by unfold vErr; rw [if_neg h, if_pos h2]
theorem vErr_ok {v : Vtr} (h : ¬ v.party < 0) (h1 : ¬ sgn v.amount.num < 0) (h2 : ¬ sgn v.ask.num < 0) : vErr v = 0 := by unfold vErr; rw [if_neg h, if_neg (by omega)]
theorem checkV_err {l : List Vtr} {k : Nat} {v : Vtr} {n : Int} (h : checkV l = checkVTo (l.drop k)) (hq : l[k]? = some v) (he : vErr v = n) (hn : n ≠ 0) : checkV l = n := by rw [h, checkVTo_drop hq, he, if_neg hn]
theorem checkV_go {l : List Vtr} {k : Nat} {v : Vtr} (h : checkV l = checkVTo (l.drop k)) (hq : l[k]? = some v) (he : vErr v = 0) : checkV l = checkVTo (l.drop (k + 1)) := by rw [h, checkVTo_drop hq, he, if_pos rfl]
theorem checkV_end {l : List Vtr} (h : checkV l = checkVTo (l.drop l.length)) : checkV l = 0 := by rw [h, List.drop_length]; rfl

set_option maxRecDepth 100000 in
set_option maxHeartbeats 1000000 in
theorem vote_Check (v : Value) (l : List Vtr) (w : World) (h : VotersL w v l) (hok : SmallV 68719476736 l) :
    Calls Tryd.prog 10 #[v] w fun e w' => e = .returned (.int .i64 (checkV l)) ∧ Below w.heap.size w w' := by
  have H := Lib.hid h
  have HOK := Lib.hid hok
  obtain ⟨A, c, rfl, hl, hc⟩ := h.slice
  clear h hok
  by_cases hlen : 64 < l.length
  · have hd : decide ((64 : Int) < (l.length : Int)) = true := decide_eq_true (by omega)
    have HR := Lib.hid (checkV_long hlen)
    go_enter Tryd.func10, Tryd.ntmps10
    have HS := Lib.hid (St.start w)
    go_wp2
    go_ret
    have HS2 : Hid (St w [] _) := Lib.hid HS.out
    rw [HR.out]
    exact ⟨rfl, HS2.out.below⟩
  · have hd : decide ((64 : Int) < (l.length : Int)) = false := decide_eq_false (by omega)
    have hlen := Nat.not_lt.1 hlen
    have H0 : Hid (checkV l = checkVTo (l.drop 0)) := by show _ = _; rw [checkV_short hlen]; rfl
    go_enter Tryd.func10, Tryd.ntmps10
    have HS := Lib.hid (St.start w)
    go_wp2
    go_loopw [10] (fun i wr => ∃ k : Nat, k ≤ l.length ∧ i = .int .i64 k ∧ Hid (checkV l = checkVTo (l.drop k)) ∧ Hid (St w [] wr)) (fun i _ => l.length - (intOf i).toNat)
    case atStart => exact ⟨0, Nat.zero_le _, rfl, H0.out, HS.out⟩
    case round =>
      clear H0
      obtain ⟨k, hk, rfl, hck, HS⟩ := hrel
      by_cases hlt : k < l.length
      · obtain ⟨b, o, u, rfl, hbb, hq, hx⟩ := H.out.at_ hlt
        have ho := HOK.out u (List.mem_of_getElem? hq)
        have hA := fun W => rational_Sign u.an u.aa u.ab W (ho.1) (ho.2.1)
        have hB := fun W => rational_Sign u.kn u.ka u.kb W (ho.2.2.1) (ho.2.2.2)
        change ∀ W, Calls Tryd.prog _ _ W (fun e w' => e = .returned (.int .i64 (sgn u.amount.num)) ∧ _) at hA
        change ∀ W, Calls Tryd.prog _ _ W (fun e w' => e = .returned (.int .i64 (sgn u.ask.num)) ∧ _) at hB
        unfold raw at hA hB
        obtain ⟨sa, hsa⟩ : ∃ x, x = sgn u.amount.num := ⟨_, rfl⟩
        obtain ⟨sb, hsb⟩ : ∃ x, x = sgn u.ask.num := ⟨_, rfl⟩
        rw [← hsa] at hA
        rw [← hsb] at hB
        have HA := Lib.hid hA
        have HB := Lib.hid hB
        have HX := Lib.hid hx
        have HSA := Lib.hid hsa
        have HSB := Lib.hid hsb
        have HQ := Lib.hid hq
        have e0 : (0 : Int) ≤ ((k : Nat) : Int) := by omega
        have e1 : ((k : Nat) : Int) < (l.length : Int) := by omega
        clear hA hB hx hsa hsb hq ho
        by_cases hp : u.party < 0
        · have hp2 : decide (u.party < 0) = true := decide_eq_true hp
          have R := Lib.hid (checkV_err hck.out HQ.out (vErr_party hp) (by decide))
          clear hp
          have x1 : b < wr.heap.size := Nat.lt_of_lt_of_le hbb HS.out.below.size
          have x2 : ¬ b = wr.heap.size := by omega
          have x3 := HX.out _ HS.out.below 0 _ rfl
          rw [Nat.add_zero] at x3
          have x4 := HX.out _ HS.out.below 1 _ rfl
          have x5 := HX.out _ HS.out.below 2 _ rfl
          have x6 := HX.out _ HS.out.below 3 _ rfl
          have x7 := HX.out _ HS.out.below 4 _ rfl
          have x8 := HX.out _ HS.out.below 5 _ rfl
          have x9 := HX.out _ HS.out.below 6 _ rfl
          have x10 := HX.out _ HS.out.below 7 _ rfl
          go_wp2
          go_ret
          have HS2 : Hid (St w [⟨wr.heap.size, #[.int .i64 u.party, .bool u.an, .string (bs u.aa), .string (bs u.ab), .bool u.kn, .string (bs u.ka), .string (bs u.kb), .bool u.ex], 30⟩] _) := Lib.hid (St.alloc (HS.out) #[.int .i64 u.party, .bool u.an, .string (bs u.aa), .string (bs u.ab), .bool u.kn, .string (bs u.ka), .string (bs u.kb), .bool u.ex] 30 _ (by simp))
          rw [R.out]
          exact ⟨rfl, HS2.out.below⟩
        · have hp2 : decide (u.party < 0) = false := decide_eq_false hp
          by_cases ha : sa < 0
          · have ha2 : decide (sa < 0) = true := decide_eq_true ha
            have R := Lib.hid (checkV_err hck.out HQ.out (vErr_neg hp (.inl (by rw [← HSA.out]; exact ha))) (by decide))
            clear hp ha
            have x1 : b < wr.heap.size := Nat.lt_of_lt_of_le hbb HS.out.below.size
            have x2 : ¬ b = wr.heap.size := by omega
            have x3 := HX.out _ HS.out.below 0 _ rfl
            rw [Nat.add_zero] at x3
            have x4 := HX.out _ HS.out.below 1 _ rfl
            have x5 := HX.out _ HS.out.below 2 _ rfl
            have x6 := HX.out _ HS.out.below 3 _ rfl
            have x7 := HX.out _ HS.out.below 4 _ rfl
            have x8 := HX.out _ HS.out.below 5 _ rfl
            have x9 := HX.out _ HS.out.below 6 _ rfl
            have x10 := HX.out _ HS.out.below 7 _ rfl
            go_wp2_with fail
            have HS2 : Hid (St w [⟨wr.heap.size, #[.int .i64 u.party, .bool u.an, .string (bs u.aa), .string (bs u.ab), .bool u.kn, .string (bs u.ka), .string (bs u.kb), .bool u.ex], 30⟩] _) := Lib.hid (St.alloc (HS.out) #[.int .i64 u.party, .bool u.an, .string (bs u.aa), .string (bs u.ab), .bool u.kn, .string (bs u.ka), .string (bs u.kb), .bool u.ex] 30 _ (by simp))
            refine (HA.out _).mono ?_
            rintro e w3 ⟨rfl, hb3⟩
            have HS3 := Lib.hid (HS2.out.call hb3)
            clear hb3 HS HS2
            clear x1 x2 x3 x4 x5 x6 x7 x8 x9 x10
            go_wp2
            go_ret
            have HS4 : Hid (St w [⟨wr.heap.size, #[.int .i64 u.party, .bool u.an, .string (bs u.aa), .string (bs u.ab), .bool u.kn, .string (bs u.ka), .string (bs u.kb), .bool u.ex], 30⟩] _) := Lib.hid HS3.out
            rw [R.out]
            exact ⟨rfl, HS4.out.below⟩
          · have ha2 : decide (sa < 0) = false := decide_eq_false ha
            by_cases hb : sb < 0
            · have hb2 : decide (sb < 0) = true := decide_eq_true hb
              have R := Lib.hid (checkV_err hck.out HQ.out (vErr_neg hp (.inr (by rw [← HSB.out]; exact hb))) (by decide))
              clear hp ha hb
              have x1 : b < wr.heap.size := Nat.lt_of_lt_of_le hbb HS.out.below.size
              have x2 : ¬ b = wr.heap.size := by omega
              have x3 := HX.out _ HS.out.below 0 _ rfl
              rw [Nat.add_zero] at x3
              have x4 := HX.out _ HS.out.below 1 _ rfl
              have x5 := HX.out _ HS.out.below 2 _ rfl
              have x6 := HX.out _ HS.out.below 3 _ rfl
              have x7 := HX.out _ HS.out.below 4 _ rfl
              have x8 := HX.out _ HS.out.below 5 _ rfl
              have x9 := HX.out _ HS.out.below 6 _ rfl
              have x10 := HX.out _ HS.out.below 7 _ rfl
              go_wp2_with fail
              have HS2 : Hid (St w [⟨wr.heap.size, #[.int .i64 u.party, .bool u.an, .string (bs u.aa), .string (bs u.ab), .bool u.kn, .string (bs u.ka), .string (bs u.kb), .bool u.ex], 30⟩] _) := Lib.hid (St.alloc (HS.out) #[.int .i64 u.party, .bool u.an, .string (bs u.aa), .string (bs u.ab), .bool u.kn, .string (bs u.ka), .string (bs u.kb), .bool u.ex] 30 _ (by simp))
              refine (HA.out _).mono ?_
              rintro e w3 ⟨rfl, hb3⟩
              have HS3 := Lib.hid (HS2.out.call hb3)
              clear hb3 HS HS2
              clear x1 x2 x3 x4 x5 x6 x7 x8 x9 x10
              have x11 := HS3.out.cell 0 rfl 4 rfl
              have x12 := HS3.out.cell 0 rfl 5 rfl
              have x13 := HS3.out.cell 0 rfl 6 rfl
              go_wp2_with fail
              refine (HB.out _).mono ?_
              rintro e w4 ⟨rfl, hb4⟩
              have HS4 := Lib.hid (HS3.out.call hb4)
              clear hb4 HS3
              clear x11 x12 x13
              go_wp2
              go_ret
              have HS5 : Hid (St w [⟨wr.heap.size, #[.int .i64 u.party, .bool u.an, .string (bs u.aa), .string (bs u.ab), .bool u.kn, .string (bs u.ka), .string (bs u.kb), .bool u.ex], 30⟩] _) := Lib.hid HS4.out
              rw [R.out]
              exact ⟨rfl, HS5.out.below⟩
            · have hb2 : decide (sb < 0) = false := decide_eq_false hb
              have R := Lib.hid (checkV_go hck.out HQ.out (vErr_ok hp (by rw [← HSA.out]; exact ha) (by rw [← HSB.out]; exact hb)))
              clear hp ha hb
              have x1 : b < wr.heap.size := Nat.lt_of_lt_of_le hbb HS.out.below.size
              have x2 : ¬ b = wr.heap.size := by omega
              have x3 := HX.out _ HS.out.below 0 _ rfl
              rw [Nat.add_zero] at x3
              have x4 := HX.out _ HS.out.below 1 _ rfl
              have x5 := HX.out _ HS.out.below 2 _ rfl
              have x6 := HX.out _ HS.out.below 3 _ rfl
              have x7 := HX.out _ HS.out.below 4 _ rfl
              have x8 := HX.out _ HS.out.below 5 _ rfl
              have x9 := HX.out _ HS.out.below 6 _ rfl
              have x10 := HX.out _ HS.out.below 7 _ rfl
              go_wp2_with fail
              have HS2 : Hid (St w [⟨wr.heap.size, #[.int .i64 u.party, .bool u.an, .string (bs u.aa), .string (bs u.ab), .bool u.kn, .string (bs u.ka), .string (bs u.kb), .bool u.ex], 30⟩] _) := Lib.hid (St.alloc (HS.out) #[.int .i64 u.party, .bool u.an, .string (bs u.aa), .string (bs u.ab), .bool u.kn, .string (bs u.ka), .string (bs u.kb), .bool u.ex] 30 _ (by simp))
              refine (HA.out _).mono ?_
              rintro e w3 ⟨rfl, hb3⟩
              have HS3 := Lib.hid (HS2.out.call hb3)
              clear hb3 HS HS2
              clear x1 x2 x3 x4 x5 x6 x7 x8 x9 x10
              have x11 := HS3.out.cell 0 rfl 4 rfl
              have x12 := HS3.out.cell 0 rfl 5 rfl
              have x13 := HS3.out.cell 0 rfl 6 rfl
              go_wp2_with fail
              refine (HB.out _).mono ?_
              rintro e w4 ⟨rfl, hb4⟩
              have HS4 := Lib.hid (HS3.out.call hb4)
              clear hb4 HS3
              clear x11 x12 x13
              go_wp2
              have HS5 : Hid (St w [⟨wr.heap.size, #[.int .i64 u.party, .bool u.an, .string (bs u.aa), .string (bs u.ab), .bool u.kn, .string (bs u.ka), .string (bs u.kb), .bool u.ex], 30⟩] _) := Lib.hid HS4.out
              go_roundw
              case rel => exact ⟨k + 1, by omega, by go_num, R.out, HS5.out.sub (List.nil_sublist _)⟩
              case measure => simp [intOf]; omega
      · obtain rfl : k = l.length := by omega
        have HR := Lib.hid (checkV_end hck.out)
        go_wp2
        go_ret
        have HS2 : Hid (St w [] _) := Lib.hid HS.out
        rw [HR.out]
        exact ⟨rfl, HS2.out.below⟩

set_option maxRecDepth 100000 in
set_option maxHeartbeats 1000000 in
theorem ref_CheckVoters (v : Value) (l : List Vtr) (w : World) (h : VotersL w v l) (hok : SmallV 68719476736 l) :
    Calls Tryd.prog 11 #[v] w fun e w' => e = .returned (.int .i64 (checkV l)) ∧ Below w.heap.size w w' := by
  have H := Lib.hid h
  have HOK := Lib.hid hok
  obtain ⟨A, c, rfl, hl, hc⟩ := h.slice
  clear h hok
  by_cases hlen : 64 < l.length
  · have hd : decide ((64 : Int) < (l.length : Int)) = true := decide_eq_true (by omega)
    have HR := Lib.hid (checkV_long hlen)
    go_enter Tryd.func11, Tryd.ntmps11
    have HS := Lib.hid (St.start w)
    go_wp2
    go_ret
    have HS2 : Hid (St w [] _) := Lib.hid HS.out
    rw [HR.out]
    exact ⟨rfl, HS2.out.below⟩
  · have hd : decide ((64 : Int) < (l.length : Int)) = false := decide_eq_false (by omega)
    have hlen := Nat.not_lt.1 hlen
    have H0 : Hid (checkV l = checkVTo (l.drop 0)) := by show _ = _; rw [checkV_short hlen]; rfl
    go_enter Tryd.func11, Tryd.ntmps11
    have HS := Lib.hid (St.start w)
    go_wp2
    go_loopw [3] (fun i wr => ∃ k : Nat, k ≤ l.length ∧ i = .int .i64 k ∧ Hid (checkV l = checkVTo (l.drop k)) ∧ Hid (St w [] wr)) (fun i _ => l.length - (intOf i).toNat)
    case atStart => exact ⟨0, Nat.zero_le _, rfl, H0.out, HS.out⟩
    case round =>
      clear H0
      obtain ⟨k, hk, rfl, hck, HS⟩ := hrel
      by_cases hlt : k < l.length
      · obtain ⟨b, o, u, rfl, hbb, hq, hx⟩ := H.out.at_ hlt
        have ho := HOK.out u (List.mem_of_getElem? hq)
        have hA := fun W => ref_Sign u.an u.aa u.ab W (ho.1) (ho.2.1)
        have hB := fun W => ref_Sign u.kn u.ka u.kb W (ho.2.2.1) (ho.2.2.2)
        change ∀ W, Calls Tryd.prog _ _ W (fun e w' => e = .returned (.int .i64 (sgn u.amount.num)) ∧ _) at hA
        change ∀ W, Calls Tryd.prog _ _ W (fun e w' => e = .returned (.int .i64 (sgn u.ask.num)) ∧ _) at hB
        unfold raw at hA hB
        obtain ⟨sa, hsa⟩ : ∃ x, x = sgn u.amount.num := ⟨_, rfl⟩
        obtain ⟨sb, hsb⟩ : ∃ x, x = sgn u.ask.num := ⟨_, rfl⟩
        rw [← hsa] at hA
        rw [← hsb] at hB
        have HA := Lib.hid hA
        have HB := Lib.hid hB
        have HX := Lib.hid hx
        have HSA := Lib.hid hsa
        have HSB := Lib.hid hsb
        have HQ := Lib.hid hq
        have e0 : (0 : Int) ≤ ((k : Nat) : Int) := by omega
        have e1 : ((k : Nat) : Int) < (l.length : Int) := by omega
        clear hA hB hx hsa hsb hq ho
        by_cases hp : u.party < 0
        · have hp2 : decide (u.party < 0) = true := decide_eq_true hp
          have R := Lib.hid (checkV_err hck.out HQ.out (vErr_party hp) (by decide))
          clear hp
          have x1 := HX.out _ HS.out.below 0 _ rfl
          rw [Nat.add_zero] at x1
          go_wp2
          go_ret
          have HS2 : Hid (St w [] _) := Lib.hid HS.out
          rw [R.out]
          exact ⟨rfl, HS2.out.below⟩
        · have hp2 : decide (u.party < 0) = false := decide_eq_false hp
          by_cases ha : sa < 0
          · have ha2 : decide (sa < 0) = true := decide_eq_true ha
            have R := Lib.hid (checkV_err hck.out HQ.out (vErr_neg hp (.inl (by rw [← HSA.out]; exact ha))) (by decide))
            clear hp ha
            have x1 := HX.out _ HS.out.below 0 _ rfl
            rw [Nat.add_zero] at x1
            have x2 := HX.out _ HS.out.below 1 _ rfl
            have x3 := HX.out _ HS.out.below 2 _ rfl
            have x4 := HX.out _ HS.out.below 3 _ rfl
            go_wp2_with fail
            refine (HA.out _).mono ?_
            rintro e w2 ⟨rfl, hb2⟩
            have HS2 := Lib.hid (HS.out.call hb2)
            clear hb2 HS
            clear x1 x2 x3 x4
            go_wp2
            go_ret
            have HS3 : Hid (St w [] _) := Lib.hid HS2.out
            rw [R.out]
            exact ⟨rfl, HS3.out.below⟩
          · have ha2 : decide (sa < 0) = false := decide_eq_false ha
            by_cases hb : sb < 0
            · have hb2 : decide (sb < 0) = true := decide_eq_true hb
              have R := Lib.hid (checkV_err hck.out HQ.out (vErr_neg hp (.inr (by rw [← HSB.out]; exact hb))) (by decide))
              clear hp ha hb
              have x1 := HX.out _ HS.out.below 0 _ rfl
              rw [Nat.add_zero] at x1
              have x2 := HX.out _ HS.out.below 1 _ rfl
              have x3 := HX.out _ HS.out.below 2 _ rfl
              have x4 := HX.out _ HS.out.below 3 _ rfl
              go_wp2_with fail
              refine (HA.out _).mono ?_
              rintro e w2 ⟨rfl, hb2⟩
              have HS2 := Lib.hid (HS.out.call hb2)
              clear hb2 HS
              clear x1 x2 x3 x4
              have x5 := HX.out _ HS2.out.below 4 _ rfl
              have x6 := HX.out _ HS2.out.below 5 _ rfl
              have x7 := HX.out _ HS2.out.below 6 _ rfl
              go_wp2_with fail
              refine (HB.out _).mono ?_
              rintro e w3 ⟨rfl, hb3⟩
              have HS3 := Lib.hid (HS2.out.call hb3)
              clear hb3 HS2
              clear x5 x6 x7
              go_wp2
              go_ret
              have HS4 : Hid (St w [] _) := Lib.hid HS3.out
              rw [R.out]
              exact ⟨rfl, HS4.out.below⟩
            · have hb2 : decide (sb < 0) = false := decide_eq_false hb
              have R := Lib.hid (checkV_go hck.out HQ.out (vErr_ok hp (by rw [← HSA.out]; exact ha) (by rw [← HSB.out]; exact hb)))
              clear hp ha hb
              have x1 := HX.out _ HS.out.below 0 _ rfl
              rw [Nat.add_zero] at x1
              have x2 := HX.out _ HS.out.below 1 _ rfl
              have x3 := HX.out _ HS.out.below 2 _ rfl
              have x4 := HX.out _ HS.out.below 3 _ rfl
              go_wp2_with fail
              refine (HA.out _).mono ?_
              rintro e w2 ⟨rfl, hb2⟩
              have HS2 := Lib.hid (HS.out.call hb2)
              clear hb2 HS
              clear x1 x2 x3 x4
              have x5 := HX.out _ HS2.out.below 4 _ rfl
              have x6 := HX.out _ HS2.out.below 5 _ rfl
              have x7 := HX.out _ HS2.out.below 6 _ rfl
              go_wp2_with fail
              refine (HB.out _).mono ?_
              rintro e w3 ⟨rfl, hb3⟩
              have HS3 := Lib.hid (HS2.out.call hb3)
              clear hb3 HS2
              clear x5 x6 x7
              go_wp2
              have HS4 : Hid (St w [] _) := Lib.hid HS3.out
              go_roundw
              case rel => exact ⟨k + 1, by omega, by go_num, R.out, HS4.out.sub (List.nil_sublist _)⟩
              case measure => simp [intOf]; omega
      · obtain rfl : k = l.length := by omega
        have HR := Lib.hid (checkV_end hck.out)
        go_wp2
        go_ret
        have HS2 : Hid (St w [] _) := Lib.hid HS.out
        rw [HR.out]
        exact ⟨rfl, HS2.out.below⟩
end Go.Proofs.YtakoagjpmdcddaaDoor
