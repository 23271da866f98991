/-
The program's threshold (printed by gen_vot4.py).
-/
import Derived.Test.YtakoagjpmdcddaaDoorVotG
namespace Go.Proofs.YtakoagjpmdcddaaDoor
open Go.RowKit

theorem le_sgn {a b : Rat} : (sgn (a - b).num ≤ 0) ↔ a ≤ b := by
  have h : 0 < sgn (a - b).num ↔ 0 < a - b := sgn_pos_iff
  rw [← Int.not_lt, h]
  constructor
  · intro h; grind
  · intro h; grind
theorem lt_sgn {a b : Rat} : (sgn (a - b).num < 0) ↔ a < b := by
  have h : 0 ≤ sgn (a - b).num ↔ 0 ≤ a - b := sgn_nonneg_iff
  rw [← Int.not_le, h]
  constructor
  · intro h; grind
  · intro h; grind
theorem try_high {l : List Vtr} {r best : Rat} {fd : Bool} (h : ¬ sgn (r - 1).num ≤ 0) : tryV l (best, fd) r = (best, fd) := by
  rw [le_sgn] at h
  unfold tryV okRate
  rw [decide_eq_false h]; simp
theorem try_first {l : List Vtr} {r best : Rat} (h : sgn (r - 1).num ≤ 0) : tryV l (best, false) r = if passedV (tallyV l r) then (r, true) else (best, false) := by
  rw [le_sgn] at h
  unfold tryV okRate
  rw [decide_eq_true h]; simp
theorem try_more {l : List Vtr} {r best : Rat} (h2 : ¬ sgn (r - best).num < 0) : tryV l (best, true) r = (best, true) := by
  rw [lt_sgn] at h2
  unfold tryV
  rw [decide_eq_false h2]; simp
theorem try_less {l : List Vtr} {r best : Rat} (h : sgn (r - 1).num ≤ 0) (h2 : sgn (r - best).num < 0) : tryV l (best, true) r = if passedV (tallyV l r) then (r, true) else (best, true) := by
  rw [le_sgn] at h
  rw [lt_sgn] at h2
  unfold tryV okRate
  rw [decide_eq_true h, decide_eq_true h2]; simp
theorem cands_skip {l : List Vtr} {k : Nat} {u : Vtr} (hq : l[k]? = some u) (hex : u.ex = true) : cands (l.take (k + 1)) = cands (l.take k) := by
  rw [take_at hq]; unfold cands; rw [List.filter_append]; simp [hex]
theorem cands_add {l : List Vtr} {k : Nat} {u : Vtr} (hq : l[k]? = some u) (hex : u.ex = false) : cands (l.take (k + 1)) = cands (l.take k) ++ [u.ask] := by
  rw [take_at hq]; unfold cands; rw [List.filter_append]; simp [hex]
/-- The search behind k voters. -/
def thrTo (l : List Vtr) (k : Nat) : Rat × Bool := (cands (l.take k)).foldl (tryV l) (0, false)
theorem thrTo_zero (l : List Vtr) : thrTo l 0 = tryV l (0, false) 0 := rfl
theorem thrTo_skip {l : List Vtr} {k : Nat} {u : Vtr} (hq : l[k]? = some u) (hex : u.ex = true) : thrTo l (k + 1) = thrTo l k := by unfold thrTo; rw [cands_skip hq hex]
theorem thrTo_add {l : List Vtr} {k : Nat} {u : Vtr} (hq : l[k]? = some u) (hex : u.ex = false) : thrTo l (k + 1) = tryV l (thrTo l k) u.ask := by unfold thrTo; rw [cands_add hq hex, List.foldl_append]; rfl
theorem thrTo_end (l : List Vtr) : thrTo l l.length = thrV l := by unfold thrTo thrV; rw [List.take_length]
theorem try_sized {N : Nat} {l : List Vtr} {x : Rat × Bool} {r : Rat} (hx : Sized N x.1) (hr : Sized N r) : Sized N (tryV l x r).1 := by
  unfold tryV
  split
  · exact hr
  · exact hx
theorem thrTo_sized {N : Nat} (h1 : 1 ≤ N) {l : List Vtr} (hok : SmallV N l) : ∀ k, k ≤ l.length → Sized N (thrTo l k).1
  | 0, _ => try_sized (sized_zero.mono h1) (sized_zero.mono h1)
  | k + 1, hk => by
    have ih := thrTo_sized h1 hok k (by omega)
    have hq : l[k]? = some l[k] := List.getElem?_eq_getElem (by omega)
    cases hex : (l[k]).ex with
    | true => rw [thrTo_skip hq hex]; exact ih
    | false => rw [thrTo_add hq hex]; exact try_sized ih (hok.ask h1 (List.mem_of_getElem? hq))
theorem vals2 {a b : Rat × Bool} (h : a = b) : a.1 = b.1 ∧ a.2 = b.2 := by rw [h]; exact ⟨rfl, rfl⟩

set_option maxRecDepth 100000 in
set_option maxHeartbeats 2000000 in
theorem vote_try (v : Value) (l : List Vtr) (n : Bool) (a b : List UInt8) (best : Rat) (fd : Bool) (g8 g7 g6 g2 g1 : Nat) (w0 w : World) (h : VotersL w0 v l) (hok : SmallV 100000 l) (hlen : l.length ≤ 64) (hpar : ∀ u ∈ l, W64 u.party) (la : a.length ≤ 100000) (lb : b.length ≤ 100000) (hb : Sized 100000 best)
    (hs : St w0 [⟨g8, #[.bool fd], 4⟩, ⟨g7, #[.bool (negB (best)), .string (bs (numB (best))), .string (bs (denomB (best)))], 28⟩, ⟨g6, #[.bool (negB (1 : Rat)), .string (bs (numB (1 : Rat))), .string (bs (denomB (1 : Rat)))], 28⟩, ⟨g2, #[.bool false, .string (bs []), .string (bs [])], 28⟩, ⟨g1, #[v], 22⟩] w) :
    Calls Tryd.prog 25 #[raw n a b, .pointer (some ⟨g6, 0, none⟩), .pointer (some ⟨g8, 0, none⟩), .pointer (some ⟨g7, 0, none⟩), .pointer (some ⟨g1, 0, none⟩)] w fun e w' => e = .returned (.tuple #[]) ∧
      St w0 [⟨g8, #[.bool (tryV l (best, fd) (decR n a b)).2], 4⟩, ⟨g7, #[.bool (negB ((tryV l (best, fd) (decR n a b)).1)), .string (bs (numB ((tryV l (best, fd) (decR n a b)).1))), .string (bs (denomB ((tryV l (best, fd) (decR n a b)).1)))], 28⟩, ⟨g6, #[.bool (negB (1 : Rat)), .string (bs (numB (1 : Rat))), .string (bs (denomB (1 : Rat)))], 28⟩, ⟨g2, #[.bool false, .string (bs []), .string (bs [])], 28⟩, ⟨g1, #[v], 22⟩] w' := by
  have z1 := sized_one.mono (show 1 ≤ 17179869184 by decide)
  have hC1 := fun W => rational_Compare n a b (negB (1 : Rat)) (numB (1 : Rat)) (denomB (1 : Rat)) W (by omega) (by omega) z1.num z1.denom
  rw [show decR (negB (1 : Rat)) (numB (1 : Rat)) (denomB (1 : Rat)) = 1 from dec_enc _] at hC1
  have hb2 := hb.mono (show 100000 ≤ 17179869184 by decide)
  have hC2 := fun W => rational_Compare n a b (negB best) (numB best) (denomB best) W (by omega) (by omega) hb2.num hb2.denom
  rw [show decR (negB best) (numB best) (denomB best) = best from dec_enc _] at hC2
  have hT := fun W (hbb : Below w0.heap.size w0 W) => vote_count v l n a b W (h.below hbb) hok hlen hpar (by omega) (by omega)
  have hP := fun W => vote_carried (tallyV l (decR n a b)) W (tally_size hok hlen _).1 (tally_size hok hlen _).2.1 (tally_size hok hlen _).2.2.1 (tally_size hok hlen _).2.2.2
  have hA := fun W => rational_Add n a b false [] [] W (by omega) (by omega) (by decide) (by decide)
  rw [dec_zero3, Rat.add_zero] at hA
  have t1 := @try_high l (decR n a b) best fd
  have t2 := @try_first l (decR n a b) best
  have t3 := @try_more l (decR n a b) best
  have t4 := @try_less l (decR n a b) best
  generalize tallyV l (decR n a b) = t at *
  obtain ⟨pB, hpB⟩ : ∃ x, x = passedV t := ⟨_, rfl⟩
  rw [← hpB] at hP t2 t4
  generalize decR n a b = r at *
  generalize hs1 : sgn (r - 1).num = c1 at *
  generalize hs2 : sgn (r - best).num = c2 at *
  have HS0 := Lib.hid hs
  unfold rat at hA
  unfold raw tly tlyC at *
  have HC1 := Lib.hid hC1
  have HC2 := Lib.hid hC2
  have HT := Lib.hid hT
  have HP := Lib.hid hP
  have HA := Lib.hid hA
  clear hC1 hC2 hT hP hA z1 hb2 hb h hok hpar la lb hs hpB hs1 hs2
  generalize (1 : Rat) = one at *
  by_cases h1 : c1 ≤ 0
  · cases fd
    · cases pB
      · have d1 : decide (c1 ≤ 0) = true := decide_eq_true h1
        have R := Lib.hid (t2 h1)
        clear t1 t2 t3 t4
        go_enter Tryd.func25, Tryd.ntmps25
        have x1 := HS0.out.cell 2 rfl 0 rfl
        have x2 := HS0.out.cell 2 rfl 1 rfl
        have x3 := HS0.out.cell 2 rfl 2 rfl
        have x4 := HS0.out.lt 2 rfl
        have x5 : ¬ g6 = w.heap.size := by omega
        have x6 : ¬ w.heap.size = g6 := by omega
        go_wp2_with fail
        have HS2 : Hid (St w0 [⟨w.heap.size, #[.bool n, .string (bs a), .string (bs b)], 28⟩, ⟨g8, #[.bool false], 4⟩, ⟨g7, #[.bool (negB (best)), .string (bs (numB (best))), .string (bs (denomB (best)))], 28⟩, ⟨g6, #[.bool (negB (one)), .string (bs (numB (one))), .string (bs (denomB (one)))], 28⟩, ⟨g2, #[.bool false, .string (bs []), .string (bs [])], 28⟩, ⟨g1, #[v], 22⟩] _) := Lib.hid (St.alloc (HS0.out) #[.bool n, .string (bs a), .string (bs b)] 28 _ (by simp))
        refine (HC1.out _).mono ?_
        rintro e w3 ⟨rfl, hb3⟩
        have HS3 := Lib.hid (HS2.out.call hb3)
        clear hb3 HS0 HS2
        clear x1 x2 x3 x4 x5 x6
        have x7 := HS3.out.cell 1 rfl 0 rfl
        have x8 := HS3.out.cell 5 rfl 0 rfl
        have x9 := HS3.out.cell 0 rfl 0 rfl
        have x10 := HS3.out.cell 0 rfl 1 rfl
        have x11 := HS3.out.cell 0 rfl 2 rfl
        go_wp2_with fail
        refine (HT.out _ HS3.out.below).mono ?_
        rintro e w4 ⟨rfl, hb4⟩
        have HS4 := Lib.hid (HS3.out.call hb4)
        clear hb4 HS3
        clear x7 x8 x9 x10 x11
        go_wp2_with fail
        refine (HP.out _).mono ?_
        rintro e w5 ⟨rfl, hb5⟩
        have HS5 := Lib.hid (HS4.out.call hb5)
        clear hb5 HS4
        go_wp2
        have HS6 : Hid (St w0 [⟨w.heap.size, #[.bool n, .string (bs a), .string (bs b)], 28⟩, ⟨g8, #[.bool false], 4⟩, ⟨g7, #[.bool (negB (best)), .string (bs (numB (best))), .string (bs (denomB (best)))], 28⟩, ⟨g6, #[.bool (negB (one)), .string (bs (numB (one))), .string (bs (denomB (one)))], 28⟩, ⟨g2, #[.bool false, .string (bs []), .string (bs [])], 28⟩, ⟨g1, #[v], 22⟩] _) := Lib.hid HS5.out
        go_end0
        refine ⟨rfl, ?_⟩
        rw [R.out]
        exact HS6.out.sub (by simp)
      · have d1 : decide (c1 ≤ 0) = true := decide_eq_true h1
        have R := Lib.hid (t2 h1)
        clear t1 t2 t3 t4
        go_enter Tryd.func25, Tryd.ntmps25
        have x1 := HS0.out.cell 2 rfl 0 rfl
        have x2 := HS0.out.cell 2 rfl 1 rfl
        have x3 := HS0.out.cell 2 rfl 2 rfl
        have x4 := HS0.out.lt 2 rfl
        have x5 : ¬ g6 = w.heap.size := by omega
        have x6 : ¬ w.heap.size = g6 := by omega
        go_wp2_with fail
        have HS2 : Hid (St w0 [⟨w.heap.size, #[.bool n, .string (bs a), .string (bs b)], 28⟩, ⟨g8, #[.bool false], 4⟩, ⟨g7, #[.bool (negB (best)), .string (bs (numB (best))), .string (bs (denomB (best)))], 28⟩, ⟨g6, #[.bool (negB (one)), .string (bs (numB (one))), .string (bs (denomB (one)))], 28⟩, ⟨g2, #[.bool false, .string (bs []), .string (bs [])], 28⟩, ⟨g1, #[v], 22⟩] _) := Lib.hid (St.alloc (HS0.out) #[.bool n, .string (bs a), .string (bs b)] 28 _ (by simp))
        refine (HC1.out _).mono ?_
        rintro e w3 ⟨rfl, hb3⟩
        have HS3 := Lib.hid (HS2.out.call hb3)
        clear hb3 HS0 HS2
        clear x1 x2 x3 x4 x5 x6
        have x7 := HS3.out.cell 1 rfl 0 rfl
        have x8 := HS3.out.cell 5 rfl 0 rfl
        have x9 := HS3.out.cell 0 rfl 0 rfl
        have x10 := HS3.out.cell 0 rfl 1 rfl
        have x11 := HS3.out.cell 0 rfl 2 rfl
        go_wp2_with fail
        refine (HT.out _ HS3.out.below).mono ?_
        rintro e w4 ⟨rfl, hb4⟩
        have HS4 := Lib.hid (HS3.out.call hb4)
        clear hb4 HS3
        clear x7 x8 x9 x10 x11
        go_wp2_with fail
        refine (HP.out _).mono ?_
        rintro e w5 ⟨rfl, hb5⟩
        have HS5 := Lib.hid (HS4.out.call hb5)
        clear hb5 HS4
        have x12 := HS5.out.cell 0 rfl 0 rfl
        have x13 := HS5.out.cell 0 rfl 1 rfl
        have x14 := HS5.out.cell 0 rfl 2 rfl
        go_wp2_with fail
        refine (HA.out _).mono ?_
        rintro e w6 ⟨rfl, hb6⟩
        have HS6 := Lib.hid (HS5.out.call hb6)
        clear hb6 HS5
        clear x12 x13 x14
        have x15 := HS6.out.cell 2 rfl 0 rfl
        have x16 := HS6.out.cell 2 rfl 1 rfl
        have x17 := HS6.out.cell 2 rfl 2 rfl
        have x18 := HS6.out.cell 1 rfl 0 rfl
        have x19 := HS6.out.frozen 2 rfl 0
        have x20 := HS6.out.frozen 2 rfl 1
        have x21 := HS6.out.frozen 2 rfl 2
        have x22 := HS6.out.frozen 1 rfl 0
        have x23 := HS6.out.ne 2 0 rfl rfl (by decide)
        have x24 := HS6.out.ne 0 2 rfl rfl (by decide)
        have x25 := HS6.out.ne 2 1 rfl rfl (by decide)
        have x26 := HS6.out.ne 1 2 rfl rfl (by decide)
        have x27 := HS6.out.ne 2 3 rfl rfl (by decide)
        have x28 := HS6.out.ne 3 2 rfl rfl (by decide)
        have x29 := HS6.out.ne 2 4 rfl rfl (by decide)
        have x30 := HS6.out.ne 4 2 rfl rfl (by decide)
        have x31 := HS6.out.ne 2 5 rfl rfl (by decide)
        have x32 := HS6.out.ne 5 2 rfl rfl (by decide)
        have x33 := HS6.out.ne 1 0 rfl rfl (by decide)
        have x34 := HS6.out.ne 0 1 rfl rfl (by decide)
        have x35 := HS6.out.ne 1 2 rfl rfl (by decide)
        have x36 := HS6.out.ne 2 1 rfl rfl (by decide)
        have x37 := HS6.out.ne 1 3 rfl rfl (by decide)
        have x38 := HS6.out.ne 3 1 rfl rfl (by decide)
        have x39 := HS6.out.ne 1 4 rfl rfl (by decide)
        have x40 := HS6.out.ne 4 1 rfl rfl (by decide)
        have x41 := HS6.out.ne 1 5 rfl rfl (by decide)
        have x42 := HS6.out.ne 5 1 rfl rfl (by decide)
        go_wp2
        have HS7 : Hid (St w0 [⟨w.heap.size, #[.bool n, .string (bs a), .string (bs b)], 28⟩, ⟨g8, #[.bool true], 4⟩, ⟨g7, #[.bool (negB (r)), .string (bs (numB (r))), .string (bs (denomB (r)))], 28⟩, ⟨g6, #[.bool (negB (one)), .string (bs (numB (one))), .string (bs (denomB (one)))], 28⟩, ⟨g2, #[.bool false, .string (bs []), .string (bs [])], 28⟩, ⟨g1, #[v], 22⟩] _) := Lib.hid (St.set ((St.set ((St.set ((St.set (HS6.out) 2 rfl 0 _)) 2 rfl 1 _)) 2 rfl 2 _)) 1 rfl 0 _)
        go_end0
        refine ⟨rfl, ?_⟩
        rw [R.out]
        exact HS7.out.sub (by simp)
    · by_cases h2 : c2 < 0
      · cases pB
        · have d1 : decide (c1 ≤ 0) = true := decide_eq_true h1
          have d2 : decide (c2 < 0) = true := decide_eq_true h2
          have R := Lib.hid (t4 h1 h2)
          clear t1 t2 t3 t4
          go_enter Tryd.func25, Tryd.ntmps25
          have x1 := HS0.out.cell 2 rfl 0 rfl
          have x2 := HS0.out.cell 2 rfl 1 rfl
          have x3 := HS0.out.cell 2 rfl 2 rfl
          have x4 := HS0.out.lt 2 rfl
          have x5 : ¬ g6 = w.heap.size := by omega
          have x6 : ¬ w.heap.size = g6 := by omega
          go_wp2_with fail
          have HS2 : Hid (St w0 [⟨w.heap.size, #[.bool n, .string (bs a), .string (bs b)], 28⟩, ⟨g8, #[.bool true], 4⟩, ⟨g7, #[.bool (negB (best)), .string (bs (numB (best))), .string (bs (denomB (best)))], 28⟩, ⟨g6, #[.bool (negB (one)), .string (bs (numB (one))), .string (bs (denomB (one)))], 28⟩, ⟨g2, #[.bool false, .string (bs []), .string (bs [])], 28⟩, ⟨g1, #[v], 22⟩] _) := Lib.hid (St.alloc (HS0.out) #[.bool n, .string (bs a), .string (bs b)] 28 _ (by simp))
          refine (HC1.out _).mono ?_
          rintro e w3 ⟨rfl, hb3⟩
          have HS3 := Lib.hid (HS2.out.call hb3)
          clear hb3 HS0 HS2
          clear x1 x2 x3 x4 x5 x6
          have x7 := HS3.out.cell 1 rfl 0 rfl
          have x8 := HS3.out.cell 0 rfl 0 rfl
          have x9 := HS3.out.cell 0 rfl 1 rfl
          have x10 := HS3.out.cell 0 rfl 2 rfl
          have x11 := HS3.out.cell 2 rfl 0 rfl
          have x12 := HS3.out.cell 2 rfl 1 rfl
          have x13 := HS3.out.cell 2 rfl 2 rfl
          go_wp2_with fail
          refine (HC2.out _).mono ?_
          rintro e w4 ⟨rfl, hb4⟩
          have HS4 := Lib.hid (HS3.out.call hb4)
          clear hb4 HS3
          clear x7 x8 x9 x10 x11 x12 x13
          have x14 := HS4.out.cell 5 rfl 0 rfl
          have x15 := HS4.out.cell 0 rfl 0 rfl
          have x16 := HS4.out.cell 0 rfl 1 rfl
          have x17 := HS4.out.cell 0 rfl 2 rfl
          go_wp2_with fail
          refine (HT.out _ HS4.out.below).mono ?_
          rintro e w5 ⟨rfl, hb5⟩
          have HS5 := Lib.hid (HS4.out.call hb5)
          clear hb5 HS4
          clear x14 x15 x16 x17
          go_wp2_with fail
          refine (HP.out _).mono ?_
          rintro e w6 ⟨rfl, hb6⟩
          have HS6 := Lib.hid (HS5.out.call hb6)
          clear hb6 HS5
          go_wp2
          have HS7 : Hid (St w0 [⟨w.heap.size, #[.bool n, .string (bs a), .string (bs b)], 28⟩, ⟨g8, #[.bool true], 4⟩, ⟨g7, #[.bool (negB (best)), .string (bs (numB (best))), .string (bs (denomB (best)))], 28⟩, ⟨g6, #[.bool (negB (one)), .string (bs (numB (one))), .string (bs (denomB (one)))], 28⟩, ⟨g2, #[.bool false, .string (bs []), .string (bs [])], 28⟩, ⟨g1, #[v], 22⟩] _) := Lib.hid HS6.out
          go_end0
          refine ⟨rfl, ?_⟩
          rw [R.out]
          exact HS7.out.sub (by simp)
        · have d1 : decide (c1 ≤ 0) = true := decide_eq_true h1
          have d2 : decide (c2 < 0) = true := decide_eq_true h2
          have R := Lib.hid (t4 h1 h2)
          clear t1 t2 t3 t4
          go_enter Tryd.func25, Tryd.ntmps25
          have x1 := HS0.out.cell 2 rfl 0 rfl
          have x2 := HS0.out.cell 2 rfl 1 rfl
          have x3 := HS0.out.cell 2 rfl 2 rfl
          have x4 := HS0.out.lt 2 rfl
          have x5 : ¬ g6 = w.heap.size := by omega
          have x6 : ¬ w.heap.size = g6 := by omega
          go_wp2_with fail
          have HS2 : Hid (St w0 [⟨w.heap.size, #[.bool n, .string (bs a), .string (bs b)], 28⟩, ⟨g8, #[.bool true], 4⟩, ⟨g7, #[.bool (negB (best)), .string (bs (numB (best))), .string (bs (denomB (best)))], 28⟩, ⟨g6, #[.bool (negB (one)), .string (bs (numB (one))), .string (bs (denomB (one)))], 28⟩, ⟨g2, #[.bool false, .string (bs []), .string (bs [])], 28⟩, ⟨g1, #[v], 22⟩] _) := Lib.hid (St.alloc (HS0.out) #[.bool n, .string (bs a), .string (bs b)] 28 _ (by simp))
          refine (HC1.out _).mono ?_
          rintro e w3 ⟨rfl, hb3⟩
          have HS3 := Lib.hid (HS2.out.call hb3)
          clear hb3 HS0 HS2
          clear x1 x2 x3 x4 x5 x6
          have x7 := HS3.out.cell 1 rfl 0 rfl
          have x8 := HS3.out.cell 0 rfl 0 rfl
          have x9 := HS3.out.cell 0 rfl 1 rfl
          have x10 := HS3.out.cell 0 rfl 2 rfl
          have x11 := HS3.out.cell 2 rfl 0 rfl
          have x12 := HS3.out.cell 2 rfl 1 rfl
          have x13 := HS3.out.cell 2 rfl 2 rfl
          go_wp2_with fail
          refine (HC2.out _).mono ?_
          rintro e w4 ⟨rfl, hb4⟩
          have HS4 := Lib.hid (HS3.out.call hb4)
          clear hb4 HS3
          clear x7 x8 x9 x10 x11 x12 x13
          have x14 := HS4.out.cell 5 rfl 0 rfl
          have x15 := HS4.out.cell 0 rfl 0 rfl
          have x16 := HS4.out.cell 0 rfl 1 rfl
          have x17 := HS4.out.cell 0 rfl 2 rfl
          go_wp2_with fail
          refine (HT.out _ HS4.out.below).mono ?_
          rintro e w5 ⟨rfl, hb5⟩
          have HS5 := Lib.hid (HS4.out.call hb5)
          clear hb5 HS4
          clear x14 x15 x16 x17
          go_wp2_with fail
          refine (HP.out _).mono ?_
          rintro e w6 ⟨rfl, hb6⟩
          have HS6 := Lib.hid (HS5.out.call hb6)
          clear hb6 HS5
          have x18 := HS6.out.cell 0 rfl 0 rfl
          have x19 := HS6.out.cell 0 rfl 1 rfl
          have x20 := HS6.out.cell 0 rfl 2 rfl
          go_wp2_with fail
          refine (HA.out _).mono ?_
          rintro e w7 ⟨rfl, hb7⟩
          have HS7 := Lib.hid (HS6.out.call hb7)
          clear hb7 HS6
          clear x18 x19 x20
          have x21 := HS7.out.cell 2 rfl 0 rfl
          have x22 := HS7.out.cell 2 rfl 1 rfl
          have x23 := HS7.out.cell 2 rfl 2 rfl
          have x24 := HS7.out.cell 1 rfl 0 rfl
          have x25 := HS7.out.frozen 2 rfl 0
          have x26 := HS7.out.frozen 2 rfl 1
          have x27 := HS7.out.frozen 2 rfl 2
          have x28 := HS7.out.frozen 1 rfl 0
          have x29 := HS7.out.ne 2 0 rfl rfl (by decide)
          have x30 := HS7.out.ne 0 2 rfl rfl (by decide)
          have x31 := HS7.out.ne 2 1 rfl rfl (by decide)
          have x32 := HS7.out.ne 1 2 rfl rfl (by decide)
          have x33 := HS7.out.ne 2 3 rfl rfl (by decide)
          have x34 := HS7.out.ne 3 2 rfl rfl (by decide)
          have x35 := HS7.out.ne 2 4 rfl rfl (by decide)
          have x36 := HS7.out.ne 4 2 rfl rfl (by decide)
          have x37 := HS7.out.ne 2 5 rfl rfl (by decide)
          have x38 := HS7.out.ne 5 2 rfl rfl (by decide)
          have x39 := HS7.out.ne 1 0 rfl rfl (by decide)
          have x40 := HS7.out.ne 0 1 rfl rfl (by decide)
          have x41 := HS7.out.ne 1 2 rfl rfl (by decide)
          have x42 := HS7.out.ne 2 1 rfl rfl (by decide)
          have x43 := HS7.out.ne 1 3 rfl rfl (by decide)
          have x44 := HS7.out.ne 3 1 rfl rfl (by decide)
          have x45 := HS7.out.ne 1 4 rfl rfl (by decide)
          have x46 := HS7.out.ne 4 1 rfl rfl (by decide)
          have x47 := HS7.out.ne 1 5 rfl rfl (by decide)
          have x48 := HS7.out.ne 5 1 rfl rfl (by decide)
          go_wp2
          have HS8 : Hid (St w0 [⟨w.heap.size, #[.bool n, .string (bs a), .string (bs b)], 28⟩, ⟨g8, #[.bool true], 4⟩, ⟨g7, #[.bool (negB (r)), .string (bs (numB (r))), .string (bs (denomB (r)))], 28⟩, ⟨g6, #[.bool (negB (one)), .string (bs (numB (one))), .string (bs (denomB (one)))], 28⟩, ⟨g2, #[.bool false, .string (bs []), .string (bs [])], 28⟩, ⟨g1, #[v], 22⟩] _) := Lib.hid (St.set ((St.set ((St.set ((St.set (HS7.out) 2 rfl 0 _)) 2 rfl 1 _)) 2 rfl 2 _)) 1 rfl 0 _)
          go_end0
          refine ⟨rfl, ?_⟩
          rw [R.out]
          exact HS8.out.sub (by simp)
      · have d1 : decide (c1 ≤ 0) = true := decide_eq_true h1
        have d2 : decide (c2 < 0) = false := decide_eq_false h2
        have R := Lib.hid (t3 h2)
        clear t1 t2 t3 t4
        go_enter Tryd.func25, Tryd.ntmps25
        have x1 := HS0.out.cell 2 rfl 0 rfl
        have x2 := HS0.out.cell 2 rfl 1 rfl
        have x3 := HS0.out.cell 2 rfl 2 rfl
        have x4 := HS0.out.lt 2 rfl
        have x5 : ¬ g6 = w.heap.size := by omega
        have x6 : ¬ w.heap.size = g6 := by omega
        go_wp2_with fail
        have HS2 : Hid (St w0 [⟨w.heap.size, #[.bool n, .string (bs a), .string (bs b)], 28⟩, ⟨g8, #[.bool true], 4⟩, ⟨g7, #[.bool (negB (best)), .string (bs (numB (best))), .string (bs (denomB (best)))], 28⟩, ⟨g6, #[.bool (negB (one)), .string (bs (numB (one))), .string (bs (denomB (one)))], 28⟩, ⟨g2, #[.bool false, .string (bs []), .string (bs [])], 28⟩, ⟨g1, #[v], 22⟩] _) := Lib.hid (St.alloc (HS0.out) #[.bool n, .string (bs a), .string (bs b)] 28 _ (by simp))
        refine (HC1.out _).mono ?_
        rintro e w3 ⟨rfl, hb3⟩
        have HS3 := Lib.hid (HS2.out.call hb3)
        clear hb3 HS0 HS2
        clear x1 x2 x3 x4 x5 x6
        have x7 := HS3.out.cell 1 rfl 0 rfl
        have x8 := HS3.out.cell 0 rfl 0 rfl
        have x9 := HS3.out.cell 0 rfl 1 rfl
        have x10 := HS3.out.cell 0 rfl 2 rfl
        have x11 := HS3.out.cell 2 rfl 0 rfl
        have x12 := HS3.out.cell 2 rfl 1 rfl
        have x13 := HS3.out.cell 2 rfl 2 rfl
        go_wp2_with fail
        refine (HC2.out _).mono ?_
        rintro e w4 ⟨rfl, hb4⟩
        have HS4 := Lib.hid (HS3.out.call hb4)
        clear hb4 HS3
        clear x7 x8 x9 x10 x11 x12 x13
        go_wp2
        have HS5 : Hid (St w0 [⟨w.heap.size, #[.bool n, .string (bs a), .string (bs b)], 28⟩, ⟨g8, #[.bool true], 4⟩, ⟨g7, #[.bool (negB (best)), .string (bs (numB (best))), .string (bs (denomB (best)))], 28⟩, ⟨g6, #[.bool (negB (one)), .string (bs (numB (one))), .string (bs (denomB (one)))], 28⟩, ⟨g2, #[.bool false, .string (bs []), .string (bs [])], 28⟩, ⟨g1, #[v], 22⟩] _) := Lib.hid HS4.out
        go_end0
        refine ⟨rfl, ?_⟩
        rw [R.out]
        exact HS5.out.sub (by simp)
  · have d1 : decide (c1 ≤ 0) = false := decide_eq_false h1
    have R := Lib.hid (t1 h1)
    clear t1 t2 t3 t4
    go_enter Tryd.func25, Tryd.ntmps25
    have x1 := HS0.out.cell 2 rfl 0 rfl
    have x2 := HS0.out.cell 2 rfl 1 rfl
    have x3 := HS0.out.cell 2 rfl 2 rfl
    have x4 := HS0.out.lt 2 rfl
    have x5 : ¬ g6 = w.heap.size := by omega
    have x6 : ¬ w.heap.size = g6 := by omega
    go_wp2_with fail
    have HS2 : Hid (St w0 [⟨w.heap.size, #[.bool n, .string (bs a), .string (bs b)], 28⟩, ⟨g8, #[.bool fd], 4⟩, ⟨g7, #[.bool (negB (best)), .string (bs (numB (best))), .string (bs (denomB (best)))], 28⟩, ⟨g6, #[.bool (negB (one)), .string (bs (numB (one))), .string (bs (denomB (one)))], 28⟩, ⟨g2, #[.bool false, .string (bs []), .string (bs [])], 28⟩, ⟨g1, #[v], 22⟩] _) := Lib.hid (St.alloc (HS0.out) #[.bool n, .string (bs a), .string (bs b)] 28 _ (by simp))
    refine (HC1.out _).mono ?_
    rintro e w3 ⟨rfl, hb3⟩
    have HS3 := Lib.hid (HS2.out.call hb3)
    clear hb3 HS0 HS2
    clear x1 x2 x3 x4 x5 x6
    go_wp2
    have HS4 : Hid (St w0 [⟨w.heap.size, #[.bool n, .string (bs a), .string (bs b)], 28⟩, ⟨g8, #[.bool fd], 4⟩, ⟨g7, #[.bool (negB (best)), .string (bs (numB (best))), .string (bs (denomB (best)))], 28⟩, ⟨g6, #[.bool (negB (one)), .string (bs (numB (one))), .string (bs (denomB (one)))], 28⟩, ⟨g2, #[.bool false, .string (bs []), .string (bs [])], 28⟩, ⟨g1, #[v], 22⟩] _) := Lib.hid HS3.out
    go_end0
    refine ⟨rfl, ?_⟩
    rw [R.out]
    exact HS4.out.sub (by simp)
end Go.Proofs.YtakoagjpmdcddaaDoor
