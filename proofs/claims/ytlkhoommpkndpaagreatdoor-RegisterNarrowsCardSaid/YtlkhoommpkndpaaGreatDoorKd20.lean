/-
Part 20 of the base.
-/
import Derived.Test.YtlkhoommpkndpaaGreatDoorKd19
import Derived.DeepKeys4
import Derived.Maps.OwnSet
import Derived.Maps.OwnOps
import Derived.Maps.Views
set_option maxRecDepth 100000
set_option maxHeartbeats 2000000
namespace Go.Proofs.YtlkhoommpkndpaaGreatDoor
open Go.RowKit
theorem key_row : (166 : TypeId) < Tryz.prog.types.size := of_decide_eq_true (by kernel_rfl)
theorem key_wide : (match Tryz.prog.underlying 166 with | some (.array _ _) | some (.struct _) => true | _ => false) = true := by kernel_rfl
theorem key_law : Maps.Keyed Tryz.prog 166 := Maps.Keyed.of_law (deep_law_laid laidOut (m := 3) (by omega) key_row (by kernel_rfl) key_wide)
def klit (code : List UInt8) (day : Int) : Lit := .string (keyBytes [.string code, .int .i64 day])
theorem quo_key (code : List UInt8) (day : Int) (hc : code.length ≤ 9223372036854775807) (hd : -9223372036854775808 ≤ day) (hd2 : day ≤ 9223372036854775807) :
  keyOf Tryz.prog 166 (.agg #[.string (bs code), .int .i64 day]) = some (klit code day) := by
 have hu := Tryz.underlying166
 obtain ⟨n, hs⟩ : ∃ n, Tryz.prog.types.size = n + 1 := ⟨Tryz.prog.types.size - 1, (Nat.sub_add_cancel (Nat.lt_of_le_of_lt (Nat.zero_le _) key_row)).symm⟩
 have hkt : Tryz.prog.keyType 166 = true := by kernel_rfl
 have c2 : Tryz.prog.cellsOf 166 = 2 := by kernel_rfl
 have c9 : Tryz.prog.cellsOf 9 = 1 := by kernel_rfl
 have c3 : Tryz.prog.cellsOf 3 = 1 := by kernel_rfl
 have u9 := Tryz.underlying9
 have u3 := Tryz.underlying3
 have hsz : (bs code).size ≤ maxLen := by rw [bs_size]; unfold maxLen; omega
 have hw : (Lit.int .i64 day).wf = true := by
  simp [Lit.wf]
  exact ⟨hd, hd2⟩
 unfold keyOf
 rw [hu]
 have hf : (Value.agg #[Value.string (bs code), Value.int .i64 day]).formed Tryz.prog 166 = true := by
  simp [Value.formed, hu, c2]
 rw [hkt, hf, hs]
 have hl : Tryz.prog.keyLits (n + 1 + 1) 166 [.string (bs code), .int .i64 day] = some [.string code, .int .i64 day] := by
  simp [Program.keyLits, hu, c2, c9, c3, u9, u3, hsz, hw, bs_list]
 simp [Value.cells, hl, klit]
def seen (qs : List Quo) : DataW Unit := Maps.setOf (.lit (.bool true)) (qs.map fun q => klit q.code q.day)
theorem seen_snoc (qs : List Quo) (q : Quo) : seen (qs ++ [q]) = (seen qs).put (klit q.code q.day) (.lit (.bool true)) := by
 unfold seen
 rw [List.map_append, List.map_singleton, Maps.setOf_snoc]
theorem klit_key (code : List UInt8) (day : Int) : WideAt.IsKeyLit (klit code day) := trivial
theorem seen_map (qs : List Quo) : Maps.IsMap (seen qs) := by
 induction qs using rev_ind with
 | h0 => exact Maps.isMap_empty
 | h1 l p ih => rw [seen_snoc]; exact ih.put _ _
theorem klit_inj {p q : Quo} (hp : p.ok) (hq : q.ok) (h : klit p.code p.day = klit q.code q.day) : p.code = q.code ∧ p.day = q.day := by
 have h1 := quo_key p.code p.day hp.1 hp.2.2.2.1 hp.2.2.2.2
 have h2 := quo_key q.code q.day hq.1 hq.2.2.2.1 hq.2.2.2.2
 rw [← h] at h2
 have h3 := key_law.inj h1 h2
 injection h3 with h3
 simp only [Array.mk.injEq, List.cons.injEq, Value.string.injEq, Value.int.injEq, and_true, true_and] at h3
 exact ⟨bs_inj h3.1, h3.2⟩
theorem seen_at {q : Quo} (hq : q.ok) (qs : List Quo) (h : ∀ p ∈ qs, p.ok) : (seen qs).atKey (klit q.code q.day) (.lit (.bool false)) = .lit (.bool (qs.any (sameQ q))) := by
 induction qs using rev_ind with
 | h0 => rfl
 | h1 l p ih =>
  have ih := ih (fun x hx => h x (List.mem_append.2 (.inl hx)))
  have hp := h p (List.mem_append.2 (.inr (by simp)))
  rw [seen_snoc, List.any_append]
  by_cases hs : sameQ q p = true
  ·have e : p.code = q.code ∧ p.day = q.day := by unfold sameQ at hs; simpa using hs
   rw [e.1, e.2, Maps.atKey_put_same (seen_map l) (klit_key _ _)]
   simp [hs]
  ·have hf : sameQ q p = false := by simpa using hs
   rw [Maps.atKey_put_other, ih]
   ·simp [hf]
   ·intro e
    obtain ⟨e1, e2⟩ := klit_inj hq hp e
    apply hs
    unfold sameQ
    simp [e1, e2]
end Go.Proofs.YtlkhoommpkndpaaGreatDoor
/-
The program's Check of quotes.
-/
namespace Go.Proofs.YtlkhoommpkndpaaGreatDoor
open Go.RowKit
theorem currency_Check (v : Value) (qs : List Quo) (w : World) (h : Quotes w v qs) (hok : ∀ q ∈ qs, q.ok) :
  Calls Tryz.prog 118 #[v] w fun e w' => e = .returned (.int .i64 (checkQ qs)) ∧ Below w.heap.size w w' := by
 have H := Lib.hid h
 have HOK := Lib.hid hok
 obtain ⟨A, c, rfl, hl, hc⟩ := h.slice
 clear h hok
 have hmm := @run_makeMap Tryz.prog
 have zB : ∀ w, (zeroValue 4).run Tryz.prog w = .ok (.bool false) w := fun _ => by kernel_rfl
 have ZB := Lib.hid zB
 clear zB
 by_cases hlen : qs.length ≤ 256
 ·have hd : decide ((256 : Int) < (qs.length : Int)) = false := decide_eq_false (by omega)
  go_enter Tryz.func118, Tryz.ntmps118
  go_wp2
  go_loopw [13] (fun i wr => ∃ (i' : Nat) (D : DataW Unit), i' ≤ qs.length ∧ i = .int .i64 i' ∧ Hid (checkFrom [] qs = checkFrom (qs.take i') (qs.drop i')) ∧
    Hid (wr.ownsMap Tryz.prog 166 (plainElem Tryz.prog 4) w.heap.size i' D) ∧ Hid (D = seen (qs.take i')) ∧ Below w.heap.size w wr) (fun i _ => qs.length - (intOf i).toNat)
  case atStart => exact ⟨0, _, Nat.zero_le _, rfl, rfl, World.ownsMap_made _ _ _ _, rfl, Ext.alloc (Below.refl _ _) _⟩
  case round =>
   obtain ⟨i, D, hi, rfl, ha, hown, hD, hb⟩ := hrel
   by_cases hlt : i < qs.length
   ·obtain ⟨b, o, q, rfl, hbb, hq, hx⟩ := H.out.at_ hlt
    have x0 := hx wr hb 0 _ rfl
    rw [Nat.add_zero] at x0
    have x1 := hx wr hb 1 _ rfl
    have x2 := hx wr hb 2 _ rfl
    have x3 := hx wr hb 3 _ rfl
    have x4 := hx wr hb 4 _ rfl
    have hqok := HOK.out q (List.mem_of_getElem? hq)
    have hqok' := hqok
    obtain ⟨o1, o2, o3, o4, o5⟩ := hqok'
    have hkey := quo_key q.code q.day o1 o4 o5
    have hat : D.atKey (klit q.code q.day) (.lit (.bool false)) = .lit (.bool ((qs.take i).any (sameQ q))) := by
     rw [hD.out]
     exact seen_at hqok _ (fun p hp => HOK.out p (List.mem_of_mem_take hp))
    have hput : seen (qs.take (i + 1)) = D.put (klit q.code q.day) (.lit (.bool true)) := by rw [take_at hq, seen_snoc, hD.out]
    have hC := fun W => currency_isCode (bs q.code) W (by rw [bs_size]; exact o1)
    have hDy := fun W => currency_isDay q.day W
    have hS := fun W => rational_Sign q.neg q.num q.den W (by omega) (by omega)
    rw [bs_list] at hC
    unfold raw at hS
    obtain ⟨cB, hcB⟩ : ∃ x, x = isCodeB q.code := ⟨_, rfl⟩
    obtain ⟨eB, heB⟩ : ∃ x, x = (q.code == eur) := ⟨_, rfl⟩
    obtain ⟨dB, hdB⟩ : ∃ x, x = dayB q.day := ⟨_, rfl⟩
    obtain ⟨pB, hpB⟩ : ∃ x, x = posQ q := ⟨_, rfl⟩
    obtain ⟨tB, htB⟩ : ∃ x, x = (qs.take i).any (sameQ q) := ⟨_, rfl⟩
    rw [← hcB] at hC
    rw [← hdB] at hDy
    rw [← htB] at hat
    have fe : ((bs q.code).toList == [69, 85, 82]) = eB := by rw [bs_toList]; exact heB.symm
    obtain ⟨sg, hsg⟩ : ∃ s, s = sgn (decR q.neg q.num q.den).num := ⟨_, rfl⟩
    rw [← hsg] at hS
    have fp : decide (sg ≤ 0) = !pB := by rw [hsg, hpB]; exact sgn_le
    have hkq : Hid (Blk ((wr.alloc (Obj.cells #[.string (bs q.code), .int .i64 q.day, .bool q.neg, .string (bs q.num), .string (bs q.den)] 40)).alloc (Obj.cells #[.string (bs q.code), .int .i64 q.day] 166)) (wr.heap.size + 1) #[.string (bs q.code), .int .i64 q.day] 166) := Blk.new1 wr _ _ _
    have hbw : Hid (Below wr.heap.size wr ((wr.alloc (Obj.cells #[.string (bs q.code), .int .i64 q.day, .bool q.neg, .string (bs q.num), .string (bs q.den)] 40)).alloc (Obj.cells #[.string (bs q.code), .int .i64 q.day] 166))) := Ext.alloc (Ext.alloc (Below.refl _ _) _) _
    have HC := Lib.hid hC
    have HDy := Lib.hid hDy
    have HS := Lib.hid hS
    have HQ := Lib.hid hq
    have HKEY := Lib.hid hkey
    have HAT := Lib.hid hat
    have HPUT := Lib.hid hput
    have HCB := Lib.hid hcB.symm
    have HEB := Lib.hid heB.symm
    have HDB := Lib.hid hdB.symm
    have HPB := Lib.hid hpB.symm
    have HTB := Lib.hid htB.symm
    clear hC hDy hS hq hx hcB heB hdB hpB htB hsg o1 o2 o3 o4 o5 hqok hkey hat hput hD
    cases cB
    ·clear fe fp
     go_wp2_with (go_at_call 143; with_reducible refine (HC.out _).mono ?_; rintro e w' ⟨rfl, rfl⟩)
     go_ret
     rw [check_err hlen ha.out HQ.out (qErr_code HCB.out) (by decide)]
     exact ⟨rfl, Ext.trans hb hbw.out⟩
    cases eB
    rotate_left
    ·clear fp
     go_wp2_with (go_at_call 143; with_reducible refine (HC.out _).mono ?_; rintro e w' ⟨rfl, rfl⟩)
     go_ret
     rw [check_err hlen ha.out HQ.out (qErr_base HEB.out) (by decide)]
     exact ⟨rfl, Ext.trans hb hbw.out⟩
    cases dB
    ·clear fp
     go_wp2_with (first
      | (go_at_call 143; with_reducible refine (HC.out _).mono ?_; rintro e w' ⟨rfl, rfl⟩)
      | (go_at_call 119; with_reducible refine (HDy.out _).mono ?_; rintro e w' ⟨rfl, rfl⟩))
     go_ret
     rw [check_err hlen ha.out HQ.out (qErr_day HCB.out HEB.out HDB.out) (by decide)]
     exact ⟨rfl, Ext.trans hb hbw.out⟩
    cases pB
    ·simp only [Bool.not_false] at fp
     go_wp2_with (first
      | (go_at_call 143; with_reducible refine (HC.out _).mono ?_; rintro e w' ⟨rfl, rfl⟩)
      | (go_at_call 119; with_reducible refine (HDy.out _).mono ?_; rintro e w' ⟨rfl, rfl⟩)
      | (go_at_call 27; with_reducible refine (HS.out _).mono ?_; rintro e w1 ⟨rfl, hb1⟩))
     go_ret
     rw [check_err hlen ha.out HQ.out (qErr_sign HCB.out HEB.out HPB.out) (by decide)]
     exact ⟨rfl, Ext.trans hb (Ext.trans hbw.out hb1)⟩
    ·simp only [Bool.not_true] at fp
     go_wp2_with (first
      | (go_at_call 143; with_reducible refine (HC.out _).mono ?_; rintro e w' ⟨rfl, rfl⟩)
      | (go_at_call 119; with_reducible refine (HDy.out _).mono ?_; rintro e w' ⟨rfl, rfl⟩)
      | fail)
     with_reducible refine (HS.out _).mono ?_
     rintro e w1 ⟨rfl, hb1⟩
     have k1 := hkq.out.below hb1 (Blk.lt hkq.out)
     have y0 := k1.cell 0 _ rfl
     have y1 := k1.cell 1 _ rfl
     have hb01 := Ext.trans hbw.out hb1
     have hown1 := hown.out.kept (only_below hb01 none) (by simp)
     have HB1 := Lib.hid (Ext.trans hb hb01)
     clear hb1 hb01 k1 x0 x1 x2 x3 x4 fe
     cases tB
     ·go_wp2_with (first
       | (at_lookup; refine wpList_lookup_own_bool _ rfl _ _ 164 rfl 166 4 key_law Tryz.underlying164 Tryz.underlying4 (ZB.out _) w.heap.size i D rfl hown1 _ _ rfl HKEY.out false HAT.out ?_)
       | (at_mapUpdate; refine wpList_mapUpdate_own _ rfl _ _ _ 164 rfl 166 4 key_law Tryz.underlying164 _ w.heap.size i D rfl hown1 (by unfold maxLen; omega) _ _ _ rfl rfl HKEY.out _ [] (plainElem_bool Tryz.underlying4 true) ?_; intro w2 hown2 hg2))
      go_roundw
      case rel => exact ⟨i + 1, _, by omega, by go_num, check_go ha.out HQ.out (qErr_none HCB.out HEB.out HDB.out HPB.out HTB.out), hown2, HPUT.out.symm, HB1.out.grown hg2 HB1.out.size (fun k hk => by injection hk with hk; omega)⟩
      case measure => simp [intOf]; omega
     ·go_wp2_with (first
       | (at_lookup; refine wpList_lookup_own_bool _ rfl _ _ 164 rfl 166 4 key_law Tryz.underlying164 Tryz.underlying4 (ZB.out _) w.heap.size i D rfl hown1 _ _ rfl HKEY.out true HAT.out ?_))
      go_ret
      rw [check_err hlen ha.out HQ.out (qErr_twice HCB.out HEB.out HDB.out HPB.out HTB.out) (by decide)]
      exact ⟨rfl, HB1.out⟩
   ·go_wp2
    go_ret
    rw [check_ok hlen ha.out (by omega)]
    exact ⟨rfl, hb⟩
 ·have hd : decide ((256 : Int) < (qs.length : Int)) = true := decide_eq_true (by omega)
  have hf : checkQ qs = 2 := by unfold checkQ; rw [if_pos (by omega)]
  rw [hf]
  clear hf
  go_enter Tryz.func118, Tryz.ntmps118
  go_wp2
  go_ret
  exact ⟨rfl, Below.refl _ _⟩
end Go.Proofs.YtlkhoommpkndpaaGreatDoor
