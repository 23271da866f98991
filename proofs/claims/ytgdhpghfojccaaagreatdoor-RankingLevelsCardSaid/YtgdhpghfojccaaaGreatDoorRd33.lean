/-
Part 33 of the base.
-/
import Derived.Test.YtgdhpghfojccaaaGreatDoorRd32
set_option maxRecDepth 100000
set_option maxHeartbeats 2000000
namespace Go.Proofs.YtgdhpghfojccaaaGreatDoor
open Go.RowKit
section
variable {α : Type} {enc : α -> List Value} {P : Program}
theorem a2g (w : World) {ops : Array Oper} {rest : List Oper} {o : Oper} {a : Act} {Q : Exit -> Act -> World -> Prop} (hgd : o.guard = none) (s x : Operand) (t : TypeId)
  (ho : o.op = .call { callee := .builtin .append, args := #[s, x], argTypes := #[t, t] })
  (base : Nat) (e : TypeId) (i : TypeInfo) (z : Value) (size bytes : Nat) (ht : P.underlying t = some (.slice e)) (hi : P.info? e = some i) (hz : i.zero = some z)
  (hsize : i.size = size) (hby : i.bytes = bytes) (hzs : z.cells.size = size) (hsz : 0 < size) (hk : ∀ y, (enc y).length = size)
  (v : Value) (n : Nat) (xs : List α) (hs : a.eval s = v) (hown : w.ownsRow base e size v n (flat enc xs)) (y : α) (g : Nat) (cs : Array Value) (hB : Blk w g cs e) (hcs : cs.toList = enc y) (hx : a.eval x = .slice (some ⟨g, 0, none⟩) 1 1)
  (h1 : ∀ u ∈ enc y, u.oneCell' = true) (h63 : n + 1 <= maxLen) (hbytes : (n + 1) * bytes <= 140737488355328) (hbase : base <= w.heap.size)
  (h : ∀ v' w', w'.ownsRow base e size v' (n + 1) (flat enc (xs ++ [y])) -> w.grownBy w' v.ownBlock -> wpList P ops Q rest (a.put o.dst v') w') : wpList P ops Q (o :: rest) a w := by
 refine wpList_append_own w hgd s x t ho base e i z size bytes ht hi hz hsize hby hzs hsz v n (flat enc xs) hs hown ⟨g, 0, none⟩ 1 1 (enc y) hx (by rw [hk, Nat.one_mul]) ?_ h1 h63 hbytes hbase ?_
 ·intro j u hu
  rw [Addr.add_lit, Nat.zero_add, hB.cell j u]
  rw [<- Array.getElem?_toList, hcs]; exact hu
 intro v' w' hown' hg _
 exact h v' w' (by rw [a2b]; simpa [flat] using hown') hg
end
theorem info_nmd : (Tryz.prog.info? 64).map (fun i => (i.zero, i.size, i.bytes)) = some (some (.agg #[.string (bs []), .int .i64 0, .bool false, .string (bs []), .string (bs [])]), 5, 64) := by kernel_rfl
theorem nmd_info : ∃ i, Tryz.prog.info? 64 = some i /\ i.zero = some (.agg #[.string (bs []), .int .i64 0, .bool false, .string (bs []), .string (bs [])]) /\ i.size = 5 /\ i.bytes = 64 := by
 obtain ⟨i, hi, hzz⟩ := Option.map_eq_some_iff.1 info_nmd
 simp only [Prod.mk.injEq] at hzz
 exact ⟨i, hi, hzz⟩
theorem c3z (c : Nmd) : ∀ u ∈ c.enc, u.oneCell' = true := by
 intro u hu
 unfold Nmd.enc at hu
 simp only [List.mem_cons, List.mem_nil_iff, or_false] at hu
 rcases hu with rfl | rfl | rfl | rfl | rfl <;> rfl
theorem c2j (x : Nat) (w : World) (hx : x < 8) :
  Calls Tryz.prog 41 #[.int .u16 (x : Nat)] w fun e w' => e = .returned (.string (bs (nmA x))) /\ Below w.heap.size w w' := by
 have hk : x = 0 \/ x = 1 \/ x = 2 \/ x = 3 \/ x = 4 \/ x = 5 \/ x = 6 \/ x = 7 := by omega
 rcases hk with h | h | h | h | h | h | h | h
 ·have hn : nmA x = [97] := by rw [h]; rfl
  rw [hn]
  have h2 : Int.tmod (x : Int) 12 = 0 := by rw [Int.tmod_eq_emod_of_nonneg (by omega)]; omega
  clear h hn hx
  go_enter Tryz.func41, Tryz.ntmps41
  go_wp2
  go_ret
  exact ⟨rfl, Ext.alloc (Below.refl _ _) _⟩
 ·have hn : nmA x = [98] := by rw [h]; rfl
  rw [hn]
  have h2 : Int.tmod (x : Int) 12 = 1 := by rw [Int.tmod_eq_emod_of_nonneg (by omega)]; omega
  clear h hn hx
  go_enter Tryz.func41, Tryz.ntmps41
  go_wp2
  go_ret
  exact ⟨rfl, Ext.alloc (Below.refl _ _) _⟩
 ·have hn : nmA x = [99] := by rw [h]; rfl
  rw [hn]
  have h2 : Int.tmod (x : Int) 12 = 2 := by rw [Int.tmod_eq_emod_of_nonneg (by omega)]; omega
  clear h hn hx
  go_enter Tryz.func41, Tryz.ntmps41
  go_wp2
  go_ret
  exact ⟨rfl, Ext.alloc (Below.refl _ _) _⟩
 ·have hn : nmA x = [100] := by rw [h]; rfl
  rw [hn]
  have h2 : Int.tmod (x : Int) 12 = 3 := by rw [Int.tmod_eq_emod_of_nonneg (by omega)]; omega
  clear h hn hx
  go_enter Tryz.func41, Tryz.ntmps41
  go_wp2
  go_ret
  exact ⟨rfl, Ext.alloc (Below.refl _ _) _⟩
 ·have hn : nmA x = [101] := by rw [h]; rfl
  rw [hn]
  have h2 : Int.tmod (x : Int) 12 = 4 := by rw [Int.tmod_eq_emod_of_nonneg (by omega)]; omega
  clear h hn hx
  go_enter Tryz.func41, Tryz.ntmps41
  go_wp2
  go_ret
  exact ⟨rfl, Ext.alloc (Below.refl _ _) _⟩
 ·have hn : nmA x = [102] := by rw [h]; rfl
  rw [hn]
  have h2 : Int.tmod (x : Int) 12 = 5 := by rw [Int.tmod_eq_emod_of_nonneg (by omega)]; omega
  clear h hn hx
  go_enter Tryz.func41, Tryz.ntmps41
  go_wp2
  go_ret
  exact ⟨rfl, Ext.alloc (Below.refl _ _) _⟩
 ·have hn : nmA x = [103] := by rw [h]; rfl
  rw [hn]
  have h2 : Int.tmod (x : Int) 12 = 6 := by rw [Int.tmod_eq_emod_of_nonneg (by omega)]; omega
  clear h hn hx
  go_enter Tryz.func41, Tryz.ntmps41
  go_wp2
  go_ret
  exact ⟨rfl, Ext.alloc (Below.refl _ _) _⟩
 have hn : nmA x = [104] := by rw [h]; rfl
 rw [hn]
 have h2 : Int.tmod (x : Int) 12 = 7 := by rw [Int.tmod_eq_emod_of_nonneg (by omega)]; omega
 clear h hn hx
 go_enter Tryz.func41, Tryz.ntmps41
 go_wp2
 go_ret
 exact ⟨rfl, Ext.alloc (Below.refl _ _) _⟩
theorem c2h (v : Value) (ts : List Duo) (w : World) (h : Duos w v ts) (hok : ∀ t ∈ ts, t.ok) :
  Calls Tryz.prog 14 #[v] w fun e w' => ∃ v', e = .returned v' /\ NmdL w' v' (a6r ts) /\ Below w.heap.size w w' := by
 obtain ⟨i0, hi0, hz0, hz1, hz2⟩ := nmd_info
 have HI := zh hi0
 have HZ0 := zh hz0
 have H := zh h
 have HOK := zh hok
 obtain ⟨A, c, rfl, hl, hc⟩ := h.slice
 clear h hok hi0 hz0
 go_enter Tryz.func14, Tryz.ntmps14
 have HS := zh (St.start w)
 go_wp2
 go_loopw [3, 4] (fun l i wr => ∃ k : Nat, k <= ts.length /\ k <= 8 /\ i = .int .i64 k /\ Hid (Grows wr w.heap.size 64 5 l k (flat Nmd.enc (namF 0 (ts.take k)))) /\ Hid (St w [] wr)) (fun _ i _ => ts.length - (intOf i).toNat)
 case atStart => exact ⟨0, Nat.zero_le _, Nat.zero_le _, rfl, World.ownsRow_nil _ _ _ _, HS.out⟩
 case round =>
  obtain ⟨k, hk, hk8, rfl, HG, HS⟩ := hrel
  obtain ⟨wo, hwo⟩ : ∃ wo : World, wo = wr := ⟨_, rfl⟩
  subst hwo
  have HLN : Hid ((namF 0 (ts.take k)).length = k) := zh (by rw [b6a, List.length_take]; omega)
  by_cases hlt : k < ts.length
  ·by_cases hlt8 : k < 8
   ·obtain ⟨b, o, t, rfl, hbb, ht, hx⟩ := H.out.at_ hlt
    obtain ⟨ok1, ok2⟩ := HOK.out t (List.mem_of_getElem? ht)
    have hft := c2b ht
    have hA := fun W => b2n t.b W ok2
    have hN := fun W => c2j k W hlt8
    have henc : Hid ((namN k t).enc = [.string (bs (nmA k)), .int .i64 (1 + (t.a : Int) % 4), .bool (negB (a2q t.b)), .string (bs (numB (a2q t.b))), .string (bs (a0n (a2q t.b)))]) := zh rfl
    generalize a2q t.b = am at *
    generalize nmA k = nm at *
    unfold rat raw at hA
    have HA := zh hA
    have HN := zh hN
    have HX := zh hx
    have HFT := zh hft
    clear hA hN hx ht hft
    generalize namF 0 (ts.take k) = out at *
    have e1 : Int.tmod (t.a : Int) 4 = (t.a : Int) % 4 := Int.tmod_eq_emod_of_nonneg (by omega)
    have e4 : IntKind.u16.wrap ((t.a : Int) % 4) = (t.a : Int) % 4 := by rw [IntKind.wrap_u16]; omega
    have e5 : IntKind.u16.wrap (k : Int) = (k : Int) := by rw [IntKind.wrap_u16]; omega
    have e7 : IntKind.i64.wrap ((t.a : Int) % 4) = (t.a : Int) % 4 := IntWalk.i64_in _ (by omega)
    have e8 : IntKind.i64.wrap (1 + (t.a : Int) % 4) = 1 + (t.a : Int) % 4 := IntWalk.i64_in _ (by omega)
    have i5 : IntKind.i64.wrap ((k : Int) + 1) = ((k + 1 : Nat) : Int) := by rw [IntWalk.i64_in _ (by omega)]; rfl
    have f6 : ((k : Nat) : Int) < (ts.length : Int) := by omega
    have f7 : (0 : Int) <= ((k : Nat) : Int) := by omega
    have f8 : decide (((k : Nat) : Int) < 8) = true := decide_eq_true (by omega)
    have f9 : decide (((k : Nat) : Int) < (ts.length : Int)) = true := decide_eq_true f6
    go_wp2
    refine a0e 20 [eQ (u3), eQ (.int .i64 (k : Nat)), eQ (.int .u16 (k : Nat)), eQ (.string (bs nm)), eQ (.slice (some ⟨b, o, none⟩) ts.length c), eQ (.int .i64 (k : Nat)), eQ (.pointer (some ⟨b, o + k * 2, none⟩)), eQ (.pointer (some ⟨b, o + k * 2, none⟩)), eQ (.int .u16 (t.a : Nat)), eQ (.int .u16 ((t.a : Int) % 4)), eQ (.int .i64 ((t.a : Int) % 4)), eQ (.int .i64 (1 + (t.a : Int) % 4)), eQ (.slice (some ⟨b, o, none⟩) ts.length c), eQ (.int .i64 (k : Nat)), eQ (.pointer (some ⟨b, o + k * 2, none⟩)), eQ (.pointer (some ⟨b, o + k * 2 + 1, none⟩)), eQ (.int .u16 (t.b : Nat)), eQ (.agg #[.bool (negB (am)), .string (bs (numB (am))), .string (bs (a0n (am)))]), eQ (.agg #[.string (bs nm), .int .i64 (1 + (t.a : Int) % 4), .bool (negB (am)), .string (bs (numB (am))), .string (bs (a0n (am)))]), fun ww vv => ∃ g, vv = .slice (some ⟨g, 0, none⟩) 1 1 /\ wo.heap.size <= g /\ Blk ww g #[.string (bs nm), .int .i64 (1 + (t.a : Int) % 4), .bool (negB (am)), .string (bs (numB (am))), .string (bs (a0n (am)))] 64] rfl (by kernel_rfl) (by kernel_rfl) (by kernel_rfl) ⟨stE, stE, stE, stE, stE, stE, stE, stE, stE, stE, stE, stE, stE, stE, stE, stE, stE, stE, stE, fun _ _ _ ⟨g, e, hg, h⟩ hb => ⟨g, e, hg, h.below hb h.lt⟩, trivial⟩ ?_ ?_
    refine ⟨?_, ?_, ?_, ?_, ?_, ?_, ?_, ?_, ?_, ?_, ?_, ?_, ?_, ?_, ?_, ?_, ?_, ?_, ?_, ?_, trivial⟩ <;> (intro xx af wv hbx hev hev0 hd; have H := SH.mk hev hev0 hd; clear hev hev0 hd)
    ·have e3 := H.i 3; clear H; go_wp2; exact sQ rfl
    ·have e4 := H.i 4; clear H; go_wp2; exact sQ rfl
    ·have e16 := H.r 1 16; clear H; go_wp2; exact sQ rfl
    ·have e17 := H.r 2 17; clear H
     go_wp2_with fail
     refine (HN.out _).mono ?_
     rintro e w8 ⟨rfl, hb8⟩; go_wp2; exact StepQ.mk _ hb8 rfl
    ·have e0 := H.i 0; clear H; go_wp2; exact sQ rfl
    ·have e4 := H.i 4; clear H; go_wp2; exact sQ rfl
    ·have e19 := H.r 4 19; have e20 := H.r 5 20; clear H; go_wp2; exact sQ rfl
    ·have e21 := H.r 6 21; clear H; go_wp2; exact sQ rfl
    ·have e22 := H.r 7 22; clear H; have hs1 := zh (HS.out.call hbx); have y0 := HX.out _ hs1.out.below 0 _ rfl; rw [Nat.add_zero] at y0; go_wp2; exact sQ rfl
    ·have e23 := H.r 8 23; clear H; go_wp2; exact sQ rfl
    ·have e24 := H.r 9 24; clear H; go_wp2; exact sQ rfl
    ·have e25 := H.r 10 25; clear H; go_wp2; exact sQ rfl
    ·have e0 := H.i 0; clear H; go_wp2; exact sQ rfl
    ·have e4 := H.i 4; clear H; go_wp2; exact sQ rfl
    ·have e27 := H.r 12 27; have e28 := H.r 13 28; clear H; go_wp2; exact sQ rfl
    ·have e29 := H.r 14 29; clear H; go_wp2; exact sQ rfl
    ·have e30 := H.r 15 30; clear H; have hs1 := zh (HS.out.call hbx); have y0 := HX.out _ hs1.out.below 1 _ rfl; go_wp2; exact sQ rfl
    ·have e31 := H.r 16 31; clear H
     go_wp2_with fail
     refine (HA.out _).mono ?_
     rintro e w8 ⟨rfl, hb8⟩; go_wp2; exact StepQ.mk _ hb8 rfl
    ·have e18 := H.r 3 18; have e26 := H.r 11 26; have e32 := H.r 17 32; clear H; go_wp2; exact sQ rfl
    ·have e33 := H.r 18 33; clear H; go_wp2; exact StepQ.mk _ (Ext.alloc (Below.refl _ _) _) ⟨_, rfl, hbx.size, Blk.new _ _ _⟩
    intro xx w2 hb9 hv
    obtain ⟨g2, hv19, hlg19, hB19⟩ := hv 19 (by decide)
    simp only [List.take, List.drop, a0h, Act.put]
    simp only [vQ hv 0, vQ hv 1, vQ hv 2, vQ hv 3, vQ hv 4, vQ hv 5, vQ hv 6, vQ hv 7, vQ hv 8, vQ hv 9, vQ hv 10, vQ hv 11, vQ hv 12, vQ hv 13, vQ hv 14, vQ hv 15, vQ hv 16, vQ hv 17, vQ hv 18, hv19]
    clear hv hv19
    have HS2 := zh (HS.out.fill hb9 hlg19 hB19)
    clear hlg19 hB19
    have HG_2 := zh (HG.out.below hb9)
    clear HG hb9 HS
    try simp only [List.setIfInBounds_toArray, List.set_cons_zero, List.set_cons_succ]
    have hsz := HS2.out.below.size
    have HB9 := zh HS2.out.below
    have hblk := HS2.out.blk 0 rfl
    have hgr : World.ownsRow w2 w.heap.size 64 5 u3 k (flat Nmd.enc out) := HG_2.out
    go_wp2_with (at_builtin; refine b3m _ rfl _ _ 22 rfl w.heap.size 64 i0 _ 5 64 Tryz.underlying22 HI.out HZ0.out hz1 hz2 rfl (by decide) b9g u3 k out (by simp [Act.eval]) hgr (namN k t) g2 _ hblk ?c1 (by simp [Act.eval]) (c3z _) (by unfold maxLen; omega) (by omega) hsz ?_)
    case c1 => exact henc.out.symm
    intro v2 w2 hown2 hb2
    rw [<- HFT.out] at hown2
    have HG2 := zh hown2
    have HS9 := zh (St.of (HB9.out.trans hb2))
    clear hown2 hblk hgr hb2 HS2 HG_2 HFT
    go_wp2
    go_roundw
    case rel => exact ⟨k + 1, by omega, by omega, by go_num, HG2.out, HS9.out⟩
    case measure => simp [intOf]; omega
   obtain rfl : k = 8 := by omega
   have e9 : decide ((8 : Int) < (ts.length : Int)) = true := decide_eq_true (by omega)
   go_wp2
   go_ret
   exact ⟨_, rfl, Slc.of_own b9g HG.out HLN.out, HS.out.below⟩
  obtain rfl : k = ts.length := by omega
  go_wp2
  go_ret
  have hvo : a6r ts = namF 0 (ts.take ts.length) := by unfold a6r; rw [List.take_length, List.take_of_length_le hk8]
  rw [hvo]
  exact ⟨_, rfl, Slc.of_own b9g HG.out HLN.out, HS.out.below⟩
end Go.Proofs.YtgdhpghfojccaaaGreatDoor
