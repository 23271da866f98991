/-
The laws' ventures with one element changed (printed by gen_pln13.py).
-/
import Derived.Test.YtcllocdhbicpkaaGreatDoorPlsB
namespace Go.Proofs.YtcllocdhbicpkaaGreatDoor
open Go.RowKit

theorem St.add {w0 w : World} {R : List Own} {g M : Nat} {cs : Array Value} {t : TypeId} (h : St w0 R w) (hg : M ≤ g) (h0 : w0.heap.size ≤ M) (hR : ∀ r ∈ R, r.g < M) (hB : Blk w g cs t) : St w0 (⟨g, cs, t⟩ :: R) w := by
 refine ⟨h.below, fun r hr => ?_, List.pairwise_cons.2 ⟨fun r hr => ?_, h.apart⟩⟩
 ·rcases List.mem_cons.1 hr with rfl | hr
  ·exact ⟨hB, Nat.le_trans h0 hg⟩
  ·exact h.ok r hr
 ·have := hR r hr
  show g ≠ r.g
  omega
section
variable {α : Type} {enc : α → List Value} {P : Program}
/-- One more struct at the end of a row of the call's own: only its block changes. -/
theorem wpList_push_by (w : World) {ops : Array Oper} {rest : List Oper} {o : Oper} {a : Act} {Q : Exit → Act → World → Prop} (hgd : o.guard = none) (s x : Operand) (t : TypeId)
  (ho : o.op = .call { callee := .builtin .append, args := #[s, x], argTypes := #[t, t] })
  (base : Nat) (e : TypeId) (i : TypeInfo) (z : Value) (size bytes : Nat) (ht : P.underlying t = some (.slice e)) (hi : P.info? e = some i) (hz : i.zero = some z)
  (hsize : i.size = size) (hby : i.bytes = bytes) (hzs : z.cells.size = size) (hsz : 0 < size) (hk : ∀ y, (enc y).length = size)
  (v : Value) (n : Nat) (xs : List α) (hs : a.eval s = v) (hown : w.ownsRow base e size v n (flat enc xs)) (y : α) (g : Nat) (cs : Array Value) (hB : Blk w g cs e) (hcs : cs.toList = enc y) (hx : a.eval x = .slice (some ⟨g, 0, none⟩) 1 1)
  (h1 : ∀ u ∈ enc y, u.oneCell' = true) (h63 : n + 1 ≤ maxLen) (hbytes : (n + 1) * bytes ≤ 140737488355328) (hbase : base ≤ w.heap.size)
  (h : ∀ v' w', w'.ownsRow base e size v' (n + 1) (flat enc (xs ++ [y])) → w.grownBy w' v.ownBlock → wpList P ops Q rest (a.put o.dst v') w') : wpList P ops Q (o :: rest) a w := by
 refine wpList_append_own w hgd s x t ho base e i z size bytes ht hi hz hsize hby hzs hsz v n (flat enc xs) hs hown ⟨g, 0, none⟩ 1 1 (enc y) hx (by rw [hk, Nat.one_mul]) ?_ h1 h63 hbytes hbase ?_
 ·intro j u hu
  rw [Addr.add_lit, Nat.zero_add, hB.cell j u]
  rw [← Array.getElem?_toList, hcs]; exact hu
 ·intro v' w' hown' hg _
  exact h v' w' (by rw [flat_append]; simpa [flat] using hown') hg
end
/-- The row in its new place, behind an append. -/
theorem St.pushX {w0 w w' : World} {R : List Own} {a : Own} {g g' : Nat} {l l' : List Blc} {rest rest' : List Value} (h : St w0 (a :: ⟨g, rowX l rest, 59⟩ :: R) w) (ha : a.t ≠ 59) (hR : ∀ r ∈ R, r.t ≠ 59) (hg : w.grownBy w' (some g)) (hB : Blk w' g' (rowX l' rest') 59) (h0 : w0.heap.size ≤ g') :
  St w0 (a :: ⟨g', rowX l' rest', 59⟩ :: R) w' := by
 have hgg := h.ge 1 (g := g) rfl
 have hk : ∀ r : Own, r.g ≠ g → Blk w r.g r.cs r.t → r.t ≠ 59 → Blk w' r.g r.cs r.t ∧ r.g ≠ g' := fun r h1 h2 h3 => by
  have hb : Blk w' r.g r.cs r.t := (hg.block r.g h2.lt (fun e => h1 (Option.some.inj e))).trans h2
  refine ⟨hb, fun e => h3 ?_⟩
  have hB2 := hB
  rw [← e] at hB2
  have e2 := Option.some.inj (hb.symm.trans hB2)
  injection e2
 have hp := List.pairwise_cons.1 h.apart
 have hp2 := List.pairwise_cons.1 hp.2
 have ka := hk a (hp.1 _ List.mem_cons_self) (h.ok a (by simp)).1 ha
 have kr := fun r (hr : r ∈ R) => hk r (fun e => hp2.1 r hr e.symm) (h.ok r (by simp [hr])).1 (hR r hr)
 refine ⟨h.below.grown hg h.below.size (fun k hk => by have : g = k := Option.some.inj hk; omega), fun r hr => ?_, List.pairwise_cons.2 ⟨fun r hr => ?_, List.pairwise_cons.2 ⟨fun r hr => ?_, hp2.2⟩⟩⟩
 ·rcases List.mem_cons.1 hr with rfl | hr
  ·exact ⟨ka.1, (h.ok _ (by simp)).2⟩
  ·rcases List.mem_cons.1 hr with rfl | hr
   ·exact ⟨hB, h0⟩
   ·exact ⟨(kr r hr).1, (h.ok r (by simp [hr])).2⟩
 ·rcases List.mem_cons.1 hr with rfl | hr
  ·exact ka.2
  ·exact hp.1 r (by simp [hr])
 ·exact fun e => (kr r hr).2 e.symm
/-- A list with its first element again and again. -/
def padB (l : List Blc) (u : Blc) (k : Nat) : List Blc := l ++ List.replicate k u
theorem padB_len (l : List Blc) (u : Blc) (k : Nat) : (padB l u k).length = l.length + k := by unfold padB; simp
theorem padB_snoc (l : List Blc) (u : Blc) (k : Nat) : padB l u k ++ [u] = padB l u (k + 1) := by unfold padB; rw [List.append_assoc, ← List.replicate_succ']
theorem padB_at {l : List Blc} {u : Blc} (h : l[0]? = some u) (k : Nat) : (padB l u k)[0]? = some u := by
 unfold padB; rw [List.getElem?_append_left (List.getElem?_eq_some_iff.1 h).1]; exact h
theorem padB_small {N : Nat} {l : List Blc} {u : Blc} (h : SmallBl N l) (hu : u.small N) (k : Nat) : SmallBl N (padB l u k) := fun b hb => by
 rcases List.mem_append.1 hb with h1 | h1
 ·exact h b h1
 ·rw [(List.mem_replicate.1 h1).2]; exact hu
theorem blocsOf_small {ts : List Qua} (hok : ∀ t ∈ ts, t.ok) : SmallBl 8 (blocsOf ts) ∧ (blocsOf ts).length ≤ 3 := by
 refine ⟨fun b hb => ?_, ?_⟩
 ·unfold blocsOf blocsK at hb
  obtain ⟨i, hi, rfl⟩ := List.mem_map.1 hb
  refine venB_small _ _ ?_
  have hlt := List.mem_range.1 hi
  rw [List.getD_eq_getElem?_getD, List.getElem?_eq_getElem hlt]
  exact hok _ (List.mem_of_mem_take (List.getElem_mem hlt))
 ·show (blocsK _ _).length ≤ 3
  rw [blocsK_len, List.length_take]; omega
theorem valueOf_sized (x : Nat) : Sized 8 (valueOf x) := sized_int8 (by omega)

set_option maxRecDepth 100000 in
set_option maxHeartbeats 8000000 in
theorem law32_spoilt (x : Nat) (v : Value) (ts : List Qua) (m b : Int) (w : World) (hx : x ≤ 65535) (h : Quas w v ts) (hok : ∀ t ∈ ts, t.ok) (hm : 0 ≤ m ∧ m ≤ 255) (hb : 0 ≤ b ∧ b ≤ 255) :
  Calls Tryz.prog 12 #[.int .u16 (x : Nat), v, .int .u8 m, .int .u8 b] w fun e w' => ∃ vn va vb s l, e = .returned (.agg #[.bool vn, .string (bs va), .string (bs vb), s]) ∧ BlocsL w' s l ∧ SmallBl 24 l ∧ l.length ≤ 17 ∧ va.length ≤ 24 ∧ vb.length ≤ 24 ∧ Below w.heap.size w w' := by
 obtain ⟨i0, hi0, hz0, hz1, hz2⟩ := info_parts info_bloc
 have HI := Lib.hid hi0
 have hV := fun W (hb : Below w.heap.size w W) => law0_Venture x v ts W hx (h.below hb) hok
 obtain ⟨hsm, hl3⟩ := blocsOf_small hok
 have hq8 := valueOf_sized x
 generalize blocsOf ts = l at *
 generalize valueOf x = q at *
 have HV := Lib.hid hV
 have HSM := Lib.hid (hsm.mono (show 8 ≤ 24 by decide))
 have HQ8 := Lib.hid (hq8.mono (show 8 ≤ 24 by decide))
 clear hV h hok hsm hq8 hi0 hx
 by_cases h0 : l.length = 0
 ·obtain rfl := List.length_eq_zero_iff.1 h0
  have d0 : decide ((0 : Int) < ((([] : List Blc).length : Nat) : Int)) = false := by decide
  clear h0 hl3
  go_enter Tryz.func12, Tryz.ntmps12
  have HS := Lib.hid (St.start w)
  go_wp2_with fail
  have HS2 := Lib.hid (St.alloc (HS.out) #[.bool false, .string (bs []), .string (bs []), .slice none 0 0] 28 (w.heap.size) (by simp))
  refine (HV.out _ HS2.out.below).mono ?_
  rintro e w3 ⟨A3, c3, rfl, hl3, hb3⟩
  have HS3 := Lib.hid (HS2.out.call hb3)
  simp only [List.length_nil] at hl3
  clear hb3 HS HS2
  obtain ⟨x1, x2, x3⟩ := HS3.out.k0 0 rfl rfl rfl rfl
  have x4 := HS3.out.cell 0 rfl 3 rfl
  obtain ⟨x5, x6, x7⟩ := HS3.out.f0 0 rfl
  have x8 := HS3.out.frozen 0 rfl 3
  have x9 := HS3.out.lt 0 rfl
  have x10 : ¬ w.heap.size = w3.heap.size := by omega
  have x11 : ¬ w3.heap.size = w.heap.size := by omega
  go_wp2
  have HS4 : Hid (St w [⟨w3.heap.size, #[.bool (negB (q)), .string (bs (numB (q))), .string (bs (denomB (q))), .slice A3 0 c3], 28⟩, ⟨w.heap.size, #[.bool (negB (q)), .string (bs (numB (q))), .string (bs (denomB (q))), .slice A3 0 c3], 28⟩] _) := Lib.hid (St.alloc ((St.set ((St.set ((St.set ((St.set (HS3.out) 0 rfl 0 _)) 0 rfl 1 _)) 0 rfl 2 _)) 0 rfl 3 _)) #[.bool (negB (q)), .string (bs (numB (q))), .string (bs (denomB (q))), .slice A3 0 c3] 28 (w3.heap.size) (by simp))
  refine bodyPost_ret (ven_result rfl _ _ _ rfl (HS4.out.blk 1 rfl)) rfl ?_
  refine ⟨_, _, _, _, [], rfl, ?_, HSM.out, by decide, HQ8.out.num, HQ8.out.denom, HS4.out.below⟩
  obtain ⟨A9, c9, hv9, _, hc9⟩ := (hl3.blocs rfl).slice
  injection hv9 with _ _ hv9
  subst hv9
  exact Slc.nil_ _ _ _ _ _ hc9
 ·have d0 : decide ((0 : Int) < ((l.length : Nat) : Int)) = true := decide_eq_true (by omega)
  have hpos : 0 < l.length := by omega
  obtain ⟨j, hj⟩ : ∃ j : Nat, (j : Int) = m % (l.length : Int) := ⟨(m % (l.length : Int)).toNat, by have := Int.emod_nonneg m (show (l.length : Int) ≠ 0 by omega); omega⟩
  have hjl : j < l.length := by have := Int.emod_lt_of_pos m (show (0 : Int) < (l.length : Int) by omega); omega
  have e1 : Int.tmod m (l.length : Int) = (j : Int) := by rw [Int.tmod_eq_emod_of_nonneg hm.1, hj]
  have e2 : IntKind.i64.wrap (j : Int) = (j : Int) := IntWalk.i64_in _ (by omega)
  have e3 : IntKind.i64.wrap m = m := IntWalk.i64_in _ (by omega)
  have e4 : ¬ ((l.length : Int) = 0) := by omega
  have e4b : ¬ (l.length = 0) := by omega
  have e5 : (0 : Int) ≤ (j : Int) := by omega
  have e6 : (j : Int) < (l.length : Int) := by omega
  obtain ⟨u, hu⟩ : ∃ u, l[j]? = some u := ⟨l[j], List.getElem?_eq_getElem hjl⟩
  obtain ⟨u0, hu0⟩ : ∃ u, l[0]? = some u := ⟨l[0], List.getElem?_eq_getElem hpos⟩
  have HUS := Lib.hid (HSM.out u (List.mem_of_getElem? hu))
  have HU0 := Lib.hid (HSM.out u0 (List.mem_of_getElem? hu0))
  have HU := Lib.hid hu
  have HZ0 := Lib.hid hu0
  have e7 : Int.tmod b 12 = b % 12 := Int.tmod_eq_emod_of_nonneg hb.1
  have e8 : IntKind.u8.wrap (b % 12) = b % 12 := by rw [IntKind.wrap_u8]; omega
  have hW := fun W => law0_Whole (-1) W (by decide) (by decide)
  have hR := fun W => law0_Ratio 13 12 W (by decide) (by decide) (by decide) (by decide)
  rw [show (12 : Int).toNat = 12 from rfl] at hR
  have HMI := Lib.hid ((sized_int8 (n := -1) (by decide)).mono (show 8 ≤ 24 by decide))
  have HRI := Lib.hid ((mkR_sized (n := 13) (d := 12) (by decide) (by decide) (by decide)).mono (show 8 ≤ 24 by decide))
  generalize ((-1 : Int) : Rat) = mi at *
  generalize mkRat 13 12 = ri at *
  unfold rat raw at hW hR
  have HW := Lib.hid hW
  have HR := Lib.hid hR
  clear h0 hj hu hu0 hW hR
  go_enter Tryz.func12, Tryz.ntmps12
  have HS := Lib.hid (St.start w)
  go_wp2_with fail
  have HS2 := Lib.hid (St.alloc (HS.out) #[.bool false, .string (bs []), .string (bs []), .slice none 0 0] 28 (w.heap.size) (by simp))
  refine (HV.out _ HS2.out.below).mono ?_
  rintro e w3 ⟨A3, c3, rfl, hl3, hb3⟩
  have HS3 := Lib.hid (HS2.out.call hb3)
  clear hb3 HS HS2
  obtain ⟨g, cap, rest, hv, hg, hcap, hcm, hrl, hB⟩ := hl3.toX hpos
  injection hv with hv1 _ hv3
  subst hv1
  have hv3 := hv3.symm
  subst hv3
  have HSX := Lib.hid (HS3.out.add hg (by simp) (by simp) hB)
  clear hB hl3 HS3
  go_wp2
  refine wp_st (R := [⟨w3.heap.size, #[.bool (negB (q)), .string (bs (numB (q))), .string (bs (denomB (q))), .slice (some ⟨g, 0, none⟩) l.length cap], 28⟩, ⟨g, (rowX (l) rest), 59⟩, ⟨w.heap.size, #[.bool false, .string (bs []), .string (bs []), .slice none 0 0], 28⟩]) (St.alloc (HSX.out) #[.bool (negB (q)), .string (bs (numB (q))), .string (bs (denomB (q))), .slice (some ⟨g, 0, none⟩) l.length cap] 28 (w3.heap.size) (by simp)) ?_
  intro wg4 hb
  have HSX4 := Lib.hid hb
  clear hb HSX
  refine wp_region_eq 9 [.pointer (some ⟨w3.heap.size, 3, none⟩), .slice (some ⟨g, 0, none⟩) l.length cap, .int .u8 m, .int .i64 m, .pointer (some ⟨w3.heap.size, 3, none⟩), .slice (some ⟨g, 0, none⟩) l.length cap, .int .i64 l.length, .int .i64 (j : Nat), .pointer (some ⟨g, j * 11, none⟩)] rfl (by kernel_rfl) (by kernel_rfl) (by kernel_rfl) ?_ ?_
  refine ⟨?_, ?_, ?_, ?_, ?_, ?_, ?_, ?_, ?_, trivial⟩
  ·intro xx af wv hbx hev hev0 hd; have e9 : af.tmps[9]?.getD undef = .pointer (some ⟨w3.heap.size, 0, none⟩) := hev0 9 rfl; clear hev hev0 hd; go_wp2; exact sQ rfl
  ·intro xx af wv hbx hev hev0 hd; have e18 := (hev 0 _ 18 rfl rfl).trans (hd ⟨0, .data⟩ (by simp) rfl); clear hev hev0 hd; have hs1 := Lib.hid (HSX4.out.call hbx); have y0 := hs1.out.cell 0 rfl 3 rfl; go_wp2; exact sQ rfl
  ·intro xx af wv hbx hev hev0 hd; have e2 : af.tmps[2]?.getD undef = .int .u8 m := hev0 2 rfl; clear hev hev0 hd; go_wp2; exact sQ rfl
  ·intro xx af wv hbx hev hev0 hd; have e20 := (hev 2 _ 20 rfl rfl).trans (hd ⟨2, .data⟩ (by simp) rfl); clear hev hev0 hd; go_wp2; exact sQ rfl
  ·intro xx af wv hbx hev hev0 hd; have e9 : af.tmps[9]?.getD undef = .pointer (some ⟨w3.heap.size, 0, none⟩) := hev0 9 rfl; clear hev hev0 hd; go_wp2; exact sQ rfl
  ·intro xx af wv hbx hev hev0 hd; have e22 := (hev 4 _ 22 rfl rfl).trans (hd ⟨4, .data⟩ (by simp) rfl); clear hev hev0 hd; have hs1 := Lib.hid (HSX4.out.call hbx); have y0 := hs1.out.cell 0 rfl 3 rfl; go_wp2; exact sQ rfl
  ·intro xx af wv hbx hev hev0 hd; have e23 := (hev 5 _ 23 rfl rfl).trans (hd ⟨5, .data⟩ (by simp) rfl); clear hev hev0 hd; go_wp2; exact sQ rfl
  ·intro xx af wv hbx hev hev0 hd; have e21 := (hev 3 _ 21 rfl rfl).trans (hd ⟨3, .data⟩ (by simp) rfl); have e24 := (hev 6 _ 24 rfl rfl).trans (hd ⟨6, .data⟩ (by simp) rfl); clear hev hev0 hd; go_wp2; exact sQ rfl
  ·intro xx af wv hbx hev hev0 hd; have e19 := (hev 1 _ 19 rfl rfl).trans (hd ⟨1, .data⟩ (by simp) rfl); have e25 := (hev 7 _ 25 rfl rfl).trans (hd ⟨7, .data⟩ (by simp) rfl); clear hev hev0 hd; go_wp2; exact sQ rfl
  intro xx w6 hb9 hv
  simp only [List.take, List.drop, fillA, Act.put]
  simp only [show xx 0 = _ from hv 0 (by decide), show xx 1 = _ from hv 1 (by decide), show xx 2 = _ from hv 2 (by decide), show xx 3 = _ from hv 3 (by decide), show xx 4 = _ from hv 4 (by decide), show xx 5 = _ from hv 5 (by decide), show xx 6 = _ from hv 6 (by decide), show xx 7 = _ from hv 7 (by decide), show xx 8 = _ from hv 8 (by decide)]
  clear hv
  have HSX6 := Lib.hid (HSX4.out.call hb9)
  clear hb9 HSX4
  by_cases hq0 : b % 12 = 0
  ·have n0 : ((b % 12) == (0 : Int)) = true := by rw [beq_iff_eq]; exact hq0
   clear hq0
   obtain ⟨x1, x2, x3⟩ := HSX6.out.k0 0 rfl rfl rfl rfl
   have x4 := HSX6.out.cell 0 rfl 3 rfl
   obtain ⟨x5, x6, x7⟩ := HSX6.out.k0 2 rfl rfl rfl rfl
   have x8 := HSX6.out.cell 2 rfl 3 rfl
   obtain ⟨x9, x10, x11⟩ := HSX6.out.f0 2 rfl
   have x12 := HSX6.out.frozen 2 rfl 3
   have x13 := HSX6.out.cell 1 rfl (j * 11) (rowX_cell0 (HU.out) rfl)
   have x14 := HSX6.out.frozen 1 rfl (j * 11)
   have x15 := HSX6.out.ne 2 0 rfl rfl (by decide)
   have x16 := HSX6.out.ne 0 2 rfl rfl (by decide)
   have x17 := HSX6.out.ne 2 1 rfl rfl (by decide)
   have x18 := HSX6.out.ne 1 2 rfl rfl (by decide)
   have x19 := HSX6.out.ne 1 0 rfl rfl (by decide)
   have x20 := HSX6.out.ne 0 1 rfl rfl (by decide)
   have x21 := HSX6.out.ne 1 2 rfl rfl (by decide)
   have x22 := HSX6.out.ne 2 1 rfl rfl (by decide)
   go_wp2
   have HSX7 : Hid (St w [⟨w3.heap.size, #[.bool (negB (q)), .string (bs (numB (q))), .string (bs (denomB (q))), .slice (some ⟨g, 0, none⟩) l.length cap], 28⟩, ⟨g, (rowX ((l).set j ((u).wRank ((-1)))) rest), 59⟩, ⟨w.heap.size, #[.bool (negB (q)), .string (bs (numB (q))), .string (bs (denomB (q))), .slice (some ⟨g, 0, none⟩) l.length cap], 28⟩] _) := Lib.hid (St.set ((St.set ((St.set ((St.set ((St.wRank (HSX6.out) 1 rfl j (u) (HU.out) ((-1)))) 2 rfl 0 _)) 2 rfl 1 _)) 2 rfl 2 _)) 2 rfl 3 _)
   refine bodyPost_ret (ven_result rfl _ _ _ rfl (HSX7.out.blk 2 rfl)) rfl ?_
   exact ⟨_, _, _, _, (l.set j (u.wRank (-1))), rfl, rowX_slc (HSX7.out.blk 1 rfl) List.length_set (by omega) (by unfold maxLen at hcm; omega), smallB_set HSM.out _ (wRank_small HUS.out _), by rw [List.length_set]; omega, HQ8.out.num, HQ8.out.denom, HSX7.out.below⟩
  by_cases hq1 : b % 12 = 1
  ·have n0 : ((b % 12) == (0 : Int)) = false := by rw [beq_eq_false_iff_ne]; omega
   have n1 : ((b % 12) == (1 : Int)) = true := by rw [beq_iff_eq]; exact hq1
   clear hq1
   obtain ⟨x1, x2, x3⟩ := HSX6.out.k0 0 rfl rfl rfl rfl
   have x4 := HSX6.out.cell 0 rfl 3 rfl
   obtain ⟨x5, x6, x7⟩ := HSX6.out.k0 2 rfl rfl rfl rfl
   have x8 := HSX6.out.cell 2 rfl 3 rfl
   obtain ⟨x9, x10, x11⟩ := HSX6.out.f0 2 rfl
   have x12 := HSX6.out.frozen 2 rfl 3
   have x13 := HSX6.out.cell 1 rfl (j * 11) (rowX_cell0 (HU.out) rfl)
   have x14 := HSX6.out.frozen 1 rfl (j * 11)
   have x15 := HSX6.out.ne 2 0 rfl rfl (by decide)
   have x16 := HSX6.out.ne 0 2 rfl rfl (by decide)
   have x17 := HSX6.out.ne 2 1 rfl rfl (by decide)
   have x18 := HSX6.out.ne 1 2 rfl rfl (by decide)
   have x19 := HSX6.out.ne 1 0 rfl rfl (by decide)
   have x20 := HSX6.out.ne 0 1 rfl rfl (by decide)
   have x21 := HSX6.out.ne 1 2 rfl rfl (by decide)
   have x22 := HSX6.out.ne 2 1 rfl rfl (by decide)
   go_wp2
   have HSX7 : Hid (St w [⟨w3.heap.size, #[.bool (negB (q)), .string (bs (numB (q))), .string (bs (denomB (q))), .slice (some ⟨g, 0, none⟩) l.length cap], 28⟩, ⟨g, (rowX ((l).set j ((u).wRank (8))) rest), 59⟩, ⟨w.heap.size, #[.bool (negB (q)), .string (bs (numB (q))), .string (bs (denomB (q))), .slice (some ⟨g, 0, none⟩) l.length cap], 28⟩] _) := Lib.hid (St.set ((St.set ((St.set ((St.set ((St.wRank (HSX6.out) 1 rfl j (u) (HU.out) (8))) 2 rfl 0 _)) 2 rfl 1 _)) 2 rfl 2 _)) 2 rfl 3 _)
   refine bodyPost_ret (ven_result rfl _ _ _ rfl (HSX7.out.blk 2 rfl)) rfl ?_
   exact ⟨_, _, _, _, (l.set j (u.wRank 8)), rfl, rowX_slc (HSX7.out.blk 1 rfl) List.length_set (by omega) (by unfold maxLen at hcm; omega), smallB_set HSM.out _ (wRank_small HUS.out _), by rw [List.length_set]; omega, HQ8.out.num, HQ8.out.denom, HSX7.out.below⟩
  by_cases hq2 : b % 12 = 2
  ·have n0 : ((b % 12) == (0 : Int)) = false := by rw [beq_eq_false_iff_ne]; omega
   have n1 : ((b % 12) == (1 : Int)) = false := by rw [beq_eq_false_iff_ne]; omega
   have n2 : ((b % 12) == (2 : Int)) = true := by rw [beq_iff_eq]; exact hq2
   clear hq2
   obtain ⟨x1, x2, x3⟩ := HSX6.out.k0 0 rfl rfl rfl rfl
   have x4 := HSX6.out.cell 0 rfl 3 rfl
   obtain ⟨x5, x6, x7⟩ := HSX6.out.k0 2 rfl rfl rfl rfl
   have x8 := HSX6.out.cell 2 rfl 3 rfl
   obtain ⟨x9, x10, x11⟩ := HSX6.out.f0 2 rfl
   have x12 := HSX6.out.frozen 2 rfl 3
   have x13 := HSX6.out.cell 1 rfl (j * 11) (rowX_cell0 (HU.out) rfl)
   have x14 := HSX6.out.frozen 1 rfl (j * 11)
   have x15 := HSX6.out.ne 2 0 rfl rfl (by decide)
   have x16 := HSX6.out.ne 0 2 rfl rfl (by decide)
   have x17 := HSX6.out.ne 2 1 rfl rfl (by decide)
   have x18 := HSX6.out.ne 1 2 rfl rfl (by decide)
   have x19 := HSX6.out.ne 1 0 rfl rfl (by decide)
   have x20 := HSX6.out.ne 0 1 rfl rfl (by decide)
   have x21 := HSX6.out.ne 1 2 rfl rfl (by decide)
   have x22 := HSX6.out.ne 2 1 rfl rfl (by decide)
   go_wp2
   have HSX7 : Hid (St w [⟨w3.heap.size, #[.bool (negB (q)), .string (bs (numB (q))), .string (bs (denomB (q))), .slice (some ⟨g, 0, none⟩) l.length cap], 28⟩, ⟨g, (rowX ((l).set j ((u).wRank (0))) rest), 59⟩, ⟨w.heap.size, #[.bool (negB (q)), .string (bs (numB (q))), .string (bs (denomB (q))), .slice (some ⟨g, 0, none⟩) l.length cap], 28⟩] _) := Lib.hid (St.set ((St.set ((St.set ((St.set ((St.wRank (HSX6.out) 1 rfl j (u) (HU.out) (0))) 2 rfl 0 _)) 2 rfl 1 _)) 2 rfl 2 _)) 2 rfl 3 _)
   refine bodyPost_ret (ven_result rfl _ _ _ rfl (HSX7.out.blk 2 rfl)) rfl ?_
   exact ⟨_, _, _, _, (l.set j (u.wRank 0)), rfl, rowX_slc (HSX7.out.blk 1 rfl) List.length_set (by omega) (by unfold maxLen at hcm; omega), smallB_set HSM.out _ (wRank_small HUS.out _), by rw [List.length_set]; omega, HQ8.out.num, HQ8.out.denom, HSX7.out.below⟩
  by_cases hq3 : b % 12 = 3
  ·have n0 : ((b % 12) == (0 : Int)) = false := by rw [beq_eq_false_iff_ne]; omega
   have n1 : ((b % 12) == (1 : Int)) = false := by rw [beq_eq_false_iff_ne]; omega
   have n2 : ((b % 12) == (2 : Int)) = false := by rw [beq_eq_false_iff_ne]; omega
   have n3 : ((b % 12) == (3 : Int)) = true := by rw [beq_iff_eq]; exact hq3
   clear hq3
   obtain ⟨x1, x2, x3⟩ := HSX6.out.k0 0 rfl rfl rfl rfl
   have x4 := HSX6.out.cell 0 rfl 3 rfl
   obtain ⟨x5, x6, x7⟩ := HSX6.out.k0 2 rfl rfl rfl rfl
   have x8 := HSX6.out.cell 2 rfl 3 rfl
   obtain ⟨x9, x10, x11⟩ := HSX6.out.f0 2 rfl
   have x12 := HSX6.out.frozen 2 rfl 3
   have x13 := HSX6.out.cell 1 rfl (j * 11 + 1) (rowX_cell (j := j) (HU.out) (i := 1) rfl)
   have x14 := HSX6.out.cell 1 rfl (j * 11 + 2) (rowX_cell (j := j) (HU.out) (i := 2) rfl)
   have x15 := HSX6.out.cell 1 rfl (j * 11 + 3) (rowX_cell (j := j) (HU.out) (i := 3) rfl)
   have x16 := HSX6.out.frozen 1 rfl (j * 11 + 1)
   have x17 := HSX6.out.frozen 1 rfl (j * 11 + 2)
   have x18 := HSX6.out.frozen 1 rfl (j * 11 + 3)
   have x19 := HSX6.out.ne 2 0 rfl rfl (by decide)
   have x20 := HSX6.out.ne 0 2 rfl rfl (by decide)
   have x21 := HSX6.out.ne 2 1 rfl rfl (by decide)
   have x22 := HSX6.out.ne 1 2 rfl rfl (by decide)
   have x23 := HSX6.out.ne 1 0 rfl rfl (by decide)
   have x24 := HSX6.out.ne 0 1 rfl rfl (by decide)
   have x25 := HSX6.out.ne 1 2 rfl rfl (by decide)
   have x26 := HSX6.out.ne 2 1 rfl rfl (by decide)
   go_wp2
   have HSX7 : Hid (St w [⟨w3.heap.size, #[.bool (negB (q)), .string (bs (numB (q))), .string (bs (denomB (q))), .slice (some ⟨g, 0, none⟩) l.length cap], 28⟩, ⟨g, (rowX ((l).set j ((u).wTotal (false) ([]) ([]))) rest), 59⟩, ⟨w.heap.size, #[.bool (negB (q)), .string (bs (numB (q))), .string (bs (denomB (q))), .slice (some ⟨g, 0, none⟩) l.length cap], 28⟩] _) := Lib.hid (St.set ((St.set ((St.set ((St.set ((St.wTotal (HSX6.out) 1 rfl j (u) (HU.out) (false) ([]) ([]))) 2 rfl 0 _)) 2 rfl 1 _)) 2 rfl 2 _)) 2 rfl 3 _)
   refine bodyPost_ret (ven_result rfl _ _ _ rfl (HSX7.out.blk 2 rfl)) rfl ?_
   exact ⟨_, _, _, _, (l.set j (u.wTotal false [] [])), rfl, rowX_slc (HSX7.out.blk 1 rfl) List.length_set (by omega) (by unfold maxLen at hcm; omega), smallB_set HSM.out _ (wTotal_small HUS.out (by decide)), by rw [List.length_set]; omega, HQ8.out.num, HQ8.out.denom, HSX7.out.below⟩
  by_cases hq4 : b % 12 = 4
  ·have n0 : ((b % 12) == (0 : Int)) = false := by rw [beq_eq_false_iff_ne]; omega
   have n1 : ((b % 12) == (1 : Int)) = false := by rw [beq_eq_false_iff_ne]; omega
   have n2 : ((b % 12) == (2 : Int)) = false := by rw [beq_eq_false_iff_ne]; omega
   have n3 : ((b % 12) == (3 : Int)) = false := by rw [beq_eq_false_iff_ne]; omega
   have n4 : ((b % 12) == (4 : Int)) = true := by rw [beq_iff_eq]; exact hq4
   clear hq4
   go_wp2_with fail
   refine (HR.out _).mono ?_
   rintro e w7 ⟨rfl, hb7⟩
   have HSX7 := Lib.hid (HSX6.out.call hb7)
   clear hb7 HSX6
   obtain ⟨x1, x2, x3⟩ := HSX7.out.k0 0 rfl rfl rfl rfl
   have x4 := HSX7.out.cell 0 rfl 3 rfl
   obtain ⟨x5, x6, x7⟩ := HSX7.out.k0 2 rfl rfl rfl rfl
   have x8 := HSX7.out.cell 2 rfl 3 rfl
   obtain ⟨x9, x10, x11⟩ := HSX7.out.f0 2 rfl
   have x12 := HSX7.out.frozen 2 rfl 3
   have x13 := HSX7.out.cell 1 rfl (j * 11 + 4) (rowX_cell (j := j) (HU.out) (i := 4) rfl)
   have x14 := HSX7.out.cell 1 rfl (j * 11 + 5) (rowX_cell (j := j) (HU.out) (i := 5) rfl)
   have x15 := HSX7.out.cell 1 rfl (j * 11 + 6) (rowX_cell (j := j) (HU.out) (i := 6) rfl)
   have x16 := HSX7.out.frozen 1 rfl (j * 11 + 4)
   have x17 := HSX7.out.frozen 1 rfl (j * 11 + 5)
   have x18 := HSX7.out.frozen 1 rfl (j * 11 + 6)
   have x19 := HSX7.out.ne 2 0 rfl rfl (by decide)
   have x20 := HSX7.out.ne 0 2 rfl rfl (by decide)
   have x21 := HSX7.out.ne 2 1 rfl rfl (by decide)
   have x22 := HSX7.out.ne 1 2 rfl rfl (by decide)
   have x23 := HSX7.out.ne 1 0 rfl rfl (by decide)
   have x24 := HSX7.out.ne 0 1 rfl rfl (by decide)
   have x25 := HSX7.out.ne 1 2 rfl rfl (by decide)
   have x26 := HSX7.out.ne 2 1 rfl rfl (by decide)
   go_wp2
   have HSX8 : Hid (St w [⟨w3.heap.size, #[.bool (negB (q)), .string (bs (numB (q))), .string (bs (denomB (q))), .slice (some ⟨g, 0, none⟩) l.length cap], 28⟩, ⟨g, (rowX ((l).set j ((u).wFloor ((negB (ri))) ((numB (ri))) ((denomB (ri))))) rest), 59⟩, ⟨w.heap.size, #[.bool (negB (q)), .string (bs (numB (q))), .string (bs (denomB (q))), .slice (some ⟨g, 0, none⟩) l.length cap], 28⟩] _) := Lib.hid (St.set ((St.set ((St.set ((St.set ((St.wFloor (HSX7.out) 1 rfl j (u) (HU.out) ((negB (ri))) ((numB (ri))) ((denomB (ri))))) 2 rfl 0 _)) 2 rfl 1 _)) 2 rfl 2 _)) 2 rfl 3 _)
   refine bodyPost_ret (ven_result rfl _ _ _ rfl (HSX8.out.blk 2 rfl)) rfl ?_
   exact ⟨_, _, _, _, (l.set j (u.wFloor (negB ri) (numB ri) (denomB ri))), rfl, rowX_slc (HSX8.out.blk 1 rfl) List.length_set (by omega) (by unfold maxLen at hcm; omega), smallB_set HSM.out _ (wFloor_small HUS.out ⟨HRI.out.num, HRI.out.denom⟩), by rw [List.length_set]; omega, HQ8.out.num, HQ8.out.denom, HSX8.out.below⟩
  by_cases hq5 : b % 12 = 5
  ·have n0 : ((b % 12) == (0 : Int)) = false := by rw [beq_eq_false_iff_ne]; omega
   have n1 : ((b % 12) == (1 : Int)) = false := by rw [beq_eq_false_iff_ne]; omega
   have n2 : ((b % 12) == (2 : Int)) = false := by rw [beq_eq_false_iff_ne]; omega
   have n3 : ((b % 12) == (3 : Int)) = false := by rw [beq_eq_false_iff_ne]; omega
   have n4 : ((b % 12) == (4 : Int)) = false := by rw [beq_eq_false_iff_ne]; omega
   have n5 : ((b % 12) == (5 : Int)) = true := by rw [beq_iff_eq]; exact hq5
   clear hq5
   go_wp2_with fail
   refine (HW.out _).mono ?_
   rintro e w7 ⟨rfl, hb7⟩
   have HSX7 := Lib.hid (HSX6.out.call hb7)
   clear hb7 HSX6
   obtain ⟨x1, x2, x3⟩ := HSX7.out.k0 0 rfl rfl rfl rfl
   have x4 := HSX7.out.cell 0 rfl 3 rfl
   obtain ⟨x5, x6, x7⟩ := HSX7.out.k0 2 rfl rfl rfl rfl
   have x8 := HSX7.out.cell 2 rfl 3 rfl
   obtain ⟨x9, x10, x11⟩ := HSX7.out.f0 2 rfl
   have x12 := HSX7.out.frozen 2 rfl 3
   have x13 := HSX7.out.cell 1 rfl (j * 11 + 7) (rowX_cell (j := j) (HU.out) (i := 7) rfl)
   have x14 := HSX7.out.cell 1 rfl (j * 11 + 8) (rowX_cell (j := j) (HU.out) (i := 8) rfl)
   have x15 := HSX7.out.cell 1 rfl (j * 11 + 9) (rowX_cell (j := j) (HU.out) (i := 9) rfl)
   have x16 := HSX7.out.frozen 1 rfl (j * 11 + 7)
   have x17 := HSX7.out.frozen 1 rfl (j * 11 + 8)
   have x18 := HSX7.out.frozen 1 rfl (j * 11 + 9)
   have x19 := HSX7.out.ne 2 0 rfl rfl (by decide)
   have x20 := HSX7.out.ne 0 2 rfl rfl (by decide)
   have x21 := HSX7.out.ne 2 1 rfl rfl (by decide)
   have x22 := HSX7.out.ne 1 2 rfl rfl (by decide)
   have x23 := HSX7.out.ne 1 0 rfl rfl (by decide)
   have x24 := HSX7.out.ne 0 1 rfl rfl (by decide)
   have x25 := HSX7.out.ne 1 2 rfl rfl (by decide)
   have x26 := HSX7.out.ne 2 1 rfl rfl (by decide)
   go_wp2
   have HSX8 : Hid (St w [⟨w3.heap.size, #[.bool (negB (q)), .string (bs (numB (q))), .string (bs (denomB (q))), .slice (some ⟨g, 0, none⟩) l.length cap], 28⟩, ⟨g, (rowX ((l).set j ((u).wAsk ((negB (mi))) ((numB (mi))) ((denomB (mi))))) rest), 59⟩, ⟨w.heap.size, #[.bool (negB (q)), .string (bs (numB (q))), .string (bs (denomB (q))), .slice (some ⟨g, 0, none⟩) l.length cap], 28⟩] _) := Lib.hid (St.set ((St.set ((St.set ((St.set ((St.wAsk (HSX7.out) 1 rfl j (u) (HU.out) ((negB (mi))) ((numB (mi))) ((denomB (mi))))) 2 rfl 0 _)) 2 rfl 1 _)) 2 rfl 2 _)) 2 rfl 3 _)
   refine bodyPost_ret (ven_result rfl _ _ _ rfl (HSX8.out.blk 2 rfl)) rfl ?_
   exact ⟨_, _, _, _, (l.set j (u.wAsk (negB mi) (numB mi) (denomB mi))), rfl, rowX_slc (HSX8.out.blk 1 rfl) List.length_set (by omega) (by unfold maxLen at hcm; omega), smallB_set HSM.out _ (wAsk_small HUS.out ⟨HMI.out.num, HMI.out.denom⟩), by rw [List.length_set]; omega, HQ8.out.num, HQ8.out.denom, HSX8.out.below⟩
  by_cases hq6 : b % 12 = 6
  ·have n0 : ((b % 12) == (0 : Int)) = false := by rw [beq_eq_false_iff_ne]; omega
   have n1 : ((b % 12) == (1 : Int)) = false := by rw [beq_eq_false_iff_ne]; omega
   have n2 : ((b % 12) == (2 : Int)) = false := by rw [beq_eq_false_iff_ne]; omega
   have n3 : ((b % 12) == (3 : Int)) = false := by rw [beq_eq_false_iff_ne]; omega
   have n4 : ((b % 12) == (4 : Int)) = false := by rw [beq_eq_false_iff_ne]; omega
   have n5 : ((b % 12) == (5 : Int)) = false := by rw [beq_eq_false_iff_ne]; omega
   have n6 : ((b % 12) == (6 : Int)) = true := by rw [beq_iff_eq]; exact hq6
   clear hq6
   go_wp2_with fail
   refine (HW.out _).mono ?_
   rintro e w7 ⟨rfl, hb7⟩
   have HSX7 := Lib.hid (HSX6.out.call hb7)
   clear hb7 HSX6
   obtain ⟨x1, x2, x3⟩ := HSX7.out.k0 0 rfl rfl rfl rfl
   have x4 := HSX7.out.cell 0 rfl 3 rfl
   obtain ⟨x5, x6, x7⟩ := HSX7.out.k0 2 rfl rfl rfl rfl
   have x8 := HSX7.out.cell 2 rfl 3 rfl
   obtain ⟨x9, x10, x11⟩ := HSX7.out.f0 0 rfl
   obtain ⟨x12, x13, x14⟩ := HSX7.out.f0 2 rfl
   have x15 := HSX7.out.frozen 2 rfl 3
   have x16 := HSX7.out.ne 0 1 rfl rfl (by decide)
   have x17 := HSX7.out.ne 1 0 rfl rfl (by decide)
   have x18 := HSX7.out.ne 0 2 rfl rfl (by decide)
   have x19 := HSX7.out.ne 2 0 rfl rfl (by decide)
   have x20 := HSX7.out.ne 2 0 rfl rfl (by decide)
   have x21 := HSX7.out.ne 0 2 rfl rfl (by decide)
   have x22 := HSX7.out.ne 2 1 rfl rfl (by decide)
   have x23 := HSX7.out.ne 1 2 rfl rfl (by decide)
   go_wp2
   have HSX8 : Hid (St w [⟨w3.heap.size, #[.bool (negB (mi)), .string (bs (numB (mi))), .string (bs (denomB (mi))), .slice (some ⟨g, 0, none⟩) l.length cap], 28⟩, ⟨g, (rowX (l) rest), 59⟩, ⟨w.heap.size, #[.bool (negB (mi)), .string (bs (numB (mi))), .string (bs (denomB (mi))), .slice (some ⟨g, 0, none⟩) l.length cap], 28⟩] _) := Lib.hid (St.set ((St.set ((St.set ((St.set ((St.set ((St.set ((St.set (HSX7.out) 0 rfl 0 _)) 0 rfl 1 _)) 0 rfl 2 _)) 2 rfl 0 _)) 2 rfl 1 _)) 2 rfl 2 _)) 2 rfl 3 _)
   refine bodyPost_ret (ven_result rfl _ _ _ rfl (HSX8.out.blk 2 rfl)) rfl ?_
   exact ⟨_, _, _, _, l, rfl, rowX_slc (HSX8.out.blk 1 rfl) rfl (by omega) (by unfold maxLen at hcm; omega), HSM.out, by omega, HMI.out.num, HMI.out.denom, HSX8.out.below⟩
  by_cases hq7 : b % 12 = 7
  ·have n0 : ((b % 12) == (0 : Int)) = false := by rw [beq_eq_false_iff_ne]; omega
   have n1 : ((b % 12) == (1 : Int)) = false := by rw [beq_eq_false_iff_ne]; omega
   have n2 : ((b % 12) == (2 : Int)) = false := by rw [beq_eq_false_iff_ne]; omega
   have n3 : ((b % 12) == (3 : Int)) = false := by rw [beq_eq_false_iff_ne]; omega
   have n4 : ((b % 12) == (4 : Int)) = false := by rw [beq_eq_false_iff_ne]; omega
   have n5 : ((b % 12) == (5 : Int)) = false := by rw [beq_eq_false_iff_ne]; omega
   have n6 : ((b % 12) == (6 : Int)) = false := by rw [beq_eq_false_iff_ne]; omega
   have n7 : ((b % 12) == (7 : Int)) = true := by rw [beq_iff_eq]; exact hq7
   clear hq7
   go_wp2
   go_loopw [] (fun wr => ∃ (k g1 cap1 : Nat) (rest1 : List Value), l.length + k ≤ 17 ∧ l.length + k ≤ cap1 ∧ cap1 ≤ maxLen ∧ rest1.length + (l.length + k) * 11 = cap1 * 11 ∧ Hid (St w [⟨w3.heap.size, #[.bool (negB (q)), .string (bs (numB (q))), .string (bs (denomB (q))), .slice (some ⟨g1, 0, none⟩) (l.length + k) cap1], 28⟩, ⟨g1, (rowX (padB l u0 k) rest1), 59⟩, ⟨w.heap.size, #[.bool false, .string (bs []), .string (bs []), .slice none 0 0], 28⟩] wr)) (fun wr => 17 - (match wr.cell? ⟨w3.heap.size, 3, none⟩ with | some (.slice _ n _) => n | _ => 0))
   case atStart => exact ⟨0, g, cap, rest, by omega, hcap, hcm, hrl, by show St _ _ _; rw [show padB l u0 0 = l by unfold padB; simp]; exact HSX6.out⟩
   case round =>
    clear HSX6
    obtain ⟨k, g1, cap1, rest1, hk, hkc, hc1, hr1, HS⟩ := hrel
    obtain ⟨wo, hwo⟩ : ∃ wo : World, wo = wr := ⟨_, rfl⟩
    subst hwo
    have HCL := Lib.hid (HS.out.cell 0 rfl 3 rfl)
    by_cases hlt : l.length + k < 17
    ·have hd : decide (((l.length + k : Nat) : Int) < 17) = true := decide_eq_true (by omega)
     have f1 : (0 : Int) < ((l.length + k : Nat) : Int) := by omega
     have HP0 := Lib.hid (padB_at HZ0.out k)
     have HPS := Lib.hid (padB_snoc l u0 k)
     have x1 := HS.out.cell 0 rfl 3 rfl
     go_wp2
     clear x1
     refine wp_region_facts 7 [eQ (.pointer (some ⟨w3.heap.size, 3, none⟩)), eQ (.slice (some ⟨g1, 0, none⟩) (l.length + k) cap1), eQ (.pointer (some ⟨w3.heap.size, 3, none⟩)), eQ (.slice (some ⟨g1, 0, none⟩) (l.length + k) cap1), eQ (.pointer (some ⟨g1, 0, none⟩)), eQ (.agg #[.int .i64 u0.rank, .bool u0.tn, .string (bs u0.ta), .string (bs u0.tb), .bool u0.fn, .string (bs u0.fa), .string (bs u0.fb), .bool u0.kn, .string (bs u0.ka), .string (bs u0.kb), .bool u0.acc]), fun ww vv => ∃ g, vv = .slice (some ⟨g, 0, none⟩) 1 1 ∧ wo.heap.size ≤ g ∧ Blk ww g #[.int .i64 u0.rank, .bool u0.tn, .string (bs u0.ta), .string (bs u0.tb), .bool u0.fn, .string (bs u0.fa), .string (bs u0.fb), .bool u0.kn, .string (bs u0.ka), .string (bs u0.kb), .bool u0.acc] 59] rfl (by kernel_rfl) (by kernel_rfl) (by kernel_rfl) ⟨stE, stE, stE, stE, stE, stE, fun _ _ _ ⟨g, e, hg, h⟩ hb => ⟨g, e, hg, h.below hb h.lt⟩, trivial⟩ ?_ ?_
     refine ⟨?_, ?_, ?_, ?_, ?_, ?_, ?_, trivial⟩
     ·intro xx af wv hbx hev hev0 hd; have e9 : af.tmps[9]?.getD undef = .pointer (some ⟨w3.heap.size, 0, none⟩) := hev0 9 rfl; clear hev hev0 hd; go_wp2; exact sQ rfl
     ·intro xx af wv hbx hev hev0 hd; have e72 := (hev 0 _ 72 rfl rfl).trans (hd ⟨0, .data⟩ (by simp) rfl); clear hev hev0 hd; have hs1 := Lib.hid (HS.out.call hbx); have y0 := hs1.out.cell 0 rfl 3 rfl; go_wp2; exact sQ rfl
     ·intro xx af wv hbx hev hev0 hd; have e9 : af.tmps[9]?.getD undef = .pointer (some ⟨w3.heap.size, 0, none⟩) := hev0 9 rfl; clear hev hev0 hd; go_wp2; exact sQ rfl
     ·intro xx af wv hbx hev hev0 hd; have e74 := (hev 2 _ 74 rfl rfl).trans (hd ⟨2, .data⟩ (by simp) rfl); clear hev hev0 hd; have hs1 := Lib.hid (HS.out.call hbx); have y0 := hs1.out.cell 0 rfl 3 rfl; go_wp2; exact sQ rfl
     ·intro xx af wv hbx hev hev0 hd; have e75 := (hev 3 _ 75 rfl rfl).trans (hd ⟨3, .data⟩ (by simp) rfl); clear hev hev0 hd; go_wp2; exact sQ rfl
     ·intro xx af wv hbx hev hev0 hd; have e76 := (hev 4 _ 76 rfl rfl).trans (hd ⟨4, .data⟩ (by simp) rfl); clear hev hev0 hd; have hs1 := Lib.hid (HS.out.call hbx); have yx0 := hs1.out.cell 1 rfl (0) (rowX_cell (j := 0) (HP0.out) (i := 0) rfl); have yx1 := hs1.out.cell 1 rfl (1) (rowX_cell (j := 0) (HP0.out) (i := 1) rfl); have yx2 := hs1.out.cell 1 rfl (2) (rowX_cell (j := 0) (HP0.out) (i := 2) rfl); have yx3 := hs1.out.cell 1 rfl (3) (rowX_cell (j := 0) (HP0.out) (i := 3) rfl); have yx4 := hs1.out.cell 1 rfl (4) (rowX_cell (j := 0) (HP0.out) (i := 4) rfl); have yx5 := hs1.out.cell 1 rfl (5) (rowX_cell (j := 0) (HP0.out) (i := 5) rfl); have yx6 := hs1.out.cell 1 rfl (6) (rowX_cell (j := 0) (HP0.out) (i := 6) rfl); have yx7 := hs1.out.cell 1 rfl (7) (rowX_cell (j := 0) (HP0.out) (i := 7) rfl); have yx8 := hs1.out.cell 1 rfl (8) (rowX_cell (j := 0) (HP0.out) (i := 8) rfl); have yx9 := hs1.out.cell 1 rfl (9) (rowX_cell (j := 0) (HP0.out) (i := 9) rfl); have yx10 := hs1.out.cell 1 rfl (10) (rowX_cell (j := 0) (HP0.out) (i := 10) rfl); go_wp2; exact sQ rfl
     ·intro xx af wv hbx hev hev0 hd; have e77 := (hev 5 _ 77 rfl rfl).trans (hd ⟨5, .data⟩ (by simp) rfl); clear hev hev0 hd; go_wp2; exact StepQ.mk _ (Ext.alloc (Below.refl _ _) _) ⟨_, rfl, hbx.size, Blk.new _ _ _⟩
     intro xx w7 hb9 hv
     obtain ⟨g7, hv6, hlg6, hB6⟩ := hv 6 (by decide)
     simp only [List.take, List.drop, fillA, Act.put]
     simp only [show xx 0 = _ from hv 0 (by decide), show xx 1 = _ from hv 1 (by decide), show xx 2 = _ from hv 2 (by decide), show xx 3 = _ from hv 3 (by decide), show xx 4 = _ from hv 4 (by decide), show xx 5 = _ from hv 5 (by decide), hv6]
     clear hv hv6
     have HS7 := Lib.hid (HS.out.fill hb9 hlg6 hB6)
     clear hlg6 hB6
     clear hb9 HS
     have HS8 := Lib.hid HS7.out
     have hblk := HS8.out.blk 0 rfl
     have HSU := Lib.hid (HS8.out.sub (R' := [⟨w3.heap.size, #[.bool (negB (q)), .string (bs (numB (q))), .string (bs (denomB (q))), .slice (some ⟨g1, 0, none⟩) (l.length + k) cap1], 28⟩, ⟨g1, (rowX (padB l u0 k) rest1), 59⟩, ⟨w.heap.size, #[.bool false, .string (bs []), .string (bs []), .slice none 0 0], 28⟩]) (by simp))
     have hgr := rowX_grows (base := w.heap.size) (HSU.out.blk 1 rfl) (HSU.out.ge 1 rfl) (by rw [padB_len]; exact hkc) hc1 (by rw [padB_len]; exact hr1)
     rw [padB_len] at hgr
     have hsz := HSU.out.below.size
     go_wp2_with (at_builtin; refine wpList_push_by _ rfl _ _ 26 rfl w.heap.size 59 i0 _ 11 136 Tryz.underlying26 HI.out hz0 hz1 hz2 rfl (by decide) blc_len (.slice (some ⟨g1, 0, none⟩) (l.length + k) cap1) (l.length + k) (padB l u0 k) (by simp [Act.eval]) hgr u0 g7 _ hblk ?c1 (by simp [Act.eval]) (blc_cells _) (by unfold maxLen; omega) (by omega) hsz ?_)
     case c1 => rfl
     intro v2 w2 hown2 hgb2
     rw [HPS.out] at hown2
     obtain ⟨g2, cap2, rest2, hv2, hg2, hkc2, hc2, hr2, hB2⟩ := Grows.toX hown2 (by omega)
     subst hv2
     have HS9 := Lib.hid (HSU.out.pushX (show (28 : TypeId) ≠ 59 by decide) (by simp) hgb2 hB2 hg2)
     clear hown2 hblk hgr hgb2 HSU HS8 HS7 hB2
     have x2 := HS9.out.cell 0 rfl 3 rfl
     have x3 := HS9.out.frozen 0 rfl 3
     have x4 := HS9.out.ne 0 1 rfl rfl (by decide)
     have x5 := HS9.out.ne 1 0 rfl rfl (by decide)
     have x6 := HS9.out.ne 0 2 rfl rfl (by decide)
     have x7 := HS9.out.ne 2 0 rfl rfl (by decide)
     go_wp2
     have HS9 : Hid (St w [⟨w3.heap.size, #[.bool (negB (q)), .string (bs (numB (q))), .string (bs (denomB (q))), .slice (some ⟨g2, 0, none⟩) (l.length + k + 1) cap2], 28⟩, ⟨g2, (rowX (padB l u0 (k + 1)) rest2), 59⟩, ⟨w.heap.size, #[.bool false, .string (bs []), .string (bs []), .slice none 0 0], 28⟩] _) := Lib.hid (St.set (HS9.out) 0 rfl 3 _)
     go_roundw
     case rel => exact ⟨k + 1, g2, cap2, rest2, by omega, hkc2, hc2, hr2, HS9.out⟩
     case measure => rw [HCL.out, HS9.out.cell 0 rfl 3 rfl]; show 17 - (l.length + k + 1) < 17 - (l.length + k); omega
    ·have hd : decide (((l.length + k : Nat) : Int) < 17) = false := decide_eq_false (by omega)
     have x1 := HS.out.cell 0 rfl 3 rfl
     obtain ⟨x2, x3, x4⟩ := HS.out.k0 0 rfl rfl rfl rfl
     obtain ⟨x5, x6, x7⟩ := HS.out.k0 2 rfl rfl rfl rfl
     have x8 := HS.out.cell 2 rfl 3 rfl
     obtain ⟨x9, x10, x11⟩ := HS.out.f0 2 rfl
     have x12 := HS.out.frozen 2 rfl 3
     have x13 := HS.out.ne 2 0 rfl rfl (by decide)
     have x14 := HS.out.ne 0 2 rfl rfl (by decide)
     have x15 := HS.out.ne 2 1 rfl rfl (by decide)
     have x16 := HS.out.ne 1 2 rfl rfl (by decide)
     go_wp2
     have HS7 : Hid (St w [⟨w3.heap.size, #[.bool (negB (q)), .string (bs (numB (q))), .string (bs (denomB (q))), .slice (some ⟨g1, 0, none⟩) (l.length + k) cap1], 28⟩, ⟨g1, (rowX (padB l u0 k) rest1), 59⟩, ⟨w.heap.size, #[.bool (negB (q)), .string (bs (numB (q))), .string (bs (denomB (q))), .slice (some ⟨g1, 0, none⟩) (l.length + k) cap1], 28⟩] _) := Lib.hid (St.set ((St.set ((St.set ((St.set (HS.out) 2 rfl 0 _)) 2 rfl 1 _)) 2 rfl 2 _)) 2 rfl 3 _)
     refine bodyPost_ret (ven_result rfl _ _ _ rfl (HS7.out.blk 2 rfl)) rfl ?_
     exact ⟨_, _, _, _, padB l u0 k, rfl, rowX_slc (HS7.out.blk 1 rfl) (padB_len _ _ _) hkc (by unfold maxLen at hc1; omega), padB_small HSM.out HU0.out _, by rw [padB_len]; omega, HQ8.out.num, HQ8.out.denom, HS7.out.below⟩
  have n0 : ((b % 12) == (0 : Int)) = false := by rw [beq_eq_false_iff_ne]; omega
  have n1 : ((b % 12) == (1 : Int)) = false := by rw [beq_eq_false_iff_ne]; omega
  have n2 : ((b % 12) == (2 : Int)) = false := by rw [beq_eq_false_iff_ne]; omega
  have n3 : ((b % 12) == (3 : Int)) = false := by rw [beq_eq_false_iff_ne]; omega
  have n4 : ((b % 12) == (4 : Int)) = false := by rw [beq_eq_false_iff_ne]; omega
  have n5 : ((b % 12) == (5 : Int)) = false := by rw [beq_eq_false_iff_ne]; omega
  have n6 : ((b % 12) == (6 : Int)) = false := by rw [beq_eq_false_iff_ne]; omega
  have n7 : ((b % 12) == (7 : Int)) = false := by rw [beq_eq_false_iff_ne]; omega
  obtain ⟨x1, x2, x3⟩ := HSX6.out.k0 0 rfl rfl rfl rfl
  have x4 := HSX6.out.cell 0 rfl 3 rfl
  obtain ⟨x5, x6, x7⟩ := HSX6.out.k0 2 rfl rfl rfl rfl
  have x8 := HSX6.out.cell 2 rfl 3 rfl
  obtain ⟨x9, x10, x11⟩ := HSX6.out.f0 2 rfl
  have x12 := HSX6.out.frozen 2 rfl 3
  have x13 := HSX6.out.ne 2 0 rfl rfl (by decide)
  have x14 := HSX6.out.ne 0 2 rfl rfl (by decide)
  have x15 := HSX6.out.ne 2 1 rfl rfl (by decide)
  have x16 := HSX6.out.ne 1 2 rfl rfl (by decide)
  go_wp2
  have HSX7 : Hid (St w [⟨w3.heap.size, #[.bool (negB (q)), .string (bs (numB (q))), .string (bs (denomB (q))), .slice (some ⟨g, 0, none⟩) l.length cap], 28⟩, ⟨g, (rowX (l) rest), 59⟩, ⟨w.heap.size, #[.bool (negB (q)), .string (bs (numB (q))), .string (bs (denomB (q))), .slice (some ⟨g, 0, none⟩) l.length cap], 28⟩] _) := Lib.hid (St.set ((St.set ((St.set ((St.set (HSX6.out) 2 rfl 0 _)) 2 rfl 1 _)) 2 rfl 2 _)) 2 rfl 3 _)
  refine bodyPost_ret (ven_result rfl _ _ _ rfl (HSX7.out.blk 2 rfl)) rfl ?_
  exact ⟨_, _, _, _, l, rfl, rowX_slc (HSX7.out.blk 1 rfl) rfl (by omega) (by unfold maxLen at hcm; omega), HSM.out, by omega, HQ8.out.num, HQ8.out.denom, HSX7.out.below⟩
end Go.Proofs.YtcllocdhbicpkaaGreatDoor
