/-
Part 3 of the base.
-/
import Derived.Test.YtgdhpghfojccaaaDoorProg
import Derived.Test.YtgdhpghfojccaaaDoorRe1
import Derived.WalkKit
import Derived.WalkSpells
import Derived.WalkLawsBesides
import Derived.Lib.Hide
import Derived.Deep.QuietTactic
import Derived.BigQuiet
import Derived.Test.YtgdhpghfojccaaaDoorRe2
import Derived.Deep.OwnRows
import Derived.Laws.BytesArg
import Derived.Deep.DeepCutAuto
import Derived.Deep.CutBlock
set_option maxRecDepth 100000
set_option maxHeartbeats 4000000
namespace Go.Proofs.YtgdhpghfojccaaaDoor
open Go.RowKit
def Limbs (w : World) (v : Value) (xs : List Nat) : Prop :=
 Small xs /\ ∃ A c, v = .slice A xs.length c /\ xs.length <= c /\ c <= 9223372036854775807 /\
  (0 < xs.length -> ∃ b o, A = some ⟨b, o, none⟩ /\ b < w.heap.size /\ ∀ j, j < xs.length -> w.cell? ⟨b, o + j, none⟩ = some (.int .u32 (xs.getD j 0 : Nat)))
theorem b3u {xs : List Nat} {k j : Nat} (h : j < k) : (xs.take k).getD j 0 = xs.getD j 0 := by
 rw [List.getD_eq_getElem?_getD, List.getD_eq_getElem?_getD, List.getElem?_take, if_pos h]
theorem Limbs.take {w : World} {A : Option Addr} {c : Nat} {xs : List Nat} (h : Limbs w (.slice A xs.length c) xs) {k : Nat} (hk : k <= xs.length) : Limbs w (.slice A k c) (xs.take k) := by
 obtain ⟨hs, A', c', e, hl, hc, hx⟩ := h
 injection e with e1 e2 e3
 subst e1; subst e3
 have hlen : (xs.take k).length = k := by rw [List.length_take]; omega
 refine ⟨hs.take k, A, c, by rw [hlen], by omega, hc, fun h0 => ?_⟩
 obtain ⟨b, o, e, hb, hcell⟩ := hx (by omega)
 exact ⟨b, o, e, hb, fun j hj => by rw [hcell j (by omega), b3u (by omega)]⟩
theorem Limbs.below {w w' : World} {v : Value} {xs : List Nat} (h : Limbs w v xs) (hb : Below w.heap.size w w') : Limbs w' v xs := by
 obtain ⟨hs, A, c, rfl, hl, hc, hx⟩ := h
 refine ⟨hs, A, c, rfl, hl, hc, fun h0 => ?_⟩
 obtain ⟨b, o, e, hbb, hcell⟩ := hx h0
 exact ⟨b, o, e, Nat.lt_of_lt_of_le hbb hb.size, fun j hj => by rw [hb.cell (p := ⟨b, o + j, none⟩) hbb]; exact hcell j hj⟩
theorem Limbs.nil_ (w : World) (A : Option Addr) (c : Nat) (hc : c <= 9223372036854775807) : Limbs w (.slice A 0 c) [] :=
 ⟨a8d, A, c, rfl, Nat.zero_le _, hc, fun h => absurd h (by simp)⟩
theorem Limbs.slice {w : World} {v : Value} {xs : List Nat} (h : Limbs w v xs) : ∃ A c, v = .slice A xs.length c /\ xs.length <= c /\ c <= 9223372036854775807 := by
 obtain ⟨_, A, c, e, h1, h2, _⟩ := h
 exact ⟨A, c, e, h1, h2⟩
theorem Limbs.at_ {w : World} {A : Option Addr} {c n : Nat} {xs : List Nat} (h : Limbs w (.slice A n c) xs) {j : Nat} (hj : j < xs.length) :
  ∃ b o x, A = some ⟨b, o, none⟩ /\ b < w.heap.size /\ x = xs.getD j 0 /\ x < 4294967296 /\ ∀ w', Below w.heap.size w w' -> w'.cell? ⟨b, o + j, none⟩ = some (.int .u32 (x : Nat)) := by
 obtain ⟨hs, A', c', e, hl, hc, hx⟩ := h
 injection e with e1 e2 e3
 subst e1
 obtain ⟨b, o, e, hb, hcell⟩ := hx (by omega)
 exact ⟨b, o, _, e, hb, rfl, hs.get _, fun w' hw => (hw.cell (p := ⟨b, o + j, none⟩) hb).trans (hcell j hj)⟩
theorem Limbs.cellAt {w : World} {b o c n : Nat} {xs : List Nat} (h : Limbs w (.slice (some ⟨b, o, none⟩) n c) xs) {j : Nat} (hj : j < xs.length) (hb : b < w.heap.size) (w' : World) (hw : Below w.heap.size w w') :
  w'.cell? ⟨b, o + j, none⟩ = some (.int .u32 (xs.getD j 0 : Nat)) := by
 obtain ⟨_, A', c', e, _, _, hx⟩ := h
 injection e with e1 e2 e3
 subst e1
 obtain ⟨b', o', e, _, hcell⟩ := hx (by omega)
 injection e with e
 injection e with e1 e2
 subst e1; subst e2
 exact (hw.cell (p := ⟨b, o + j, none⟩) hb).trans (hcell j hj)
theorem Limbs.small {w : World} {v : Value} {xs : List Nat} (h : Limbs w v xs) : Small xs := h.1
theorem Ext.trans {a b c : World} (h : Below a.heap.size a b) (k : Below b.heap.size b c) : Below a.heap.size a c :=
 h.trans (k.mono h.size)
def Row (w : World) (g : Nat) (xs : List Nat) : Prop := w.heap[g]? = some (.cells ((xs.map fun x => Value.int .u32 (x : Nat)).toArray) 99 (0, 0))
section
variable {w w' : World} {g : Nat} {xs : List Nat}
theorem Row.lt (h : Row w g xs) : g < w.heap.size := by
 rcases Nat.lt_or_ge g w.heap.size with hlt | hge
 ·exact hlt
 unfold Row at h; rw [Array.getElem?_eq_none hge] at h; cases h
theorem Row.cell (h : Row w g xs) {i : Nat} (hi : i < xs.length) : w.cell? ⟨g, i, none⟩ = some (.int .u32 (xs.getD i 0 : Nat)) := by
 rw [cell_of_row w g i _ _ _ h]
 simp [List.getD_eq_getElem?_getD, hi]
theorem Row.frozen (h : Row w g xs) (i : Nat) : w.frozen? ⟨g, i, none⟩ = false := by
 unfold Row at h
 simp [World.frozen?, h]
theorem Row.set_ (h : Row w g xs) (i x : Nat) : Row (w.setCell ⟨g, i, none⟩ (.int .u32 (x : Nat))) g (xs.set i x) := by
 unfold Row at h ⊢
 simp [World.setCell, Array.getElem?_modify, h, List.map_set]
theorem Row.below {B : Nat} (h : Row w g xs) (hb : Below B w w') (hg : g < B) : Row w' g xs := (hb.block g hg).trans h
theorem Row.drew (h : Row w g xs) : Row w.drew g xs := h
theorem Row.alloc (h : Row w g xs) (o : Obj) : Row (w.alloc o) g xs := (Below.heap_alloc w o g h.lt).trans h
theorem Row.far (h : Row w g xs) {p : Addr} (hp : g ≠ p.block) (u : Value) : Row (w.setCell p u) g xs := (Below.heap_setCell w p u g hp).trans h
theorem Row.made (w : World) (n : Nat) : Row (w.alloc (.cells (madeCells #[.int .u32 0] n) 99)) w.heap.size (List.replicate n 0) := by
 unfold Row
 rw [heap_alloc_new]
 congr 2
 apply Array.ext
 ·simp [madeCells]
 intro i h1 h2
 simp [madeCells, Nat.mod_one]
theorem Row.limbs (h : Row w g xs) (hs : Small xs) (c : Nat) (hl : xs.length <= c) (hc : c <= 9223372036854775807) : Limbs w (.slice (some ⟨g, 0, none⟩) xs.length c) xs :=
 ⟨hs, _, c, rfl, hl, hc, fun _ => ⟨g, 0, rfl, h.lt, fun j hj => by rw [Nat.zero_add]; exact h.cell hj⟩⟩
end
def bs (l : List UInt8) : ByteArray := ⟨l.toArray⟩
theorem b2h (l : List UInt8) : (bs l).data.toList = l := rfl
theorem b9z (l : List UInt8) : (bs l).size = l.length := by simp [bs, ByteArray.size]
theorem bs_of (s : ByteArray) : bs s.data.toList = s := rfl
def BRow (w : World) (g : Nat) (l : List UInt8) : Prop := w.heap[g]? = some (.cells ((l.map fun x => Value.int .u8 (x.toNat : Nat)).toArray) 5 (0, 0))
section
variable {w w' : World} {g : Nat} {l : List UInt8}
theorem BRow.lt (h : BRow w g l) : g < w.heap.size := by
 rcases Nat.lt_or_ge g w.heap.size with hlt | hge
 ·exact hlt
 unfold BRow at h; rw [Array.getElem?_eq_none hge] at h; cases h
theorem BRow.cell (h : BRow w g l) {i : Nat} (hi : i < l.length) : w.cell? ⟨g, i, none⟩ = some (.int .u8 ((l.getD i 0).toNat : Nat)) := by
 rw [cell_of_row w g i _ _ _ h]
 simp [List.getD_eq_getElem?_getD, hi]
theorem BRow.frozen (h : BRow w g l) (i : Nat) : w.frozen? ⟨g, i, none⟩ = false := by
 unfold BRow at h
 simp [World.frozen?, h]
theorem BRow.set_ (h : BRow w g l) (i : Nat) (x : UInt8) : BRow (w.setCell ⟨g, i, none⟩ (.int .u8 (x.toNat : Nat))) g (l.set i x) := by
 unfold BRow at h ⊢
 simp [World.setCell, Array.getElem?_modify, h, List.map_set]
theorem BRow.made (w : World) (n : Nat) : BRow (w.alloc (.cells (madeCells #[.int .u8 0] n) 5)) w.heap.size (List.replicate n 0) := by
 unfold BRow
 rw [heap_alloc_new]
 congr 2
 apply Array.ext
 ·simp [madeCells]
 intro i h1 h2
 simp [madeCells, Nat.mod_one]
end
theorem a0n {B : Nat} {a w : World} (h : Below B a w) (n : Nat) : Below B a (w.drewN n) := ⟨h.os, h.tape, h.output, h.size, h.block⟩
theorem Row.limbsN {w : World} {g n : Nat} {xs : List Nat} (h : Row w g xs) (hs : Small xs) (hn : xs.length = n) (hc : n <= 9223372036854775807) : Limbs w (.slice (some ⟨g, 0, none⟩) n n) xs := by
 subst hn; exact h.limbs hs _ (Nat.le_refl _) hc
theorem b7j (w : World) (r : Option Nat) : w.grownBy w r := World.grownBy.refl w r
theorem b4t {a w : World} {r : Option Nat} (h : a.grownBy w r) (n : Nat) : a.grownBy (w.drewN n) r := ⟨h.os, h.tape, h.output, h.size, h.block⟩
theorem a2p {a w : World} {g : Nat} (h : a.grownBy w (some g)) (i : Nat) (u : Value) : a.grownBy (w.setCell ⟨g, i, none⟩ u) (some g) :=
 ⟨h.os, h.tape, h.output, by simpa [World.setCell] using h.size, fun k hk hne => (Below.heap_setCell w _ u k (by rintro rfl; exact hne rfl)).trans (h.block k hk hne)⟩
theorem a8w {a b c : World} {r : Option Nat} (h : a.grownBy b r) (k : b.grownBy c r) : a.grownBy c r :=
 ⟨k.os.trans h.os, k.tape.trans h.tape, k.output.trans h.output, Nat.le_trans h.size k.size, fun i hi hne => (k.block i (Nat.lt_of_lt_of_le hi h.size) hne).trans (h.block i hi hne)⟩
theorem b1c {a w : World} {r : Option Nat} (h : a.grownBy w r) {b o : Nat} (hb : b < a.heap.size) (hne : some b ≠ r) : w.cell? ⟨b, o, none⟩ = a.cell? ⟨b, o, none⟩ :=
 World.cell?_of_block (h.block b hb hne)
theorem a0p {xs : List Nat} (h : Small xs) (i : Nat) {x : Nat} (hx : x < 4294967296) : Small (xs.set i x) := fun y hy => by
 rcases List.mem_or_eq_of_mem_set hy with h1 | h1
 ·exact h y h1
 subst h1; exact hx
theorem a1v (n : Nat) : Small (List.replicate n 0) := fun x hx => by
 rw [List.eq_of_mem_replicate hx]; decide
theorem info_u32 : (Tryd.prog.info? 99).map (fun i => (i.zero, i.size, i.bytes)) = some (some (.int .u32 0), 1, 4) := by kernel_rfl
theorem info_u8 : (Tryd.prog.info? 5).map (fun i => (i.zero, i.size, i.bytes)) = some (some (.int .u8 0), 1, 1) := by kernel_rfl
theorem b1y {xs : List Nat} {i : Nat} (h : xs.length <= i) : xs.getD i 0 = 0 := by
 simp [List.getD_eq_getElem?_getD, List.getElem?_eq_none h]
theorem a1w (v : Value) (xs : List Nat) (w : World) (h : Limbs w v xs) :
  Calls Tryd.prog 71 #[v] w fun e w' => (∃ v', e = .returned v' /\ Limbs w v' (limbsOf (lv xs))) /\ w = w' := by
 have H := zh h
 obtain ⟨hs, A, c, rfl, hl, hc, hx⟩ := h
 go_enter Tryd.func71, Tryd.ntmps71
 go_wp2
 go_loop [3] (fun i => ∃ k : Nat, k <= xs.length /\ i = .int .i64 k /\ Hid (∀ i, k <= i -> xs.getD i 0 = 0)) (fun i => (intOf i).toNat)
 case atStart => exact ⟨xs.length, Nat.le_refl _, rfl, fun i hi => b1y hi⟩
 case round =>
  obtain ⟨k, hk, rfl, hz⟩ := hrel
  rcases Nat.eq_zero_or_pos k with rfl | hp
  ·go_wp2
   go_ret
   exact ⟨⟨_, rfl, by rw [<- b2q xs 0 hs (Nat.zero_le _) hz.out (.inl rfl)]; exact H.out.take (Nat.zero_le _)⟩, rfl⟩
  obtain ⟨b, o, rfl, hb, hcell⟩ := hx (by omega)
  have hck := hcell (k - 1) (by omega)
  obtain ⟨x, hxk⟩ : ∃ x, x = xs.getD (k - 1) 0 := ⟨_, rfl⟩
  rw [<- hxk] at hck
  have HX := zh hxk
  clear hxk hcell hx
  go_wp2
  ·have h0 : ((x : Int) == 0) = true := by assumption
   go_round
   case rel =>
    refine ⟨k - 1, by omega, by congr 1; omega, fun i hi => ?_⟩
    by_cases e : i = k - 1
    ·subst e; rw [<- HX.out]; simpa using h0
    exact hz.out i (by omega)
   case measure => simp [intOf]; omega
  have h0 : ((x : Int) == 0) = false := by assumption
  go_ret
  exact ⟨⟨_, rfl, by rw [<- b2q xs k hs hk hz.out (.inr (by rw [<- HX.out]; simpa using h0))]; exact H.out.take hk⟩, rfl⟩
theorem a2f (T : TypeId) (hT : Tryd.prog.underlying T = some (.slice 99)) (x : Int) (n : Nat) (hx : x = n) (hn : n <= 4398046511104) (W : World) :
  (Instr.makeSlice T (.int .i64 x) (.int .i64 x)).run Tryd.prog W = .ok (.slice (some ⟨W.heap.size, 0, none⟩) n n) (W.alloc (.cells (madeCells #[.int .u32 0] n) 99)) := by
 subst hx
 exact run_make_row' (P := Tryd.prog) T 99 (.int .u32 0) 4 hT info_u32 rfl .i64 .i64 n (by omega) (by omega) W
theorem a8c (T : TypeId) (hT : Tryd.prog.underlying T = some .string) (s : ByteArray) (x : Int) (j : Nat) (hx : x = j) (hj : j < s.size) :
  ∃ b : Nat, b = (s.data.toList.getD j 0).toNat /\ ∀ W, (Instr.index T (.string s) (.int .i64 x)).run Tryd.prog W = .ok (.int .u8 (b : Int)) W := by
 refine ⟨_, rfl, fun W => ?_⟩
 subst hx
 have e : s[j] = s.data[j] := rfl
 rw [run_index_string W T s .i64 j hT, dif_pos ⟨by omega, by omega⟩]
 simp [hj, e]
theorem a2k (s : ByteArray) : s.data.toList.length = s.size := by simp
theorem a0m (s : ByteArray) (w : World) (hsz : s.size <= 1099511627776) :
  Calls Tryd.prog 57 #[.string s] w fun e w' => ∃ v', e = .returned v' /\ Limbs w' v' (limbsOf (bv s.data.toList)) /\ Below w.heap.size w w' := by
 have hmk := a2f 103 Tryd.underlying103 (((s.size : Int) + 4 - 1) / 4) ((s.size + 3) / 4) (by omega) (by omega)
 obtain ⟨k, hk⟩ : ∃ k, k = (s.size + 3) / 4 := ⟨_, rfl⟩
 rw [<- hk] at hmk
 have hk1 : 4 * k <= s.size + 3 := by omega
 have hk2 : s.size <= 4 * k := by omega
 clear hk
 go_enter Tryd.func57, Tryd.ntmps57
 go_wp2
 go_loopw [13] (fun i wr => ∃ (i' : Nat) (xs : List Nat), i' <= s.size /\ i = .int .i64 i' /\ xs.length = k /\ Row wr w.heap.size xs /\ Small xs /\ Hid (lv xs = bv (s.data.toList.drop (s.size - i'))) /\ Below w.heap.size w wr) (fun i _ => s.size - (intOf i).toNat)
 case atStart =>
  refine ⟨0, List.replicate k 0, Nat.zero_le _, rfl, by simp, Row.made _ _, a1v _, ?_, (Below.refl _ _).alloc (Nat.le_refl _) _⟩
  show lv _ = bv _
  rw [a6k, List.drop_of_length_le (by simp)]; rfl
 case round =>
  obtain ⟨i, xs, hi, rfl, hlen, hrow, hs, hv, hb⟩ := hrel
  by_cases hlt : i < s.size
  ·obtain ⟨b, hbs, hidx⟩ := a8c 9 Tryd.underlying9 s ((s.size : Int) - 1 - i) (s.size - 1 - i) (by omega) (by omega)
   have hcell := hrow.cell (i := i / 4) (by omega)
   have hfr := hrow.frozen (i / 4)
   obtain ⟨x, hx⟩ : ∃ x, x = xs.getD (i / 4) 0 := ⟨_, rfl⟩
   rw [<- hx] at hcell
   have hm0 : (0 : Int) <= 8 * ((i : Int) % 4) := by omega
   have hxs : x < 4294967296 := by rw [hx]; exact hs.get _
   obtain ⟨hy, hor, hlv⟩ := b6w (b := b) (by rw [hv.out]; have := b7n s.data.toList i (by rw [a2k]; omega); rwa [a2k] at this) hx (by omega) (by rw [hbs]; exact UInt8.toNat_lt _)
   obtain ⟨y, hyy⟩ : ∃ y, y = x + b * 2 ^ (8 * (i % 4)) := ⟨_, rfl⟩
   rw [<- hyy] at hy hor hlv
   have hbit : bits .or .u32 (x : Int) ((b : Int) % 4294967296 * 2 ^ (8 * (i % 4)) % 4294967296) = (y : Int) := by
    rw [<- hor, <- u32_or_nat x _ hxs (Nat.mod_lt _ (by decide))]
    simp only [Int.natCast_emod, Int.natCast_mul, Int.natCast_pow]; rfl
   have hbv := a7k s.data.toList i (by rw [a2k]; omega)
   rw [a2k, <- hbs] at hbv
   have H : Hid (lv (xs.set (i / 4) y) = bv (s.data.toList.drop (s.size - (i + 1)))) := by
    show _ = _
    rw [hlv, hbv, hv.out]
   have hrow' := hrow.set_ (i / 4) y
   have hs' := a0p hs (i / 4) hy
   clear hbs hor hlv hyy hbv hx hs hv
   go_wp2
   refine a5q 18 (by kernel_rfl) (by kernel_rfl) ?_
   simp only [List.take_succ_cons, List.take_zero, List.drop_succ_cons, List.drop_zero]
   repeat (go_big_quiet_step (fail))
   refine wpQuiet_nil ?_
   intro nq
   go_wp2
   go_roundw
   case rel => exact ⟨i + 1, _, by omega, by go_num, by rw [List.length_set]; exact hlen, hrow', hs', H, (a0n hb nq).setCell (Nat.le_refl _) _⟩
   case measure => simp [intOf]; omega
  have hi' : i = s.size := by omega
  subst hi'
  go_wp2_with fail
  subst hlen
  refine (a1w _ xs _ (hrow.limbs hs _ (Nat.le_refl _) (by omega))).mono ?_
  rintro e w' ⟨⟨v', rfl, hv'⟩, rfl⟩
  go_wp2
  go_ret
  rw [hv.out, Nat.sub_self, List.drop_zero] at hv'
  exact ⟨_, rfl, hv', hb⟩
theorem b1j (r : ByteArray) (h : 0 < r.size) : r.data.toList = r[0] :: (r.extract 1 r.size).data.toList := by
 have e : (r.extract 1 r.size).data.toList = r.data.toList.drop 1 := by
  rw [ByteArray.data_extract, Array.toList_extract, List.extract_eq_take_drop]
  rw [List.take_of_length_le (by simp)]
 rw [e]
 have hl : 0 < r.data.toList.length := by simpa using h
 have h2 := List.drop_eq_getElem_cons hl
 rw [List.drop_zero] at h2
 exact h2
theorem str_nil (r : ByteArray) (h : ¬ 0 < r.size) : r.data.toList = [] := by
 have e : r.data.toList.length = r.size := by simp
 exact List.length_eq_zero_iff.1 (by omega)
def strLen : Value -> Nat | .string r => r.size | _ => 0
theorem b2r (s : ByteArray) (w : World) (_hsz : s.size <= 9223372036854775807) :
  Calls Tryd.prog 74 #[.string s, .int .u8 0] w fun e w' => e = .returned (.string (bs (norm s.data.toList))) /\ w = w' := by
 go_enter Tryd.func74, Tryd.ntmps74
 go_wp2
 go_loop [0] (fun t => ∃ r : ByteArray, r.size <= s.size /\ t = .string r /\ Hid (norm r.data.toList = norm s.data.toList)) (fun t => strLen t)
 case atStart => exact ⟨s, Nat.le_refl _, rfl, rfl⟩
 case round =>
  obtain ⟨r, hr, rfl, hn⟩ := hrel
  go_wp2
  ·have h0 : 0 < r.size := by assumption
   have h1 : ((r[0].toNat : Int) == 0) = true := by assumption
   go_round
   case rel =>
    refine ⟨_, by simp; omega, rfl, ?_⟩
    show _ = _
    have h2 : r[0] = 0 := UInt8.toNat_inj.1 (by simpa using h1)
    rw [<- hn.out, b1j r h0, a8r, if_pos h2]
   case measure => simp [strLen]; omega
  ·have h0 : 0 < r.size := by assumption
   have h1 : ((r[0].toNat : Int) == 0) = false := by assumption
   go_ret
   have h2 : ¬ r[0] = 0 := fun e => by rw [e] at h1; simp at h1
   rw [<- hn.out, b1j r h0, a8r, if_neg h2, <- b1j r h0, bs_of]
   exact ⟨rfl, rfl⟩
  have h0 : ¬ 0 < r.size := by assumption
  go_ret
  have h1 := str_nil r h0
  rw [<- hn.out, h1, b1r, <- h1, bs_of]
  exact ⟨rfl, rfl⟩
theorem trimLeft (s : ByteArray) (w : World) (hsz : s.size <= 9223372036854775807) :
   Calls Tryd.prog 63 #[.string s, .string ⟨#[0]⟩] w fun e w' => e = .returned (.string (bs (norm s.data.toList))) /\ w = w' := by
 by_cases h : s.toList = []
 have h2 : s.data.toList = [] := by rw [<- ByteArray.toList_eq]; exact h
 have H : Hid (bs (norm s.data.toList) = s) := by
   show _ = _
   rw [h2, b1r, <- h2]; rfl
 have h3 : s.toList.isEmpty = true := by rw [h]; rfl
 clear h2
 rotate_left
 have h3 : s.toList.isEmpty = false := by simpa using h
 rotate_left
 all_goals
   go_enter Tryd.func63, Tryd.ntmps63
 ·go_wp2_with fail
  go_ret
  rw [H.out]
  exact ⟨rfl, rfl⟩
 go_wp2_with (go_at_call 74; refine (b2r _ _ (by omega)).mono ?_; rintro e w' ⟨rfl, rfl⟩)
 go_ret
 exact ⟨rfl, rfl⟩
theorem a3w (s : ByteArray) (w : World) (hsz : s.size <= 9223372036854775807) :
  Calls Tryd.prog 44 #[.string s] w fun e w' => e = .returned (.string (bs (norm s.data.toList))) /\ w = w' := by
 go_enter Tryd.func44, Tryd.ntmps44
 go_wp2_with (go_at_call 63; refine (trimLeft _ _ (by omega)).mono ?_; rintro e w' ⟨rfl, rfl⟩)
 go_ret
 exact ⟨rfl, rfl⟩
def sgn (n : Int) : Int := if n < 0 then -1 else if 0 < n then 1 else 0
theorem a5v {n : Int} (h : n < 0) : sgn n = -1 := by unfold sgn; rw [if_pos h]
theorem a5u {n : Int} (h : 0 < n) : sgn n = 1 := by unfold sgn; rw [if_neg (by omega), if_pos h]
theorem b1m : sgn 0 = 0 := rfl
theorem b3h (n : Int) (w : World) :
  Calls Tryd.prog 72 #[.int .i64 n] w fun e w' => e = .returned (.int .i64 (sgn n)) /\ w = w' := by
 go_enter Tryd.func72, Tryd.ntmps72
 go_wp2
 ·go_ret
  rw [a5v (by assumption)]
  exact ⟨rfl, rfl⟩
 ·go_ret
  rw [a5u (by assumption)]
  exact ⟨rfl, rfl⟩
 go_ret
 obtain rfl : n = 0 := by omega
 exact ⟨rfl, rfl⟩
theorem a2e (v : Value) (xs : List Nat) (w : World) (h : Limbs w v xs) (hsz : xs.length <= 274877906944) :
  Calls Tryd.prog 58 #[v] w fun e w' => e = .returned (.string (bs (bytesOf (lv xs)))) /\ Below w.heap.size w w' := by
 obtain ⟨hs, A, c, rfl, hl, hc, hx⟩ := h
 have hmk := fun W => run_make_row' (P := Tryd.prog) 23 5 (.int .u8 0) 1 Tryd.underlying23 info_u8 rfl .i64 .i64 (xs.length * 4) (by omega) (by omega) W
 rw [show ((xs.length * 4 : Nat) : Int) = (xs.length : Int) * 4 by omega] at hmk
 obtain ⟨m, hm⟩ : ∃ m, m = xs.length * 4 := ⟨_, rfl⟩
 rw [<- hm] at hmk
 have hm1 : (m : Int) = xs.length * 4 := by omega
 have HM := zh hm1
 have hm2 : (m : Int) <= xs.length * 4 := by omega
 have hm3 : (xs.length : Int) * 4 <= m := by omega
 clear hm hm1
 go_enter Tryd.func58, Tryd.ntmps58
 go_wp2
 go_loopw [11] (fun i wr => ∃ (i' : Nat) (l : List UInt8), i' <= m /\ i = .int .i64 i' /\ Hid (l.length = m) /\ BRow wr w.heap.size l /\ Hid (bv (l.drop (m - i')) = lv xs % 256 ^ i') /\ Below w.heap.size w wr) (fun i _ => m - (intOf i).toNat)
 case atStart =>
  refine ⟨0, List.replicate m 0, Nat.zero_le _, rfl, by simp [Hid], BRow.made _ _, ?_, (Below.refl _ _).alloc (Nat.le_refl _) _⟩
  show bv _ = _
  rw [List.drop_of_length_le (by simp), b6k, Nat.pow_zero, Nat.mod_one]
 case round =>
  obtain ⟨i, l, hi, rfl, hlen, hrow, hv, hb⟩ := hrel
  by_cases hlt : i < m
  ·obtain ⟨b, o, rfl, hbb, hcell⟩ := hx (by omega)
   have hck := (hb.cell (p := ⟨b, o + i / 4, none⟩) hbb).trans (hcell (i / 4) (by omega))
   obtain ⟨x, hxx⟩ : ∃ x, x = xs.getD (i / 4) 0 := ⟨_, rfl⟩
   rw [<- hxx] at hck
   have hm0 : (0 : Int) <= 8 * ((i : Int) % 4) := by omega
   have hm8 : 8 * ((i : Int) % 4) < 32 := by omega
   have hfr := hrow.frozen (m - 1 - i)
   have hcur := hrow.cell (i := m - 1 - i) (by have := hlen.out; omega)
   obtain ⟨y, hy⟩ : ∃ y : UInt8, y = UInt8.ofNat (x / 2 ^ (8 * (i % 4)) % 256) := ⟨_, rfl⟩
   have hyn : y.toNat = x / 2 ^ (8 * (i % 4)) % 256 := by rw [hy, UInt8.toNat_ofNat']; omega
   have hval : (x : Int) / 2 ^ (8 * (i % 4)) % 256 = (y.toNat : Int) := by
    rw [hyn]; simp only [Int.natCast_emod, Int.natCast_ediv, Int.natCast_pow]; rfl
   have H : Hid (bv ((l.set (m - 1 - i) y).drop (m - (i + 1))) = lv xs % 256 ^ (i + 1)) := by
    show _ = _
    have := b7z l (lv xs) i y (by rw [hlen.out]; exact hlt) (by rw [hlen.out]; exact hv.out) (by rw [hyn, hxx, b8a xs hs])
    rwa [hlen.out] at this
   have hrow' := hrow.set_ (m - 1 - i) y
   clear hxx hcell hx hy hyn
   go_wp2
   go_roundw
   case rel => exact ⟨i + 1, _, by omega, by go_num, by show _ = _; rw [List.length_set]; exact hlen.out, hrow', H, hb.setCell (Nat.le_refl _) _⟩
   case measure => simp [intOf]; omega
  obtain rfl : i = m := by omega
  have hconv := fun W (h : BRow W w.heap.size l) => run_convert_bytes_arg (P := Tryd.prog) W 23 5 Tryd.underlying23 Tryd.underlying5 w.heap.size 0 i i (l.map fun x => (x.toNat : Int)) (by rw [List.length_map]; exact hlen.out)
   (fun j hj => by rw [Nat.zero_add, h.cell (by rw [hlen.out]; exact hj)]; simp [List.getD_eq_getElem?_getD, List.getElem?_map]; cases l[j]? <;> simp) 9 Tryd.underlying9
  have hc2 := hconv wr hrow
  have e : strOfNums (l.map fun x => (x.toNat : Int)) = bs l := by
   unfold strOfNums bs
   congr 2
   rw [List.map_map]
   conv => rhs; rw [<- List.map_id l]
   congr 1
   funext x
   simp
  rw [e] at hc2
  have hlv : bv l = lv xs := by
   have := hv.out
   rw [Nat.sub_self, List.drop_zero] at this
   rw [this, Nat.mod_eq_of_lt]
   have h1 := a5f xs hs
   have h2 : (256 : Nat) ^ i = 4294967296 ^ xs.length := by rw [show i = 4 * xs.length by omega, Nat.pow_mul]
   rw [h2]; exact h1
  have HL := zh hlv
  have hsz2 : (bs l).size <= 9223372036854775807 := by rw [b9z, hlen.out]; omega
  clear hlv e hconv
  go_wp2_with fail
  refine (a3w _ _ hsz2).mono ?_
  rintro e w' ⟨rfl, rfl⟩
  go_wp2
  go_ret
  refine ⟨?_, hb⟩
  rw [b2h, a5w, HL.out]
  rfl
theorem add32 (x y c : Nat) (w : World) (hx : x < 4294967296) (hy : y < 4294967296) (hc : c <= 1) :
  Calls Tryd.prog 60 #[.int .u32 x, .int .u32 y, .int .u32 c] w fun e w' => e = .returned (.tuple #[.int .u32 ((x + y + c) % 4294967296 : Nat), .int .u32 ((x + y + c) / 4294967296 : Nat)]) /\ w = w' := by
 go_enter Tryd.func60, Tryd.ntmps60
 go_wp2
 go_ret2
 refine ⟨?_, rfl⟩
 simp
theorem sub_bits (x y c : Nat) (hx : x < 4294967296) (hy : y < 4294967296) (hc : c <= 1) :
  bits BinOp.or IntKind.u32 (bits BinOp.and IntKind.u32 (bits BinOp.xor IntKind.u32 IntKind.u32.max ↑x) ↑y)
   (bits BinOp.and IntKind.u32 (bits BinOp.xor IntKind.u32 IntKind.u32.max (bits BinOp.xor IntKind.u32 ↑x ↑y)) (((x : Int) - ↑y - ↑c) % 4294967296)) / 2147483648 = (bor x y c : Int) := by
 have hm : IntKind.u32.max = ((4294967295 : Nat) : Int) := by decide
 have hd : ((x : Int) - ↑y - ↑c) % 4294967296 = (((x + 4294967296 - y - c) % 4294967296 : Nat) : Int) := by omega
 obtain ⟨d, hdd⟩ : ∃ d, d = (x + 4294967296 - y - c) % 4294967296 := ⟨_, rfl⟩
 rw [hm, hd, <- hdd]
 have e : (4294967296 : Nat) = 2 ^ 32 := by decide
 have l1 : 4294967295 ^^^ x < 4294967296 := by rw [e]; exact Nat.xor_lt_two_pow (by decide) (by omega)
 have l2 : x ^^^ y < 4294967296 := by rw [e]; exact Nat.xor_lt_two_pow (by omega) (by omega)
 have l3 : 4294967295 ^^^ (x ^^^ y) < 4294967296 := by rw [e]; exact Nat.xor_lt_two_pow (by decide) (by omega)
 have l4 : (4294967295 ^^^ x) &&& y < 4294967296 := by rw [e]; exact Nat.and_lt_two_pow _ (by omega)
 have l5 : (4294967295 ^^^ (x ^^^ y)) &&& d < 4294967296 := by rw [e]; exact Nat.and_lt_two_pow _ (by omega)
 rw [u32_xor_nat _ _ (by decide) hx, u32_xor_nat _ _ hx hy, u32_xor_nat _ _ (by decide) l2, u32_and_nat _ _ l1 hy, u32_and_nat _ _ l3 (by omega), u32_or_nat _ _ l4 l5]
 rw [<- b5a x y c d hx hy hc hdd]
 simp
theorem sub32 (x y c : Nat) (w : World) (hx : x < 4294967296) (hy : y < 4294967296) (hc : c <= 1) :
  Calls Tryd.prog 73 #[.int .u32 x, .int .u32 y, .int .u32 c] w fun e w' => e = .returned (.tuple #[.int .u32 ((x + 4294967296 - y - c) % 4294967296 : Nat), .int .u32 (bor x y c : Nat)]) /\ w = w' := by
 have hb := sub_bits x y c hx hy hc
 have hs : IntKind.u32.signed = false := rfl
 have hd : (((x : Int) - ↑y) % 4294967296 - ↑c) % 4294967296 = (((x + 4294967296 - y - c) % 4294967296 : Nat) : Int) := by omega
 have HB := zh hb
 have HD := zh hd
 clear hb hd
 go_enter Tryd.func73, Tryd.ntmps73
 go_wp2
 go_ret2
 rw [<- HB.out, <- HD.out]
 exact ⟨rfl, rfl⟩
theorem c0e (x y c : Nat) (w : World) (hx : x < 4294967296) (hy : y < 4294967296) (hc : c <= 1) :
  Calls Tryd.prog 60 #[.int .u32 x, .int .u32 y, .int .u32 c] w fun e w' => (∃ r k : Nat, e = .returned (.tuple #[.int .u32 r, .int .u32 k]) /\ Hid (r = (x + y + c) % 4294967296) /\ Hid (k = (x + y + c) / 4294967296) /\ r < 4294967296 /\ k <= 1) /\ w = w' :=
 (add32 x y c w hx hy hc).mono fun _ _ ⟨he, hw⟩ => ⟨⟨_, _, he, rfl, rfl, Nat.mod_lt _ (by decide), by omega⟩, hw⟩
theorem add32'0 (x c : Nat) (w : World) (hx : x < 4294967296) (hc : c <= 1) :
  Calls Tryd.prog 60 #[.int .u32 x, .int .u32 0, .int .u32 c] w fun e w' => (∃ r k : Nat, e = .returned (.tuple #[.int .u32 r, .int .u32 k]) /\ Hid (r = (x + 0 + c) % 4294967296) /\ Hid (k = (x + 0 + c) / 4294967296) /\ r < 4294967296 /\ k <= 1) /\ w = w' :=
 c0e x 0 c w hx (by decide) hc
theorem b5m (x y c : Nat) (w : World) (hx : x < 4294967296) (hy : y < 4294967296) (hc : c <= 1) :
  Calls Tryd.prog 73 #[.int .u32 x, .int .u32 y, .int .u32 c] w fun e w' => (∃ r k : Nat, e = .returned (.tuple #[.int .u32 r, .int .u32 k]) /\ Hid (r + y + c = x + 4294967296 * k) /\ r < 4294967296 /\ k <= 1) /\ w = w' :=
 (sub32 x y c w hx hy hc).mono fun _ _ ⟨he, hw⟩ => ⟨⟨_, _, he, bor_eq x y c hx hy hc, Nat.mod_lt _ (by decide), bor_le _ _ _⟩, hw⟩
theorem sub32'0 (x c : Nat) (w : World) (hx : x < 4294967296) (hc : c <= 1) :
  Calls Tryd.prog 73 #[.int .u32 x, .int .u32 0, .int .u32 c] w fun e w' => (∃ r k : Nat, e = .returned (.tuple #[.int .u32 r, .int .u32 k]) /\ Hid (r + 0 + c = x + 4294967296 * k) /\ r < 4294967296 /\ k <= 1) /\ w = w' :=
 b5m x 0 c w hx (by decide) hc
theorem b4j (s t : ByteArray) (w : World) (hs : s.size <= 68719476736) (ht : t.size <= 68719476736) :
  Calls Tryd.prog 42 #[.string s, .string t] w fun e w' => e = .returned (.string (bs (bytesOf (bv s.data.toList + bv t.data.toList)))) /\ Below w.heap.size w w' := by
 have ls := a2r s.data.toList
 have lt := a2r t.data.toList
 rw [a2k] at ls lt
 obtain ⟨xs, hxs⟩ : ∃ xs, xs = limbsOf (bv s.data.toList) := ⟨_, rfl⟩
 obtain ⟨ys, hys⟩ : ∃ ys, ys = limbsOf (bv t.data.toList) := ⟨_, rfl⟩
 have hN : bv s.data.toList + bv t.data.toList = lv xs + lv ys := by rw [hxs, hys, a0r, a0r]
 have HN := zh hN
 rw [<- hxs] at ls
 rw [<- hys] at lt
 have HX := zh hxs
 have HY := zh hys
 clear hxs hys hN
 go_enter Tryd.func42, Tryd.ntmps42
 go_wp2_with fail
 refine (a0m s _ (by omega)).mono ?_
 rintro e w1 ⟨v1, rfl, h1, hb1⟩
 rw [<- HX.out] at h1
 go_wp2_with fail
 refine (a0m t _ (by omega)).mono ?_
 rintro e w2 ⟨v2, rfl, h2, hb2⟩
 rw [<- HY.out] at h2
 have h1' := h1.below hb2
 have hb := Ext.trans hb1 hb2
 obtain ⟨A1, c1, rfl, hc1, hc1'⟩ := h1'.slice
 obtain ⟨A2, c2, rfl, hc2, hc2'⟩ := h2.slice
 have H1 := zh h1'
 have H2 := zh h2
 clear h1 h1' h2 hb1 hb2
 go_upto_if 19 with (fail)
 go_cut [5, 6] (fun va vb wx => ∃ ps qs, Hid (Limbs w2 va ps) /\ Hid (Limbs w2 vb qs) /\ qs.length <= ps.length /\ ps.length <= 20000000000 /\ Hid (lv ps + lv qs = lv xs + lv ys) /\ w2 = wx)
 case first =>
  go_wp2
  ·go_meet
   case rel => exact ⟨ys, xs, H2, H1, by omega, by omega, Nat.add_comm _ _, rfl⟩
  go_meet
  case rel => exact ⟨xs, ys, H1, H2, by omega, by omega, rfl, rfl⟩
 case rest =>
  obtain ⟨ps, qs, Ha, Hb, hl, hl2, Hs, rfl⟩ := hcut
  obtain ⟨A, ca, rfl, hca, hca'⟩ := Ha.out.slice
  obtain ⟨B, cb, rfl, hcb, hcb'⟩ := Hb.out.slice
  have hmk := a2f 103 Tryd.underlying103 ((ps.length : Int) + 1) (ps.length + 1) (by omega) (by omega)
  clear hc1 hc1' hc2 hc2' H1 H2 ls lt
  go_wp2
  go_loopw [8, 28] (fun c i wr => ∃ (i' cy : Nat) (outs : List Nat), i' <= ps.length /\ i = .int .i64 i' /\ c = .int .u32 cy /\ cy <= 1 /\ Hid (outs.length = ps.length + 1) /\ Row wr w2.heap.size outs /\ Small outs /\
    Hid (lv (outs.take i') + 4294967296 ^ i' * cy = lv (ps.take i') + lv (qs.take i')) /\ Below w2.heap.size w2 wr) (fun _ i _ => ps.length - (intOf i).toNat)
  case atStart =>
   exact ⟨0, 0, _, Nat.zero_le _, rfl, rfl, Nat.zero_le _, by simp [Hid], Row.made _ _, a1v _, by simp [Hid, a3y], (Below.refl _ _).alloc (Nat.le_refl _) _⟩
  case round =>
   obtain ⟨i, cy, outs, hi, rfl, rfl, hcy, hlen, hrow, hso, hv, hbw⟩ := hrel
   by_cases hlt : i < ps.length
   ·obtain ⟨b1, o1, x, rfl, hb1, hx, hx2, hx3⟩ := Ha.out.at_ hlt
    have hxc := hx3 wr hbw
    have HX1 := zh hx
    have hcur := hrow.cell (i := i) (by have := hlen.out; omega)
    have hfr := hrow.frozen i
    clear hx hx3
    by_cases hlt2 : i < qs.length
    ·obtain ⟨b2, o2, y, rfl, hb2, hy, hy2, hy3⟩ := Hb.out.at_ hlt2
     have hyc := hy3 wr hbw
     have HY1 := zh hy
     clear hy hy3
     go_wp2_with (go_at_call 60; refine (c0e x y cy _ hx2 hy2 hcy).mono ?_; rintro e w' ⟨⟨r, k, rfl, hr, hk, hr2, hk2⟩, rfl⟩)
     go_roundw
     case rel =>
      refine ⟨i + 1, k, _, by omega, by go_num, rfl, hk2, by show _ = _; rw [List.length_set]; exact hlen.out, hrow.set_ i r, a0p hso i hr2, ?_, hbw.setCell (Nat.le_refl _) _⟩
      have := b2k (by rw [hlen.out]; omega) hv.out (o := x + y + cy) (by rw [HX1.out, HY1.out])
      rw [<- hr.out, <- hk.out] at this
      exact this
     case measure => simp [intOf]; omega
    go_wp2_with (go_at_call 60; refine (add32'0 x cy _ hx2 hcy).mono ?_; rintro e w' ⟨⟨r, k, rfl, hr, hk, hr2, hk2⟩, rfl⟩)
    go_roundw
    case rel =>
     refine ⟨i + 1, k, _, by omega, by go_num, rfl, hk2, by show _ = _; rw [List.length_set]; exact hlen.out, hrow.set_ i r, a0p hso i hr2, ?_, hbw.setCell (Nat.le_refl _) _⟩
     have := b2k (by rw [hlen.out]; omega) hv.out (o := x + 0 + cy) (by rw [HX1.out, b1y (xs := qs) (by omega)])
     rw [<- hr.out, <- hk.out] at this
     exact this
    case measure => simp [intOf]; omega
   obtain rfl : i = ps.length := by omega
   have hcur := hrow.cell (i := ps.length) (by have := hlen.out; omega)
   have hfr := hrow.frozen ps.length
   have hrow' := hrow.set_ ps.length cy
   have hso' := a0p hso ps.length (x := cy) (by omega)
   have hlen' : (outs.set ps.length cy).length = ps.length + 1 := by rw [List.length_set]; exact hlen.out
   have hfin : lv (outs.set ps.length cy) = lv xs + lv ys := by
    have h1 := a2a outs ps.length cy (by rw [hlen.out]; omega)
    rw [a1d (by rw [hlen']; omega)] at h1
    rw [h1, hv.out, a1d (Nat.le_refl _), a1d hl, Hs.out]
   have HF := zh hfin
   have HL := zh hlen'
   clear hfin hlen'
   go_wp2_with fail
   refine (a2e _ _ _ (hrow'.limbsN hso' HL.out (by omega)) (by rw [HL.out]; omega)).mono ?_
   rintro e w3 ⟨rfl, hb3⟩
   go_wp2
   go_ret
   refine ⟨by rw [HN.out, <- HF.out]; rfl, ?_⟩
   exact Ext.trans hb (Ext.trans (hbw.setCell (Nat.le_refl _) _) hb3)
theorem a2n (va vb : Value) (a b : Nat) (w : World) (ha : Limbs w va (limbsOf a)) (hb : Limbs w vb (limbsOf b)) :
   Calls Tryd.prog 61 #[va, vb] w fun e w' => e = .returned (.int .i64 (sgn ((a : Int) - b))) /\ Below w.heap.size w w' := by
 obtain ⟨xs, hxs⟩ : ∃ xs, xs = limbsOf a := ⟨_, rfl⟩
 obtain ⟨ys, hys⟩ : ∃ ys, ys = limbsOf b := ⟨_, rfl⟩
 have hax : a = lv xs := by rw [hxs, a0r]
 have hby : b = lv ys := by rw [hys, a0r]
 rw [<- hxs] at ha
 rw [<- hys] at hb
 obtain ⟨A, ca, rfl, hca, hca'⟩ := ha.slice
 obtain ⟨B, cb, rfl, hcb, hcb'⟩ := hb.slice
 have HA := zh ha
 have HB := zh hb
 clear ha hb
 by_cases hne : xs.length = ys.length
 have h0 : ((xs.length : Int) != ys.length) = false := by rw [hne]; simp
 have HAX := zh hax
 have HBY := zh hby
 have HL := zh hne
 have h1 : xs.length <= ys.length := by omega
 have h2 : ys.length <= xs.length := by omega
 clear hne hxs hys hax hby
 rotate_left
 have h0 : ((xs.length : Int) != ys.length) = true := by simp; omega
 have hs : sgn ((xs.length : Int) - ys.length) = sgn ((a : Int) - b) := by
   rw [hxs, hys] at hne ⊢
   rcases Nat.lt_or_ge (limbsOf a).length (limbsOf b).length with h | h
   · have := a1h h
     rw [a5v (by omega), a5v (by omega)]
   have := a1h (a := b) (b := a) (by omega)
   rw [a5u (by omega), a5u (by omega)]
 have HS := zh hs
 clear hs hne hxs hys hax hby
 rotate_left
 all_goals
   go_enter Tryd.func61, Tryd.ntmps61
 ·go_wp2
  go_loopw [5] (fun i wr => ∃ k : Nat, k <= xs.length /\ i = .int .i64 ((k : Int) - 1) /\ Hid (xs.drop k = ys.drop k) /\ Below w.heap.size w wr) (fun i _ => (intOf i + 1).toNat)
  case atStart => 
    refine ⟨xs.length, Nat.le_refl _, rfl, ?_, Below.refl _ _⟩
    show _ = _
    rw [List.drop_of_length_le (Nat.le_refl _), List.drop_of_length_le (by omega)]
  case round =>
    obtain ⟨k, hk, rfl, hd, hbw⟩ := hrel
    by_cases hp : 0 < k
    · obtain ⟨b1, o1, x, rfl, hb1, hx, hx2, hx3⟩ := HA.out.at_ (j := k - 1) (by omega)
      obtain ⟨b2, o2, y, rfl, hb2, hy, hy2, hy3⟩ := HB.out.at_ (j := k - 1) (by omega)
      have hxc := hx3 wr hbw
      have hyc := hy3 wr hbw
      have HX := zh hx
      have HY := zh hy
      have i1 : (0 : Int) <= (k : Int) - 1 := by omega
      have i2 : (k : Int) - 1 < xs.length := by omega
      have i3 : (k : Int) - 1 < ys.length := by omega
      clear hx hx3 hy hy3
      go_wp2
      go_quiet (fail)
      go_wp2
      ·have hne : ((x : Int) != y) = true := by assumption
       have hne' : x ≠ y := by intro e; subst e; simp at hne
       go_quiet (fail)
       go_wp2
       ·have hlt : x < y := by assumption
        go_ret
        have h := a7g (xs := xs) (ys := ys) (i := k - 1) HA.out.small (by omega) HL.out (by rw [show k - 1 + 1 = k by omega]; exact hd.out) (by rw [<- HX.out, <- HY.out]; exact hlt)
        rw [<- HAX.out, <- HBY.out] at h
        rw [a5v (by omega)]
        exact ⟨rfl, a0n (a0n hbw _) _⟩
       have hge : ¬ x < y := by assumption
       go_ret
       have h := a7g (xs := ys) (ys := xs) (i := k - 1) HB.out.small (by omega) HL.out.symm (by rw [show k - 1 + 1 = k by omega]; exact hd.out.symm) (by rw [<- HX.out, <- HY.out]; omega)
       rw [<- HAX.out, <- HBY.out] at h
       rw [a5u (by omega)]
       exact ⟨rfl, a0n (a0n hbw _) _⟩
      have hne : ((x : Int) != y) = false := by assumption
      have hne' : x = y := by simp at hne; omega
      have hd' : Hid (xs.drop (k - 1) = ys.drop (k - 1)) := b3y (by omega) HL.out (by rw [show k - 1 + 1 = k by omega]; exact hd.out) (by rw [<- HX.out, <- HY.out]; exact hne')
      go_roundw
      case rel => exact ⟨k - 1, by omega, by congr 1; omega, hd', a0n hbw _⟩
      case measure => simp [intOf]; omega
    obtain rfl : k = 0 := by omega
    go_wp2
    go_ret
    have h := b3p hd.out
    rw [<- HAX.out, <- HBY.out] at h
    rw [h, Int.sub_self]
    exact ⟨rfl, hbw⟩
 go_wp2_with (go_at_call 72; refine (b3h _ _).mono ?_; rintro e w' ⟨rfl, rfl⟩)
 go_ret
 rw [<- HS.out]
 exact ⟨rfl, Below.refl _ _⟩
theorem a7p (va vb : Value) (a b : Nat) (w : World) (ha : Limbs w va (limbsOf a)) (hb : Limbs w vb (limbsOf b)) (hab : b <= a) (hsz : (limbsOf a).length <= 274877906944) :
  Calls Tryd.prog 62 #[va, vb] w fun e w' => ∃ v', e = .returned v' /\ Limbs w' v' (limbsOf (a - b)) /\ Below w.heap.size w w' := by
 obtain ⟨xs, hxs⟩ : ∃ xs, xs = limbsOf a := ⟨_, rfl⟩
 obtain ⟨ys, hys⟩ : ∃ ys, ys = limbsOf b := ⟨_, rfl⟩
 have hax : a = lv xs := by rw [hxs, a0r]
 have hby : b = lv ys := by rw [hys, a0r]
 have hl : ys.length <= xs.length := by
  rcases Nat.lt_or_ge xs.length ys.length with h | h
  ·rw [hxs, hys] at h
   have := a1h h
   omega
  exact h
 rw [<- hxs] at ha hsz
 rw [<- hys] at hb
 obtain ⟨A, ca, rfl, hca, hca'⟩ := ha.slice
 obtain ⟨B, cb, rfl, hcb, hcb'⟩ := hb.slice
 have hmk := a2f 103 Tryd.underlying103 (xs.length : Int) xs.length rfl (by omega)
 have Ha := zh ha
 have Hb := zh hb
 have HAX := zh hax
 have HBY := zh hby
 have HAB := zh hab
 clear ha hb hxs hys hax hby hab
 go_enter Tryd.func62, Tryd.ntmps62
 go_wp2
 go_loopw [6, 14] (fun c i wr => ∃ (i' cy : Nat) (outs : List Nat), i' <= xs.length /\ i = .int .i64 i' /\ c = .int .u32 cy /\ cy <= 1 /\ Hid (outs.length = xs.length) /\ Row wr w.heap.size outs /\ Small outs /\
   Hid (lv (outs.take i') + lv (ys.take i') = lv (xs.take i') + 4294967296 ^ i' * cy) /\ Below w.heap.size w wr) (fun _ i _ => xs.length - (intOf i).toNat)
 case atStart =>
  exact ⟨0, 0, _, Nat.zero_le _, rfl, rfl, Nat.zero_le _, by simp [Hid], Row.made _ _, a1v _, by simp [Hid, a3y], (Below.refl _ _).alloc (Nat.le_refl _) _⟩
 case round =>
  obtain ⟨i, cy, outs, hi, rfl, rfl, hcy, hlen, hrow, hso, hv, hbw⟩ := hrel
  by_cases hlt : i < xs.length
  ·obtain ⟨b1, o1, x, rfl, hb1, hx, hx2, hx3⟩ := Ha.out.at_ hlt
   have hxc := hx3 wr hbw
   have HX1 := zh hx
   have hcur := hrow.cell (i := i) (by have := hlen.out; omega)
   have hfr := hrow.frozen i
   clear hx hx3
   by_cases hlt2 : i < ys.length
   ·obtain ⟨b2, o2, y, rfl, hb2, hy, hy2, hy3⟩ := Hb.out.at_ hlt2
    have hyc := hy3 wr hbw
    have HY1 := zh hy
    clear hy hy3
    go_wp2_with (go_at_call 73; refine (b5m x y cy _ hx2 hy2 hcy).mono ?_; rintro e w' ⟨⟨r, k, rfl, hr, hr2, hk2⟩, rfl⟩)
    go_roundw
    case rel =>
     refine ⟨i + 1, k, _, by omega, by go_num, rfl, hk2, by show _ = _; rw [List.length_set]; exact hlen.out, hrow.set_ i r, a0p hso i hr2, ?_, hbw.setCell (Nat.le_refl _) _⟩
     exact b5k (by rw [hlen.out]; omega) hv.out (by rw [<- HX1.out, <- HY1.out]; exact hr.out)
    case measure => simp [intOf]; omega
   go_wp2_with (go_at_call 73; refine (sub32'0 x cy _ hx2 hcy).mono ?_; rintro e w' ⟨⟨r, k, rfl, hr, hr2, hk2⟩, rfl⟩)
   go_roundw
   case rel =>
    refine ⟨i + 1, k, _, by omega, by go_num, rfl, hk2, by show _ = _; rw [List.length_set]; exact hlen.out, hrow.set_ i r, a0p hso i hr2, ?_, hbw.setCell (Nat.le_refl _) _⟩
    exact b5k (by rw [hlen.out]; omega) hv.out (by rw [<- HX1.out, b1y (xs := ys) (by omega)]; exact hr.out)
   case measure => simp [intOf]; omega
  obtain rfl : i = xs.length := by omega
  have hfin : lv outs = a - b := by
   have h1 := hv.out
   have h2 := a5f outs hso
   have h3 := HAB.out
   rw [a1d (by rw [hlen.out]; omega), a1d hl, a1d (Nat.le_refl _), <- HAX.out, <- HBY.out] at h1
   rw [hlen.out] at h2
   rcases Nat.eq_zero_or_pos cy with h0 | h0
   ·subst h0; omega
   obtain rfl : cy = 1 := by omega
   omega
  have HF := zh hfin
  clear hfin
  go_wp2_with fail
  refine (a1w _ outs _ (hrow.limbsN hso hlen.out (by omega))).mono ?_
  rintro e w' ⟨⟨v', rfl, hv'⟩, rfl⟩
  go_wp2
  go_ret
  rw [HF.out] at hv'
  exact ⟨_, rfl, hv', hbw⟩
theorem a7q (s t : ByteArray) (w : World) (hs : s.size <= 68719476736) (ht : t.size <= 68719476736) (hab : bv t.data.toList <= bv s.data.toList) :
  Calls Tryd.prog 43 #[.string s, .string t] w fun e w' => e = .returned (.tuple #[.string (bs (bytesOf (bv s.data.toList - bv t.data.toList))), .bool true]) /\ Below w.heap.size w w' := by
 have ls := a2r s.data.toList
 rw [a2k] at ls
 have hsg : 0 <= sgn ((bv s.data.toList : Int) - bv t.data.toList) := by
  rcases Nat.lt_or_ge (bv t.data.toList) (bv s.data.toList) with h | h
  ·rw [a5u (by omega)]; decide
  rw [show (bv s.data.toList : Int) - bv t.data.toList = 0 by omega, b1m]; decide
 have hP := fun W => a0m s W (by omega)
 have hQ := fun W => a0m t W (by omega)
 have HP := zh hP
 have HQ := zh hQ
 clear hP hQ
 have hlen : (limbsOf (bv s.data.toList - bv t.data.toList)).length <= (s.size + 3) / 4 := by
  have h1 := a5n (bv s.data.toList)
  have h2 := a3u (bv s.data.toList - bv t.data.toList) _ (Nat.lt_of_le_of_lt (Nat.sub_le _ _) h1)
  omega
 generalize bv s.data.toList = a at *
 generalize bv t.data.toList = b at *
 have HAB := zh hab
 clear hab
 go_enter Tryd.func43, Tryd.ntmps43
 go_wp2_with fail
 refine (HP.out _).mono ?_
 rintro e w1 ⟨v1, rfl, h1, hb1⟩
 go_wp2_with fail
 refine (HQ.out _).mono ?_
 rintro e w2 ⟨v2, rfl, h2, hb2⟩
 have h1' := h1.below hb2
 have hb := Ext.trans hb1 hb2
 have H1 := zh h1'
 have H2 := zh h2
 clear h1 h1' h2 hb1 hb2
 go_wp2_with fail
 refine (a2n _ _ _ _ _ H1.out H2.out).mono ?_
 rintro e w3 ⟨rfl, hb3⟩
 have h1' := H1.out.below hb3
 have h2' := H2.out.below hb3
 have hb' := Ext.trans hb hb3
 have H3 := zh h1'
 have H4 := zh h2'
 clear h1' h2' H1 H2 hb hb3
 go_wp2_with fail
 refine (a7p _ _ _ _ _ H3.out H4.out HAB.out (by omega)).mono ?_
 rintro e w4 ⟨v4, rfl, h4, hb4⟩
 have H5 := zh h4
 clear h4
 go_wp2_with fail
 refine (a2e _ _ _ H5.out (by omega)).mono ?_
 rintro e w5 ⟨rfl, hb5⟩
 go_wp2
 go_ret2
 refine ⟨by rw [a0r]; rfl, Ext.trans hb' (Ext.trans hb4 hb5)⟩
theorem a4m (s t : ByteArray) (w : World) (hs : s.size <= 68719476736) (ht : t.size <= 68719476736) (hab : bv s.data.toList < bv t.data.toList) :
  Calls Tryd.prog 43 #[.string s, .string t] w fun e w' => e = .returned (.tuple #[.string (bs []), .bool false]) /\ Below w.heap.size w w' := by
 have hsg : sgn ((bv s.data.toList : Int) - bv t.data.toList) < 0 := by rw [a5v (by omega)]; decide
 have hP := fun W => a0m s W (by omega)
 have hQ := fun W => a0m t W (by omega)
 have HP := zh hP
 have HQ := zh hQ
 clear hP hQ
 generalize bv s.data.toList = a at *
 generalize bv t.data.toList = b at *
 clear hab
 go_enter Tryd.func43, Tryd.ntmps43
 go_wp2_with fail
 refine (HP.out _).mono ?_
 rintro e w1 ⟨v1, rfl, h1, hb1⟩
 go_wp2_with fail
 refine (HQ.out _).mono ?_
 rintro e w2 ⟨v2, rfl, h2, hb2⟩
 have h1' := h1.below hb2
 have hb := Ext.trans hb1 hb2
 have H1 := zh h1'
 have H2 := zh h2
 clear h1 h1' h2 hb1 hb2
 go_wp2_with fail
 refine (a2n _ _ _ _ _ H1.out H2.out).mono ?_
 rintro e w3 ⟨rfl, hb3⟩
 have hb' := Ext.trans hb hb3
 go_wp2
 go_ret2
 exact ⟨rfl, hb'⟩
theorem a7r (s t : ByteArray) (w : World) (hs : s.size <= 68719476736) (ht : t.size <= 68719476736) :
  Calls Tryd.prog 39 #[.string s, .string t] w fun e w' => e = .returned (.string (bs (bytesOf (bv s.data.toList * bv t.data.toList)))) /\ Below w.heap.size w w' := by
 have ls := a2r s.data.toList
 have lt := a2r t.data.toList
 rw [a2k] at ls lt
 have hP := fun W => a0m s W (by omega)
 have hQ := fun W => a0m t W (by omega)
 obtain ⟨xs, hxs⟩ : ∃ xs, xs = limbsOf (bv s.data.toList) := ⟨_, rfl⟩
 obtain ⟨ys, hys⟩ : ∃ ys, ys = limbsOf (bv t.data.toList) := ⟨_, rfl⟩
 have hax : bv s.data.toList = lv xs := by rw [hxs, a0r]
 have hby : bv t.data.toList = lv ys := by rw [hys, a0r]
 rw [<- hxs] at ls hP
 rw [<- hys] at lt hQ
 rw [hax, hby]
 have HP := zh hP
 have HQ := zh hQ
 clear hP hQ hax hby hxs hys
 have hmk := a2f 103 Tryd.underlying103 ((xs.length : Int) + ys.length) (xs.length + ys.length) (by omega) (by omega)
 go_enter Tryd.func39, Tryd.ntmps39
 go_wp2_with fail
 refine (HP.out _).mono ?_
 rintro e w1 ⟨v1, rfl, h1, hb1⟩
 go_wp2_with fail
 refine (HQ.out _).mono ?_
 rintro e w2 ⟨v2, rfl, h2, hb2⟩
 have h1' := h1.below hb2
 have hb := Ext.trans hb1 hb2
 obtain ⟨A, ca, rfl, hca, hca'⟩ := h1'.slice
 obtain ⟨B, cb, rfl, hcb, hcb'⟩ := h2.slice
 have Ha := zh h1'
 have Hb := zh h2
 clear h1 h1' h2 hb1 hb2
 go_wp2
 go_loopw [26] (fun i wr => ∃ (i' : Nat) (outs : List Nat), i' <= xs.length /\ i = .int .i64 i' /\ Hid (outs.length = xs.length + ys.length) /\ Row wr w2.heap.size outs /\ Small outs /\
   Hid (lv outs = lv (xs.take i') * lv ys) /\ Below w2.heap.size w2 wr) (fun i _ => xs.length - (intOf i).toNat)
 case atStart =>
  exact ⟨0, _, Nat.zero_le _, rfl, by simp [Hid], Row.made _ _, a1v _, by simp [Hid, a3y, a6k], (Below.refl _ _).alloc (Nat.le_refl _) _⟩
 case round =>
  obtain ⟨i, outs, hi, rfl, hlen, hrow, hso, hv, hbw⟩ := hrel
  by_cases hlt : i < xs.length
  ·obtain ⟨b1, o1, u, rfl, hb1, hx, hx2, hx3⟩ := Ha.out.at_ hlt
   have hxc := hx3 wr hbw
   have HX1 := zh hx
   clear hx hx3
   obtain ⟨wo, hwo⟩ : ∃ wo : World, wo = wr := ⟨_, rfl⟩
   subst hwo
   go_wp2
   go_loopw [10, 33] (fun c k wr => ∃ (k' c' : Nat) (outs : List Nat), k' <= ys.length /\ k = .int .i64 k' /\ c = .int .u64 c' /\ c' < 4294967296 /\ Hid (outs.length = xs.length + ys.length) /\ Row wr w2.heap.size outs /\ Small outs /\
     Hid (outs.getD (i + ys.length) 0 = 0) /\ Hid (lv outs + 4294967296 ^ (i + k') * c' = lv (xs.take i) * lv ys + 4294967296 ^ i * (u * lv (ys.take k'))) /\ Below w2.heap.size w2 wr) (fun _ k _ => ys.length - (intOf k).toNat)
   case atStart =>
    refine ⟨0, 0, outs, Nat.zero_le _, rfl, rfl, by decide, hlen, hrow, hso, ?_, ?_, hbw⟩
    ·show _ = _
     apply b9f hso
     rw [hv.out]
     have h1 := a5f _ (Ha.out.small.take i)
     rw [List.length_take, Nat.min_eq_left hi] at h1
     exact b6y h1 (a5f _ Hb.out.small)
    show _ = _
    rw [hv.out, List.take_zero, a3y]; simp
   case round =>
    obtain ⟨k, c, outs, hk, rfl, rfl, hc, hlen, hrow, hso, h0, hv, hbw⟩ := hrel
    by_cases hlt2 : k < ys.length
    ·obtain ⟨b2, o2, v, rfl, hb2, hy, hy2, hy3⟩ := Hb.out.at_ hlt2
     have hyc := hy3 wr hbw
     have HY1 := zh hy
     have hcur := hrow.cell (i := i + k) (by have := hlen.out; omega)
     have hfr := hrow.frozen (i + k)
     obtain ⟨old, hold⟩ : ∃ old, old = outs.getD (i + k) 0 := ⟨_, rfl⟩
     rw [<- hold] at hcur
     have hold2 : old < 4294967296 := by rw [hold]; exact hso.get _
     have HO := zh hold
     have hpb := (a4z hx2 hy2 hold2 hc).1
     have hpb0 : (0 : Int) <= (u : Int) * v := by rw [<- Int.natCast_mul]; omega
     have hpb1 : (u : Int) * v <= 18446744065119617025 := by rw [<- Int.natCast_mul]; omega
     clear hy hy3 hold hpb
     go_wp2
     go_roundw
     case rel =>
      have e1 : ((u : Int) * v + old + c) / 4294967296 = (((u * v + old + c) / 4294967296 : Nat) : Int) := by simp
      have e2 : ((u : Int) * v + old + c) % 4294967296 = (((u * v + old + c) % 4294967296 : Nat) : Int) := by simp
      rw [e1, e2]
      refine ⟨k + 1, _, _, by omega, by go_num, rfl, (a4z hx2 hy2 hold2 hc).2, by show _ = _; rw [List.length_set]; exact hlen.out, hrow.set_ (i + k) _, a0p hso _ (Nat.mod_lt _ (by decide)), ?_, ?_, hbw.setCell (Nat.le_refl _) _⟩
      ·show _ = _
       rw [getD_set_ne (by omega)]; exact h0.out
      exact mul_step (by rw [hlen.out]; omega) HO.out HY1.out rfl hv.out
     case measure => simp [intOf]; omega
    obtain rfl : k = ys.length := by omega
    have hcur := hrow.cell (i := i + ys.length) (by have := hlen.out; omega)
    have hfr := hrow.frozen (i + ys.length)
    have H : Hid (lv (outs.set (i + ys.length) c) = lv (xs.take (i + 1)) * lv ys) := mul_end (by rw [hlen.out]; omega) h0.out HX1.out hv.out
    go_wp2
    go_roundw
    case rel => exact ⟨i + 1, _, by omega, by go_num, by show _ = _; rw [List.length_set]; exact hlen.out, hrow.set_ _ c, a0p hso _ hc, H, hbw.setCell (Nat.le_refl _) _⟩
    case measure => simp [intOf]; omega
  obtain rfl : i = xs.length := by omega
  go_wp2_with fail
  refine (a2e _ outs _ (hrow.limbsN hso hlen.out (by omega)) (by rw [hlen.out]; omega)).mono ?_
  rintro e w3 ⟨rfl, hb3⟩
  go_wp2
  go_ret
  refine ⟨by rw [hv.out, a1d (Nat.le_refl _)]; rfl, Ext.trans hb (Ext.trans hbw hb3)⟩
theorem a5x (va : Value) (xs : List Nat) (d : Nat) (w : World) (ha : Limbs w va xs) (hd : 0 < d) (hd2 : d < 4294967296) (hsz : xs.length <= 274877906944) :
  Calls Tryd.prog 78 #[va, .int .u32 d] w fun e w' => ∃ v', e = .returned (.tuple #[v', .int .u32 (lv xs % d : Nat)]) /\ Limbs w' v' (limbsOf (lv xs / d)) /\ Below w.heap.size w w' := by
 obtain ⟨A, ca, rfl, hca, hca'⟩ := ha.slice
 have hmk := a2f 103 Tryd.underlying103 (xs.length : Int) xs.length rfl (by omega)
 have Ha := zh ha
 clear ha
 go_enter Tryd.func78, Tryd.ntmps78
 go_wp2
 go_loopw [7, 8] (fun r i wr => ∃ (k r' : Nat) (outs : List Nat), k <= xs.length /\ i = .int .i64 ((k : Int) - 1) /\ r = .int .u64 r' /\ r' < d /\ Hid (outs.length = xs.length) /\ Row wr w.heap.size outs /\ Small outs /\
   Hid (lv (outs.drop k) = lv (xs.drop k) / d) /\ Hid (r' = lv (xs.drop k) % d) /\ Below w.heap.size w wr) (fun _ i _ => (intOf i + 1).toNat)
 case atStart =>
  refine ⟨xs.length, 0, _, Nat.le_refl _, rfl, rfl, hd, by simp [Hid], Row.made _ _, a1v _, ?_, ?_, (Below.refl _ _).alloc (Nat.le_refl _) _⟩
  ·show _ = _
   rw [List.drop_of_length_le (by simp), List.drop_of_length_le (by simp), a3y, Nat.zero_div]
  show _ = _
  rw [List.drop_of_length_le (by simp), a3y, Nat.zero_mod]
 case round =>
  obtain ⟨k, r, outs, hk, rfl, rfl, hr, hlen, hrow, hso, hq, hrr, hbw⟩ := hrel
  by_cases hp : 0 < k
  ·obtain ⟨b1, o1, x, rfl, hb1, hx, hx2, hx3⟩ := Ha.out.at_ (j := k - 1) (by omega)
   have hxc := hx3 wr hbw
   have HX := zh hx
   have hcur := hrow.cell (i := k - 1) (by have := hlen.out; omega)
   have hfr := hrow.frozen (k - 1)
   have hor : bits .or .u64 ((r : Int) * 4294967296) (x : Int) = ((r * 4294967296 + x : Nat) : Int) := by
    rw [<- a7v hx2, <- u64_or_nat _ _ (by omega) (by omega)]
    simp
   obtain ⟨y, hy⟩ : ∃ y, y = r * 4294967296 + x := ⟨_, rfl⟩
   rw [<- hy] at hor
   have hyb : y < 18446744073709551616 := by omega
   obtain ⟨hs1, hs2⟩ := b6r (r := r) hd (by omega) (by rw [hlen.out]; omega) hx (i := k - 1) (by rw [show k - 1 + 1 = k by omega]; exact hq.out) (by rw [show k - 1 + 1 = k by omega]; exact hrr.out)
   obtain ⟨q, hqq⟩ : ∃ q, q = y / d := ⟨_, rfl⟩
   have hqb : q < 4294967296 := by rw [hqq, hy]; exact b6s hr hx2
   have hw : IntKind.u64.wrap ((y : Int) / d) = (q : Int) := by
    rw [hqq, IntKind.wrap_u64, <- Int.natCast_ediv]
    omega
   have hmo : (y : Int) % d = ((y % d : Nat) : Int) := by simp
   rw [<- hy, <- hqq] at hs1
   rw [<- hy] at hs2
   have HS1 := zh hs1
   have HS2 := zh hs2
   have HM := zh hmo
   clear hx hx3 hy hs1 hs2 hqq hmo
   go_wp2
   go_roundw
   case rel =>
    rw [HM.out]
    exact ⟨k - 1, _, _, by omega, by congr 1; omega, rfl, Nat.mod_lt _ hd, by show _ = _; rw [List.length_set]; exact hlen.out, hrow.set_ (k - 1) q, a0p hso _ hqb, HS1, HS2, hbw.setCell (Nat.le_refl _) _⟩
   case measure => simp [intOf]; omega
  obtain rfl : k = 0 := by omega
  go_wp2_with fail
  refine (a1w _ outs _ (hrow.limbsN hso hlen.out (by omega))).mono ?_
  rintro e w' ⟨⟨v', rfl, hv'⟩, rfl⟩
  go_wp2
  go_ret2
  have hq0 := hq.out
  rw [List.drop_zero, List.drop_zero] at hq0
  rw [hq0] at hv'
  have hr2 := hrr.out
  rw [List.drop_zero] at hr2
  refine ⟨_, ?_, hv', hbw⟩
  rw [<- hr2]
  rfl
theorem a6g (va : Value) (xs : List Nat) (s n : Nat) (w : World) (ha : Limbs w va xs) (hs : s < 32) (hn : xs.length <= n) (hn2 : n <= xs.length + 1) (hfit : n = xs.length -> lv xs * 2 ^ s < 4294967296 ^ n) (hsz : xs.length <= 274877906944) :
  Calls Tryd.prog 80 #[va, .int .u64 s, .int .i64 n] w fun e w' => ∃ outs, e = .returned (.slice (some ⟨w.heap.size, 0, none⟩) n n) /\ Hid (outs.length = n) /\ Small outs /\ Hid (lv outs = lv xs * 2 ^ s) /\ Row w' w.heap.size outs /\ Below w.heap.size w w' := by
 obtain ⟨A, ca, rfl, hca, hca'⟩ := ha.slice
 have hmk := a2f 103 Tryd.underlying103 (n : Int) n rfl (by omega)
 have Ha := zh ha
 have HF := zh hfit
 have hsm := ha.small
 clear ha hfit
 go_enter Tryd.func80, Tryd.ntmps80
 go_wp2
 go_loopw [15] (fun i wr => ∃ (i' : Nat) (outs : List Nat), i' <= xs.length /\ i = .int .i64 i' /\ Hid (outs.length = n) /\ Row wr w.heap.size outs /\ Small outs /\
   Hid (lv outs = lv (xs.take i') * 2 ^ s) /\ Below w.heap.size w wr) (fun i _ => xs.length - (intOf i).toNat)
 case atStart => exact ⟨0, _, Nat.zero_le _, rfl, by simp [Hid], Row.made _ _, a1v _, by simp [Hid, a3y, a6k], (Below.refl _ _).alloc (Nat.le_refl _) _⟩
 case round =>
  obtain ⟨i, outs, hi, rfl, hlen, hrow, hso, hv, hbw⟩ := hrel
  by_cases hlt : i < xs.length
  ·obtain ⟨b1, o1, u, rfl, hb1, hx, hx2, hx3⟩ := Ha.out.at_ hlt
   have hxc := hx3 wr hbw
   have hcur := hrow.cell (i := i) (by have := hlen.out; omega)
   have hfr := hrow.frozen i
   have hfr2 := hrow.frozen (i + 1)
   obtain ⟨o, ho⟩ : ∃ o, o = outs.getD i 0 := ⟨_, rfl⟩
   obtain ⟨t, ht⟩ : ∃ t, t = u * 2 ^ s := ⟨_, rfl⟩
   obtain ⟨f1, f2, f3, f4, f5, f6, f7⟩ := shl_step hs hso hx hx2 ho (by rw [hlen.out]; omega) ht hsm hlt hv.out
   rw [hlen.out] at f6 f7
   rw [<- ho] at hcur
   have h231 : (2 : Nat) ^ s <= 2147483648 := by
    have := Nat.pow_le_pow_right (show 0 < 2 by decide) (show s <= 31 by omega)
    have e : (2 : Nat) ^ 31 = 2147483648 := by decide
    omega
   have ht63 : t < 9223372036854775808 := by
    have : 4294967296 * 2 ^ s <= 4294967296 * 2147483648 := Nat.mul_le_mul_left _ h231
    omega
   have hw : IntKind.u64.wrap ((u : Int) * 2 ^ s) = (t : Int) := by
    have e : (u : Int) * 2 ^ s = (t : Int) := by rw [ht, Int.natCast_mul, Int.natCast_pow]; rfl
    rw [e, IntKind.wrap_u64]; omega
   have ho2 : o < 4294967296 := by rw [ho]; exact hso.get _
   obtain ⟨p, hp⟩ : ∃ p, p = o + t % 4294967296 := ⟨_, rfl⟩
   obtain ⟨c, hc⟩ : ∃ c, c = t / 4294967296 := ⟨_, rfl⟩
   rw [<- hp] at f1 f2
   rw [<- hp, <- hc] at f6
   rw [<- hp] at f7
   rw [<- hc] at f5
   have hb1' : bits .or .u32 (o : Int) ((t : Int) % 4294967296) = (p : Int) := by
    rw [<- f1, <- u32_or_nat o _ ho2 (Nat.mod_lt _ (by decide))]
    simp
   have hb2' : bits .or .u32 0 (c : Int) = (c : Int) := by
    have := u32_or_nat 0 c (by decide) f5
    rw [Nat.zero_or] at this
    exact this
   have hdiv : (t : Int) / 4294967296 = (c : Int) := by rw [hc]; simp
   have HP := zh hp
   by_cases hl2 : i + 1 < n
   ·have hcur2 := hrow.cell (i := i + 1) (by rw [hlen.out]; omega)
    rw [f3] at hcur2
    have H := zh (f6 hl2)
    clear f1 f3 f4 f6 f7 hx hx3 ho ht hc hp ht63 h231
    go_wp2
    go_roundw
    case rel => exact ⟨i + 1, _, by omega, by go_num, by show _ = _; rw [List.length_set, List.length_set]; exact hlen.out, (hrow.set_ i p).set_ (i + 1) c, a0p (a0p hso _ f2) _ f5, H, (hbw.setCell (Nat.le_refl _) _).setCell (Nat.le_refl _) _⟩
    case measure => simp [intOf]; omega
   have H := zh (f7 (by omega) (HF.out (by omega)))
   clear f1 f3 f4 f6 f7 hx hx3 ho ht hc hp ht63 h231
   go_wp2
   go_roundw
   case rel => exact ⟨i + 1, _, by omega, by go_num, by show _ = _; rw [List.length_set]; exact hlen.out, hrow.set_ i p, a0p hso _ f2, H, hbw.setCell (Nat.le_refl _) _⟩
   case measure => simp [intOf]; omega
  obtain rfl : i = xs.length := by omega
  go_wp2
  go_ret
  exact ⟨outs, rfl, hlen, hso, by rw [a1d (Nat.le_refl _)] at hv; exact hv, hrow, hbw⟩
theorem a8t (va : Value) (xs : List Nat) (s : Nat) (w : World) (ha : Limbs w va xs) (hs : s < 32) (hsz : xs.length <= 274877906944) :
  Calls Tryd.prog 82 #[va, .int .u64 s] w fun e w' => ∃ v', e = .returned v' /\ Limbs w' v' (limbsOf (lv xs / 2 ^ s)) /\ Below w.heap.size w w' := by
 obtain ⟨A, ca, rfl, hca, hca'⟩ := ha.slice
 have hmk := a2f 103 Tryd.underlying103 (xs.length : Int) xs.length rfl (by omega)
 have Ha := zh ha
 have hsm := ha.small
 clear ha
 go_enter Tryd.func82, Tryd.ntmps82
 go_wp2
 go_loopw [13] (fun i wr => ∃ (i' : Nat) (outs : List Nat), i' <= xs.length /\ i = .int .i64 i' /\ Hid (outs.length = xs.length) /\ Row wr w.heap.size outs /\ Small outs /\
   Hid (lv (outs.take i') = lv xs / 2 ^ s % 4294967296 ^ i') /\ Below w.heap.size w wr) (fun i _ => xs.length - (intOf i).toNat)
 case atStart =>
  refine ⟨0, _, Nat.zero_le _, rfl, by simp [Hid], Row.made _ _, a1v _, ?_, (Below.refl _ _).alloc (Nat.le_refl _) _⟩
  show _ = _
  rw [List.take_zero, Nat.pow_zero, Nat.mod_one, a3y]
 case round =>
  obtain ⟨i, outs, hi, rfl, hlen, hrow, hso, hv, hbw⟩ := hrel
  by_cases hlt : i < xs.length
  ·obtain ⟨b1, o1, x, rfl, hb1, hx, hx2, hx3⟩ := Ha.out.at_ hlt
   have hxc := hx3 wr hbw
   have hcur := hrow.cell (i := i) (by have := hlen.out; omega)
   have hfr := hrow.frozen i
   obtain ⟨y, hy⟩ : ∃ y, y = xs.getD (i + 1) 0 := ⟨_, rfl⟩
   have hy2 : y < 4294967296 := by rw [hy]; exact hsm.get _
   obtain ⟨t, ht⟩ : ∃ t, t = x + 4294967296 * y := ⟨_, rfl⟩
   obtain ⟨p, hp⟩ : ∃ p, p = t / 2 ^ s % 4294967296 := ⟨_, rfl⟩
   have hp2 : p < 4294967296 := by rw [hp]; exact Nat.mod_lt _ (by decide)
   have hst := shr_step (outs := outs) hsm (i := i) (s := s) (by omega) (by rw [hlen.out]; exact hlt) hv.out
   rw [<- hx, <- hy, <- ht, <- hp] at hst
   have H := zh hst
   have hor : bits .or .u64 (x : Int) ((y : Int) * 4294967296) = (t : Int) := by
    have e : x ||| y * 4294967296 = t := by rw [Nat.or_comm, a7v hx2, ht]; omega
    rw [<- e, <- u64_or_nat _ _ (by omega) (by omega)]
    simp
   have hpp : (t : Int) / 2 ^ s % 4294967296 = (p : Int) := by rw [hp]; simp
   by_cases hl2 : i + 1 < xs.length
   ·have hyc := Limbs.cellAt Ha.out hl2 hb1 wr hbw
    rw [<- hy] at hyc
    clear hx hx3 hst hp ht hy
    go_wp2
    go_roundw
    case rel => exact ⟨i + 1, _, by omega, by go_num, by show _ = _; rw [List.length_set]; exact hlen.out, hrow.set_ i p, a0p hso _ hp2, H, hbw.setCell (Nat.le_refl _) _⟩
    case measure => simp [intOf]; omega
   have hy0 : y = 0 := by rw [hy]; exact b1y (by omega)
   have htx : t = x := by rw [ht, hy0]; simp
   subst htx
   clear hx hx3 hst hp hy hy0 hor ht
   go_wp2
   go_roundw
   case rel => exact ⟨i + 1, _, by omega, by go_num, by show _ = _; rw [List.length_set]; exact hlen.out, hrow.set_ i p, a0p hso _ hp2, H, hbw.setCell (Nat.le_refl _) _⟩
   case measure => simp [intOf]; omega
  obtain rfl : i = xs.length := by omega
  have hfin : lv outs = lv xs / 2 ^ s := by
   have h1 := hv.out
   rw [a1d (by rw [hlen.out]; omega)] at h1
   rw [h1, Nat.mod_eq_of_lt]
   exact Nat.lt_of_le_of_lt (Nat.div_le_self _ _) (a5f _ hsm)
  have HF := zh hfin
  clear hfin
  go_wp2_with fail
  refine (a1w _ outs _ (hrow.limbsN hso hlen.out (by omega))).mono ?_
  rintro e w' ⟨⟨v', rfl, hv'⟩, rfl⟩
  go_wp2
  go_ret
  rw [HF.out] at hv'
  exact ⟨_, rfl, hv', hbw⟩
theorem getD_pre {pre zs : List Nat} {j : Nat} : (pre ++ zs).getD (pre.length + j) 0 = zs.getD j 0 := by
 rw [List.getD_eq_getElem?_getD, List.getD_eq_getElem?_getD, List.getElem?_append_right (by omega), Nat.add_sub_cancel_left]
theorem set_pre {pre zs : List Nat} {j x : Nat} : (pre ++ zs).set (pre.length + j) x = pre ++ zs.set j x := by
 rw [List.set_append, if_neg (by omega), Nat.add_sub_cancel_left]
theorem Row.cellP {w : World} {g : Nat} {pre zs : List Nat} (h : Row w g (pre ++ zs)) {j : Nat} (hj : j < zs.length) : w.cell? ⟨g, pre.length + j, none⟩ = some (.int .u32 (zs.getD j 0 : Nat)) := by
 rw [h.cell (by rw [List.length_append]; omega), getD_pre]
theorem Row.setP {w : World} {g : Nat} {pre zs : List Nat} (h : Row w g (pre ++ zs)) (j x : Nat) : Row (w.setCell ⟨g, pre.length + j, none⟩ (.int .u32 (x : Nat))) g (pre ++ zs.set j x) := by
 have := h.set_ (pre.length + j) x
 rwa [set_pre] at this
theorem b3g (g off n c : Nat) (pre zs ds : List Nat) (vd : Value) (w : World) (hoff : pre.length = off) (hr : Row w g (pre ++ zs)) (hzs : Small zs) (hd : Limbs w vd ds) (hg : ∀ b o cd, vd = .slice (some ⟨b, o, none⟩) n cd -> b ≠ g)
  (hn : 2 <= n) (hdn : ds.length = n) (hzl : n + 1 <= zs.length) (hc : n + 1 <= c) (htop : 0 < ds.getD (n - 1) 0) (hless : lv (zs.take (n + 1)) < lv ds * 4294967296) (hsz : n <= 274877906944) :
  Calls Tryd.prog 81 #[.slice (some ⟨g, off, none⟩) (n + 1) c, vd] w fun e w' => ∃ zs', e = .returned (.int .u32 (lv (zs.take (n + 1)) / lv ds : Nat)) /\ Hid (zs'.length = zs.length) /\ Hid (zs'.drop (n + 1) = zs.drop (n + 1)) /\ Small zs' /\ Hid (lv (zs'.take (n + 1)) = lv (zs.take (n + 1)) % lv ds) /\
   Row w' g (pre ++ zs') /\ w.grownBy w' (some g) := by
 obtain ⟨A, cd, rfl, hcd, hcd'⟩ := hd.slice
 subst hdn
 have hlead := lead_of hzs hd.small hn rfl hzl htop hless
 subst hoff
 obtain ⟨n, hnn⟩ : ∃ n, n = ds.length := ⟨_, rfl⟩
 have hdsm := hd.small
 have HD := zh hd
 obtain ⟨b, o, d1, rfl, hb, hd1, hd1b, hd1c⟩ := hd.at_ (j := ds.length - 1) (by omega)
 have hd2c := fun w' hw => Limbs.cellAt HD.out (j := ds.length - 2) (by omega) hb w' hw
 obtain ⟨d2, hd2⟩ : ∃ d2, d2 = ds.getD (ds.length - 2) 0 := ⟨_, rfl⟩
 rw [<- hd2] at hd2c
 have hne := hg b o cd rfl
 obtain ⟨un, hun⟩ : ∃ un, un = zs.getD ds.length 0 := ⟨_, rfl⟩
 obtain ⟨um, hum⟩ : ∃ um, um = zs.getD (ds.length - 1) 0 := ⟨_, rfl⟩
 obtain ⟨ul, hul⟩ : ∃ ul, ul = zs.getD (ds.length - 2) 0 := ⟨_, rfl⟩
 have hcn := hr.cellP (j := ds.length) (by omega)
 have hcm := hr.cellP (j := ds.length - 1) (by omega)
 have hcl := hr.cellP (j := ds.length - 2) (by omega)
 rw [<- hun] at hcn
 rw [<- hum] at hcm
 rw [<- hul] at hcl
 rw [<- hun, <- hum, <- hul, <- hd1, <- hd2] at hlead
 have hunb : un < 4294967296 := by rw [hun]; exact hzs.get _
 have humb : um < 4294967296 := by rw [hum]; exact hzs.get _
 have hulb : ul < 4294967296 := by rw [hul]; exact hzs.get _
 have hd2b : d2 < 4294967296 := by rw [hd2]; exact hdsm.get _
 rw [<- hd1] at htop
 obtain ⟨top, htp⟩ : ∃ top, top = un * 4294967296 + um := ⟨_, rfl⟩
 rw [<- htp] at hlead
 have hor : bits .or .u64 ((un : Int) * 4294967296) (um : Int) = (top : Int) := by
  rw [htp, <- a7v humb, <- u64_or_nat _ _ (by omega) (by omega)]
  simp
 obtain ⟨U, hU⟩ : ∃ U, U = lv (zs.take (ds.length + 1)) := ⟨_, rfl⟩
 obtain ⟨D, hD⟩ : ∃ D, D = lv ds := ⟨_, rfl⟩
 rw [<- hU, <- hD] at hlead hless
 rw [<- hU, <- hD]
 obtain ⟨g0, hg0⟩ : ∃ g0, g0 = top / d1 := ⟨_, rfl⟩
 obtain ⟨r0, hr0⟩ : ∃ r0, r0 = top % d1 := ⟨_, rfl⟩
 have htopb : top < 18446744073709551616 := by omega
 have hquo : IntKind.u64.wrap ((top : Int) / d1) = (g0 : Int) := by
  have : g0 <= top := by rw [hg0]; exact Nat.div_le_self _ _
  have e : (top : Int) / d1 = (g0 : Int) := by rw [hg0]; simp
  rw [e, IntKind.wrap_u64]; omega
 have hrem : (top : Int) % d1 = (r0 : Int) := by rw [hr0]; simp
 have hst : U / D <= g0 := by rw [hg0]; exact hlead.start
 have htg : top = g0 * d1 + r0 := by rw [hg0, hr0, Nat.mul_comm]; exact (Nat.div_add_mod _ _).symm
 have hg0b : g0 <= 8589934592 := by
  have := hlead.top_le
  rw [hg0]
  have h2 : top / d1 <= (d1 * 4294967296 + d2) / d1 := Nat.div_le_div_right this
  rw [Nat.mul_add_div htop] at h2
  have := Nat.div_le_self d2 d1
  omega
 have hr0b : r0 < 4294967296 := by rw [hr0]; exact Nat.lt_of_lt_of_le (Nat.mod_lt _ htop) (by omega)
 have HST := zh hst
 have HTG := zh htg
 have HL := zh hlead
 have HU := zh hU
 have HDD := zh hD
 have HLE := zh hless
 have hd1w := hd1c w (Below.refl _ _)
 have hd2w := hd2c w (Below.refl _ _)
 clear hg hd hst htg hlead hU hD hless hd1 hd2 hun hum hul htp hnn htopb hg0 hr0 hd1c hd2c n
 go_enter Tryd.func81, Tryd.ntmps81
 go_wp2
 go_quiet (fail)
 go_wp2
 go_quiet (fail)
 go_upto_block 0 with (fail)
 go_cut [7, 8] (fun vg vr wx => ∃ q : Nat, vg = .int .u64 q /\ q < 4294967296 /\ Hid (U / D <= q) /\ Hid (q * D < U + D) /\ ∃ nq, wx = w.drewN nq)
 case first =>
  go_wp2
  go_loopw [7, 8] (fun vg vr wx => ∃ q r nq : Nat, vg = .int .u64 q /\ vr = .int .u64 r /\ r < 4294967296 /\ q <= 8589934592 /\ Hid (top = q * d1 + r) /\ Hid (U / D <= q) /\ wx = w.drewN nq) (fun vg _ _ => (intOf vg).toNat)
  case atStart => exact ⟨g0, r0, _, rfl, by rw [hrem], hr0b, hg0b, HTG, HST, World.drewN_drewN _ _ _⟩
  case round =>
   obtain ⟨q, r, nq', rfl, rfl, hrb, hqb, htq, hqU, rfl⟩ := hrel
   have hor2 : bits .or .u64 ((r : Int) * 4294967296) (ul : Int) = ((r * 4294967296 + ul : Nat) : Int) := by
    rw [<- a7v hulb, <- u64_or_nat _ _ (by omega) (by omega)]
    simp
   obtain ⟨m2, hm2⟩ : ∃ m2, m2 = r * 4294967296 + ul := ⟨_, rfl⟩
   rw [<- hm2] at hor2
   have HM2 := zh hm2
   by_cases hge : 4294967296 <= q
   ·have i1 : (4294967296 : Int) <= (q : Int) := by omega
    obtain ⟨f1, f2, f3⟩ := HL.out.down htq.out hqU.out (.inl hge)
    have i2 : (1 : Int) <= (q : Int) := by omega
    have F2 := zh f2
    have F3 := zh f3
    clear hm2 f2 f3 hor hquo hrem
    by_cases hbr : 4294967296 <= r + d1
    ·have i3 : (4294967296 : Int) <= (r : Int) + d1 := by omega
     have i4 : decide ((4294967296 : Int) <= (r : Int) + d1) = true := decide_eq_true i3
     obtain ⟨f4, f5⟩ := HL.out.broke F3.out hbr
     have F4 := zh f4
     have F5 := zh f5
     clear hbr f4 f5
     go_wp2
     go_quiet (fail)
     go_wp2
     go_meet
     case rel => exact ⟨q - 1, by congr 1; omega, F4.out, F2, F5, _, rfl⟩
    have i3 : (r : Int) + d1 < (4294967296 : Int) := by omega
    have i4 : decide ((4294967296 : Int) <= (r : Int) + d1) = false := decide_eq_false (by omega)
    have HBR := zh hbr
    clear hbr
    go_wp2
    go_quiet (fail)
    go_wp2
    go_roundw
    case rel => exact ⟨q - 1, r + d1, _, by congr 1; omega, by go_num, by have := HBR.out; omega, by omega, F3, F2, rfl⟩
    case measure => simp [intOf]; omega
   have i1 : decide ((4294967296 : Int) <= (q : Int)) = false := decide_eq_false (by omega)
   have hpb := (a4z (u := q) (v := d2) (o := 0) (c := 0) (by omega) hd2b (by decide) (by decide)).1
   have hpb0 : (0 : Int) <= (q : Int) * d2 := by rw [<- Int.natCast_mul]; omega
   have hpb1 : (q : Int) * d2 <= 18446744065119617025 := by rw [<- Int.natCast_mul]; omega
   have hcast : (q : Int) * d2 = ((q * d2 : Nat) : Int) := by simp
   by_cases hgt : m2 < q * d2
   ·have i5 : (m2 : Int) < (q : Int) * d2 := by omega
    have i6 : decide ((m2 : Int) < (q : Int) * d2) = true := decide_eq_true i5
    obtain ⟨f1, f2, f3⟩ := HL.out.down htq.out hqU.out (.inr (by rw [<- hm2]; exact hgt))
    have i2 : (1 : Int) <= (q : Int) := by omega
    have F2 := zh f2
    have F3 := zh f3
    clear hm2 f2 f3 hor hquo hrem hcast hpb hgt hge
    by_cases hbr : 4294967296 <= r + d1
    ·have i3 : (4294967296 : Int) <= (r : Int) + d1 := by omega
     have i4 : decide ((4294967296 : Int) <= (r : Int) + d1) = true := decide_eq_true i3
     obtain ⟨f4, f5⟩ := HL.out.broke F3.out hbr
     have F4 := zh f4
     have F5 := zh f5
     clear hbr f4 f5
     go_wp2
     go_quiet (fail)
     go_wp2
     go_meet
     case rel => exact ⟨q - 1, by congr 1; omega, F4.out, F2, F5, _, rfl⟩
    have i3 : (r : Int) + d1 < (4294967296 : Int) := by omega
    have i4 : decide ((4294967296 : Int) <= (r : Int) + d1) = false := decide_eq_false (by omega)
    have HBR := zh hbr
    clear hbr
    go_wp2
    go_quiet (fail)
    go_wp2
    go_roundw
    case rel => exact ⟨q - 1, r + d1, _, by congr 1; omega, by go_num, by have := HBR.out; omega, by omega, F3, F2, rfl⟩
    case measure => simp [intOf]; omega
   have i6 : decide ((m2 : Int) < (q : Int) * d2) = false := decide_eq_false (by omega)
   have F5 := zh (HL.out.stop htq.out (by omega) (by rw [<- hm2]; exact hgt))
   have F6 : Hid (q < 4294967296) := by show _ < _; omega
   clear hm2 hor hquo hrem hcast hpb hgt hge
   go_wp2
   go_quiet (fail)
   go_wp2
   go_meet
   case rel => exact ⟨q, rfl, F6.out, hqU, F5, _, World.drewN_drewN _ _ _⟩
 case rest =>
  obtain ⟨q, rfl, hq, hq1, hq2, nq', rfl⟩ := hcut
  clear hor hquo hrem hcn hcm hcl hd1w hd2w
  go_wp2
  go_loopw [9, 10, 84] (fun vc vb i wr => ∃ (k c' b' : Nat) (zk : List Nat), k <= ds.length /\ i = .int .i64 k /\ vc = .int .u64 c' /\ c' < 4294967296 /\ vb = .int .u32 b' /\ b' <= 1 /\ Hid (zk.length = zs.length) /\ Hid (zk.drop k = zs.drop k) /\ Small zk /\
    Row wr g (pre ++ zk) /\ Hid (lv (zk.take k) + q * lv (ds.take k) = lv (zs.take k) + 4294967296 ^ k * (c' + b')) /\ Hid (w.grownBy wr (some g))) (fun _ _ i _ => ds.length - (intOf i).toNat)
  case atStart => exact ⟨0, 0, 0, zs, Nat.zero_le _, rfl, rfl, by decide, rfl, by decide, rfl, rfl, hzs, hr, by simp [Hid, a3y], b4t (b7j _ _) _⟩
  case round =>
   obtain ⟨k, cc, bb, zk, hk, rfl, rfl, hcc, rfl, hbb, hzl2, hdr, hzks, hrow, hinv, hgr⟩ := hrel
   by_cases hlt : k < ds.length
   ·have hvc := (b1c hgr.out (o := o + k) hb (by intro e; exact hne (Option.some.inj e))).trans (Limbs.cellAt HD.out hlt hb w (Below.refl _ _))
    obtain ⟨v, hv⟩ : ∃ v, v = ds.getD k 0 := ⟨_, rfl⟩
    have hvb : v < 4294967296 := by rw [hv]; exact hdsm.get _
    rw [<- hv] at hvc
    have hcur := hrow.cellP (j := k) (by rw [hzl2.out]; omega)
    have hfr := hrow.frozen (pre.length + k)
    obtain ⟨z, hz⟩ : ∃ z, z = zk.getD k 0 := ⟨_, rfl⟩
    have hzb : z < 4294967296 := by rw [hz]; exact hzks.get _
    rw [<- hz] at hcur
    have hpb := a4z (u := q) (v := v) (o := 0) (c := cc) hq hvb (by decide) hcc
    have hpb0 : (0 : Int) <= (q : Int) * v := by rw [<- Int.natCast_mul]; omega
    have hpb1 : (q : Int) * v <= 18446744065119617025 := by have := hpb.1; rw [<- Int.natCast_mul]; omega
    obtain ⟨x, hx⟩ : ∃ x, x = (q * v + cc) % 4294967296 := ⟨_, rfl⟩
    obtain ⟨y, hy⟩ : ∃ y, y = (q * v + cc) / 4294967296 := ⟨_, rfl⟩
    have hxb : x < 4294967296 := by rw [hx]; exact Nat.mod_lt _ (by decide)
    have hyb : y < 4294967296 := by rw [hy]; exact hpb.2
    have e1 : ((q : Int) * v + cc) % 4294967296 = (x : Int) := by rw [hx]; simp
    have e2 : ((q : Int) * v + cc) / 4294967296 = (y : Int) := by rw [hy]; simp
    have HX := zh hx
    have HY := zh hy
    have HV := zh hv
    have HZ := zh hz
    clear hv hz hpb hx hy
    go_wp2_with (go_at_call 73; refine (b5m z x bb _ hzb hxb hbb).mono ?_; rintro e w' ⟨⟨rr, kk, rfl, hrr, hrr2, hkk2⟩, rfl⟩)
    go_roundw
    case rel =>
     refine ⟨k + 1, y, kk, zk.set k rr, by omega, by go_num, rfl, hyb, rfl, hkk2, by show _ = _; rw [List.length_set]; exact hzl2.out, a2q hdr.out, a0p hzks k hrr2, hrow.setP k rr, ?_, a2p hgr.out _ _⟩
     show _ = _
     rw [HY.out]
     exact b9a (by rw [hzl2.out]; omega) (a2x hdr.out) (by rw [<- HV.out]) (by rw [<- HX.out, <- HZ.out]; exact hrr) hinv.out
    case measure => simp [intOf]; omega
   obtain rfl : k = ds.length := by omega
   have hcur := hrow.cellP (j := ds.length) (by rw [hzl2.out]; omega)
   have hfr := hrow.frozen (pre.length + ds.length)
   obtain ⟨z, hz⟩ : ∃ z, z = zk.getD ds.length 0 := ⟨_, rfl⟩
   have hzb : z < 4294967296 := by rw [hz]; exact hzks.get _
   rw [<- hz] at hcur
   have HZ := zh hz
   have hmod : (cc : Int) % 4294967296 = (cc : Int) := Int.emod_eq_of_lt (by omega) (by omega)
   clear hz
   go_wp2_with (go_at_call 73; refine (b5m z cc bb _ hzb hcc hbb).mono ?_; rintro e w' ⟨⟨rr, kk, rfl, hrr, hrr2, hkk2⟩, rfl⟩)
   ·have hk0 : kk = 0 := by
     have : ((kk : Int) == 0) = true := by assumption
     simp at this; omega
    subst hk0
    have hfin := b3k (n := ds.length) (ds := ds) (by rw [hzl2.out]; omega) (a2x hdr.out) (by rw [<- HZ.out]; exact hrr.out) hinv.out
    rw [a1d (Nat.le_refl _), <- HU.out, <- HDD.out] at hfin
    obtain ⟨s1, s2⟩ := b6q HL.out.Dpos hq1.out hfin
    have hlen1 : Hid ((zk.set ds.length rr).length = zs.length) := by show _ = _; rw [List.length_set]; exact hzl2.out
    go_ret
    rw [<- s1]
    exact ⟨zk.set ds.length rr, rfl, hlen1, a2q hdr.out, a0p hzks ds.length hrr2, s2, hrow.setP ds.length rr, a2p hgr.out _ _⟩
   rename ((kk : Int) == 0) = false => hkz
   have hk1 : kk = 1 := by
    have : ((kk : Int) == 0) = false := hkz
    rcases Nat.eq_zero_or_pos kk with h0 | h0
    ·subst h0; simp at this
    omega
   have hfin := b3k (n := ds.length) (ds := ds) (by rw [hzl2.out]; omega) (a2x hdr.out) (by rw [<- HZ.out]; exact hrr.out) hinv.out
   rw [hk1] at hfin
   clear hk1 hkz
   have hrow1 := hrow.setP ds.length rr
   have hsm1 := a0p hzks ds.length hrr2
   have hgr1 := zh (a2p hgr.out (pre.length + ds.length) (.int .u32 (rr : Nat)))
   have hlen1 : Hid ((zk.set ds.length rr).length = zs.length) := by show _ = _; rw [List.length_set]; exact hzl2.out
   have hdr1 : Hid ((zk.set ds.length rr).drop (ds.length + 1) = zs.drop (ds.length + 1)) := a2q hdr.out
   obtain ⟨z1, hz1⟩ : ∃ z1, z1 = zk.set ds.length rr := ⟨_, rfl⟩
   rw [<- hz1] at hfin hrow1 hsm1 hlen1 hdr1
   rw [a1d (Nat.le_refl _), <- HU.out, <- HDD.out] at hfin
   have hP : lv (z1.take (ds.length + 1)) < 4294967296 ^ (ds.length + 1) := by
    have h := a5f _ (hsm1.take (ds.length + 1))
    rwa [List.length_take, Nat.min_eq_left (by rw [hlen1.out]; omega)] at h
   obtain ⟨s1, s2, s3⟩ := b8c HL.out.Dpos hq1.out hq2.out hP hfin
   have S1 := zh s1
   have S3 := zh s3
   have i2 : (1 : Int) <= (q : Int) := by omega
   clear hfin hP s1 s3 hz1 hcur hfr hrow hrr HZ hzks hzl2 hdr hinv hgr hmod
   go_loopw [14, 132] (fun vc i wr => ∃ (k c' : Nat) (zk : List Nat), k <= ds.length /\ i = .int .i64 k /\ vc = .int .u32 c' /\ c' <= 1 /\ Hid (zk.length = zs.length) /\ Hid (zk.drop k = z1.drop k) /\ Small zk /\
     Row wr g (pre ++ zk) /\ Hid (lv (zk.take k) + 4294967296 ^ k * c' = lv (z1.take k) + lv (ds.take k)) /\ Hid (w.grownBy wr (some g))) (fun _ i _ => ds.length - (intOf i).toNat)
   case atStart => exact ⟨0, 0, z1, Nat.zero_le _, rfl, rfl, by decide, hlen1, rfl, hsm1, hrow1, by simp [Hid, a3y], hgr1⟩
   case round =>
    obtain ⟨k, cc, zk, hk, rfl, rfl, hcc, hzl2, hdr, hzks, hrow, hinv, hgr⟩ := hrel
    by_cases hlt : k < ds.length
    ·have hvc := (b1c hgr.out (o := o + k) hb (by intro e; exact hne (Option.some.inj e))).trans (Limbs.cellAt HD.out hlt hb w (Below.refl _ _))
     obtain ⟨v, hv⟩ : ∃ v, v = ds.getD k 0 := ⟨_, rfl⟩
     have hvb : v < 4294967296 := by rw [hv]; exact hdsm.get _
     rw [<- hv] at hvc
     have hcur := hrow.cellP (j := k) (by rw [hzl2.out]; omega)
     have hfr := hrow.frozen (pre.length + k)
     obtain ⟨z, hz⟩ : ∃ z, z = zk.getD k 0 := ⟨_, rfl⟩
     have hzb : z < 4294967296 := by rw [hz]; exact hzks.get _
     rw [<- hz] at hcur
     have HV := zh hv
     have HZ := zh hz
     clear hv hz
     go_wp2_with (go_at_call 60; refine (c0e z v cc _ hzb hvb hcc).mono ?_; rintro e w' ⟨⟨rr, kk, rfl, hrr, hkk, hrr2, hkk2⟩, rfl⟩)
     go_roundw
     case rel =>
      refine ⟨k + 1, kk, zk.set k rr, by omega, by go_num, rfl, hkk2, by show _ = _; rw [List.length_set]; exact hzl2.out, a2q hdr.out, a0p hzks k hrr2, hrow.setP k rr, ?_, a2p hgr.out _ _⟩
      show _ = _
      rw [hrr.out, hkk.out]
      exact b2k (by rw [hzl2.out]; omega) hinv.out (by rw [HV.out, HZ.out, a2x hdr.out])
     case measure => simp [intOf]; omega
    obtain rfl : k = ds.length := by omega
    have hcur := hrow.cellP (j := ds.length) (by rw [hzl2.out]; omega)
    have hfr := hrow.frozen (pre.length + ds.length)
    obtain ⟨z, hz⟩ : ∃ z, z = zk.getD ds.length 0 := ⟨_, rfl⟩
    have hzb : z < 4294967296 := by rw [hz]; exact hzks.get _
    rw [<- hz] at hcur
    have HZ := zh hz
    have hwrap : IntKind.u32.wrap ((z : Int) + cc) = (((z + cc) % 4294967296 : Nat) : Int) := by rw [IntKind.wrap_u32]; omega
    obtain ⟨x, hx⟩ : ∃ x, x = (z + cc) % 4294967296 := ⟨_, rfl⟩
    have hxb : x < 4294967296 := by rw [hx]; exact Nat.mod_lt _ (by decide)
    rw [<- hx] at hwrap
    have HX := zh hx
    clear hz hx
    go_wp2
    go_ret
    have e : ((q : Int) - 1) = ((U / D : Nat) : Int) := by rw [<- S1.out]; omega
    rw [e]
    refine ⟨zk.set ds.length x, rfl, by show _ = _; rw [List.length_set]; exact hzl2.out, (a2q hdr.out).trans hdr1.out, a0p hzks ds.length hxb, ?_, hrow.setP ds.length x, a2p hgr.out _ _⟩
    show _ = _
    rw [HX.out, HZ.out]
    refine b4c (ds := ds) (z1 := z1) (D := D) (by rw [hzl2.out]; omega) (a2x hdr.out) (hzks.take _) ?_ hinv.out (by rw [a1d (Nat.le_refl _), <- HDD.out]) S3.out
    have hd : D < 4294967296 ^ ds.length := by rw [HDD.out]; exact a5f _ hdsm
    have hm := Nat.mod_lt U HL.out.Dpos
    have hp := Nat.pow_le_pow_right (show 0 < 4294967296 by decide) (Nat.le_succ ds.length)
    exact Nat.lt_of_lt_of_le (Nat.lt_trans hm hd) hp
end Go.Proofs.YtgdhpghfojccaaaDoor
