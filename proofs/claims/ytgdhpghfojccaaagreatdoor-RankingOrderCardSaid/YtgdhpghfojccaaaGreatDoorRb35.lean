/-
Part 35 of the base.
-/
import Derived.Test.YtgdhpghfojccaaaGreatDoorRb34
set_option maxRecDepth 100000
set_option maxHeartbeats 4000000
namespace Go.Proofs.YtgdhpghfojccaaaGreatDoor
open Go.RowKit
structure Fit (cl : List Nmd) (l : List Cls) : Prop where
 ncl : cl.length <= 1000
 nl : l.length <= 1000
 nmd : ∀ x ∈ cl, x.id.length <= 9223372036854775807 /\ x.am.a.length <= 17179869184 /\ x.am.b.length <= 17179869184
 cls : ∀ x ∈ l, x.name.length <= 9223372036854775807 /\ x.other.length <= 9223372036854775807 /\ x.list.length <= 1000 /\ (∀ s ∈ x.list, s.length <= 9223372036854775807) /\ x.am.a.length <= 17179869184 /\ x.am.b.length <= 17179869184
def zE (r : Int) : List Value := [.int .i64 r]
theorem b9k (r : Int) : (zE r).length = 1 := rfl
theorem b7g : ∀ R : List Int, flat zE R = R.map (.int .i64)
 | [] => rfl
 | r :: R => by rw [flat, b7g R]; rfl
abbrev c3p (w : World) (v : Value) (R : List Int) : Prop := Slc zE 1 w v R
theorem c2c {P : Program} (ats : Array TypeId) (ty : TypeId) (a b : Int) (W : World) : (Builtin.max_ ats ty #[.int .i64 a, .int .i64 b]).run P W = .ok (.int .i64 (max a b)) W := by
 have h : (if b > a then b else a) = max a b := by split <;> omega
 unfold Builtin.max_
 simp [Builtin.max2, h]
theorem prg_info : (Tryz.prog.info? 29).map (·.size) = some 2 := by kernel_rfl
theorem prg_load {w : World} {g : Nat} {a b : Value} (h : Blk w g #[a, b] 29) : (loadVar 29 ⟨g, 0, none⟩).run Tryz.prog w = .ok (.agg #[a, b]) w :=
 run_loadVar_row w g _ _ _ _ _ h Tryz.underlying29 rfl prg_info
theorem a2s {fn : Func} {p u v : Tmp} (h : fn.results = #[.cell p 29, .tmp u, .tmp v]) (tmps : Array Value) (w : World) (g : Nat) {a b : Value}
  (hp : tmps.getD p undef = .pointer (some ⟨g, 0, none⟩)) (hg : Blk w g #[a, b] 29) : (results fn tmps).run Tryz.prog w = .ok (.tuple #[.agg #[a, b], tmps.getD u undef, tmps.getD v undef]) w := by
 have hp' : tmps[p]?.getD undef = .pointer (some ⟨g, 0, none⟩) := by simpa using hp
 simp [results, h, hp', asAddr, prg_load hg]
def CmpR (cl : List Nmd) (l : List Cls) (w : World) (e : Ending) (w' : World) : Prop := ∃ (vr va : Value) (R : List Int) (A : List (List (List Prt))) (i : Nat) (er : Int), e = .returned (.tuple #[.agg #[vr, va], .int .i64 (i : Nat), .int .i64 er]) /\ c3p w' vr R /\ AgrL w' va A /\ Comp cl l R A i er /\ Below w.heap.size w w'
theorem a8d (w : World) : c3p w (.slice none 0 0) [] := Slc.nil_ _ _ _ _ _ (by decide)
theorem a8k (w : World) : AgrL w (.slice none 0 0) [] := NstL.nil_ _ _ _ (by decide)
theorem Fit.uses {cl : List Nmd} {l : List Cls} (h : Fit cl l) {x : Cls} (hx : x ∈ l) : (a3j x).length <= 1000 /\ ∀ s ∈ a3j x, s.length <= 9223372036854775807 := by
 obtain ⟨a, b, c, d, _⟩ := h.cls x hx
 unfold a3j
 split
 ·exact ⟨c, d⟩
 split
 ·exact ⟨(by show 2 <= 1000; decide), fun s hs => by rcases List.mem_cons.1 hs with rfl | hs; exact a; rw [List.mem_singleton.1 hs]; exact b⟩
 exact ⟨(by show 1 <= 1000; decide), fun s hs => by rw [List.mem_singleton.1 hs]; exact a⟩
theorem c4p {cl : List Nmd} {l : List Cls} (h : Pass cl l 1) : Ok1 cl l := pass1_iff.1 fun i c hc => ((h i (List.getElem?_eq_some_iff.1 hc).1 c hc).1 rfl).symm
theorem rnk_step {R R2 : List Int} {p : Nat -> Bool} {i : Nat} {a : Int} (h : RnkJ R ((List.range i).filter p) ((List.range i).filter p).length R2) (ha : R2[i]? = some a) : RnkJ R ((List.range i).filter p ++ [i]) ((List.range i).filter p ++ [i]).length (R2.set i (max a 4)) := by
 have h2 : RnkJ R ((List.range i).filter p ++ [i]) ((List.range i).filter p).length R2 := by
  refine ⟨h.1, fun j x y hx hy => ?_⟩
  have e : (∃ q, q < ((List.range i).filter p).length /\ ((List.range i).filter p ++ [i])[q]? = some j) ↔ ∃ q, q < ((List.range i).filter p).length /\ ((List.range i).filter p)[q]? = some j :=
   ⟨fun ⟨q, h1, h2⟩ => ⟨q, h1, by rw [List.getElem?_append_left h1] at h2; exact h2⟩, fun ⟨q, h1, h2⟩ => ⟨q, h1, by rw [List.getElem?_append_left h1]; exact h2⟩⟩
  rw [e]; exact h.2 j x y hx hy
 have h3 := h2.step (i := i) (a := a) (by rw [List.getElem?_append_right (Nat.le_refl _), Nat.sub_self]; rfl) ha
 rw [List.length_append]
 exact h3
theorem c1b {R : List Int} {i : Nat} {a : Int} : (R.map (Value.int .i64)).set i (.int .i64 a) = (R.set i a).map (Value.int .i64) := by rw [List.map_set]
theorem b1t (v v2 : Value) (cl : List Nmd) (l : List Cls) (w : World) (h : NmdL w v cl) (h2 : ClsL w v2 l) (hF : Fit cl l) :
  Calls Tryz.prog 12 #[v, v2] w (CmpR cl l w) := by
 have dC := fun W (hb : Below w.heap.size w W) => b3u v cl W (h.below hb) hF.nmd (by have := hF.ncl; omega)
 have dS := fun s i x W (hb : Below w.heap.size w W) (hx : l[i]? = some x) (hs : 1 <= s /\ s <= 4) (h1 : 3 <= s -> Ok1 cl l) => c8k v v2 cl l s i x W (h.below hb) (h2.below hb) hx hF.ncl hF.nl hs h1 (by have := (hF.uses (List.mem_of_getElem? hx)).1; omega) (hF.cls x (List.mem_of_getElem? hx)).1 (fun c hc _ => (hF.cls c hc).2.2.1) ⟨(hF.cls x (List.mem_of_getElem? hx)).2.2.2.2.1, (hF.cls x (List.mem_of_getElem? hx)).2.2.2.2.2⟩
 have dD := fun (hO : Okay cl l) s W (hb : Below w.heap.size w W) {R : List Own} (w0 : World) (hS : St w0 R W) => a6k v v2 cl l s W (h.below hb) (h2.below hb) (a1p hO.one) hF.ncl hF.nl (fun c hc _ => (hF.cls c hc).2.2.1) hS
 have dA := fun (hO : Okay cl l) W (hb : Below w.heap.size w W) => b3s v v2 cl l W (h.below hb) (h2.below hb) hO hF.ncl hF.nl (fun c hc _ => (hF.cls c hc).2.2.1) (fun x hx => ⟨(hF.cls x hx).2.2.2.2.1, (hF.cls x hx).2.2.2.2.2⟩)
 obtain ⟨A1, c1, rfl, _, _⟩ := Slc.slice h
 obtain ⟨A2, c2, rfl, _, _⟩ := h2.slice
 obtain ⟨ii, hii, hz0, hz1, hz2⟩ := a9w
 have hmx := @c2c Tryz.prog
 have HC := zh h
 have HV := zh h2
 have DS := zh dS
 have DD := zh dD
 have DA := zh dA
 have HZ0 := zh hz0
 have L1 := zh hF.ncl
 have L2 := zh hF.nl
 obtain ⟨ck, hck⟩ : ∃ ck, ck = a1y cl := ⟨_, rfl⟩
 rw [<- hck] at dC
 have DC := zh dC
 have HCK : Hid (a1y cl = ck) := hck.symm
 clear h h2 hF dC dS dD dA hck hz0
 by_cases hc0 : ck = 0
 by_cases h64 : 64 < l.length
 have d1 : decide ((64 : Int) < (l.length : Int)) = true := decide_eq_true (by omega)
 have d2 : decide (64 < l.length) = true := decide_eq_true h64
 have HX := zh h64
 have HY : Hid (a1y cl = 0) := HCK.out.trans hc0
 have d3 : (ck == 0) = true := beq_iff_eq.2 hc0
 clear h64 hc0
 rotate_left
 have d1 : decide ((64 : Int) < (l.length : Int)) = false := decide_eq_false (by omega)
 have d2 : decide (64 < l.length) = false := decide_eq_false h64
 have HX := zh (show l.length <= 64 by omega)
 have HY : Hid (a1y cl = 0) := HCK.out.trans hc0
 have d3 : (ck == 0) = true := beq_iff_eq.2 hc0
 have d4 : (ck != 0) = false := by rw [hc0]; rfl
 clear h64 hc0
 rotate_left
 have d3 : (ck == 0) = false := beq_eq_false_iff_ne.2 hc0
 have d4 : (ck != 0) = true := bne_iff_ne.2 hc0
 have HX := zh hc0
 clear hc0
 rotate_left
 all_goals
   go_enter Tryz.func12, Tryz.ntmps12
   have HS := zh (St.start w)
   go_wp2_with fail
   have HS2 := aL HS #[.slice none 0 0, .slice none 0 0] 29 w.heap.size
   refine cL (DC.out _ HS2.out.below) HS2 fun w3 HS3 => ?_
   clear HS HS2
 ·have x1 := cC HS3 0 0
  have x2 := cC HS3 0 1
  have x3 := cF HS3 0 0
  have x4 := cF HS3 0 1
  go_wp2
  have HS4 : Hid (St w [⟨w.heap.size, #[.slice none 0 0, .slice none 0 0], 29⟩] _) := zh (St.set (St.set (HS3.out) 0 rfl 0 _) 0 rfl 1 _)
  refine bodyPost_ret (a2s rfl _ _ _ rfl (HS4.out.blk 0 rfl)) rfl ?_
  exact ⟨.slice none 0 0, .slice none 0 0, [], [], 0, 2, rfl, a8d _, a8k _, .inr (.inl ⟨HY.out, HX.out, rfl, rfl, rfl, rfl⟩), HS4.out.below⟩
 ·go_wp2
  go_loopw [8] (fun s_ wr => ∃ s : Nat, 1 <= s /\ s <= 5 /\ s_ = .int .i64 s /\ Hid (∀ t, 1 <= t -> t < s -> Pass cl l t) /\ Hid (St w [⟨w.heap.size, #[.slice none 0 0, .slice none 0 0], 29⟩] wr)) (fun s_ _ => 5 - (intOf s_).toNat)
  case atStart => exact ⟨1, Nat.le_refl _, by decide, rfl, (fun t h1 h2 => by omega), HS3.out⟩
  case round =>
   clear HS3 DC
   obtain ⟨s, hs1, hs5, rfl, HP, HS⟩ := hrel
   by_cases hs4 : s <= 4
   ·have e1 : ((s : Nat) : Int) <= 4 := by omega
    have e2 : decide (((s : Nat) : Int) <= 4) = true := decide_eq_true e1
    have e3 : decide (s <= 4) = true := decide_eq_true hs4
    have i5 : IntKind.i64.wrap ((s : Int) + 1) = ((s + 1 : Nat) : Int) := by rw [IntWalk.i64_in _ (by omega)]; rfl
    have HOK := zh (fun h3 : 3 <= s => c4p (HP.out 1 (Nat.le_refl _) (by omega)))
    go_wp2
    go_loopw [9] (fun i_ wr => ∃ i : Nat, i <= l.length /\ i_ = .int .i64 i /\ Hid (∀ j, j < i -> ErrS cl l s j 0) /\ Hid (St w [⟨w.heap.size, #[.slice none 0 0, .slice none 0 0], 29⟩] wr)) (fun i_ _ => l.length - (intOf i_).toNat)
    case atStart => exact ⟨0, Nat.zero_le _, rfl, (fun j h => absurd h (Nat.not_lt_zero _)), HS.out⟩
    case round =>
     clear HS
     obtain ⟨i, hi, rfl, HE, HS⟩ := hrel
     by_cases hin : i < l.length
     ·have f1 : (((i : Nat)) : Int) < (l.length : Int) := by omega
      have f2 : decide (((i : Nat) : Int) < (l.length : Int)) = true := decide_eq_true f1
      have f3 : (0 : Int) <= ((i : Nat) : Int) := by omega
      have i6 : IntKind.i64.wrap ((i : Int) + 1) = ((i + 1 : Nat) : Int) := by have := L2.out; rw [IntWalk.i64_in _ (by omega)]; rfl
      go_wp2_with fail
      refine (DS.out s i _ _ HS.out.below (List.getElem?_eq_getElem hin) ⟨hs1, hs4⟩ HOK.out).mono ?_
      rintro e w4 ⟨er4, rfl, he4, hb4⟩
      have HS4 := zh (HS.out.call hb4)
      have HR4 := zh he4
      clear he4 hb4 HS
      go_upto_if 44 with fail
      by_cases he : er4 = 0
      ·have d7 : (er4 != 0) = false := by rw [he]; rfl
       have HR := zh (he ▸ HR4.out)
       clear he
       go_wp2
       go_roundw
       case rel => exact ⟨i + 1, by omega, by go_num, (fun j hj => (Nat.lt_or_ge j i).elim (HE.out j) (fun h => (show i = j by omega) ▸ HR.out)), HS4.out⟩
       case measure => simp [intOf]; omega
      have d7 : (er4 != 0) = true := bne_iff_ne.2 he
      have HNE := zh he
      clear he
      have x1 := cC HS4 0 0
      have x2 := cC HS4 0 1
      have x3 := cF HS4 0 0
      have x4 := cF HS4 0 1
      go_wp2
      have HS5 : Hid (St w [⟨w.heap.size, #[.slice none 0 0, .slice none 0 0], 29⟩] _) := zh (St.set (St.set (HS4.out) 0 rfl 0 _) 0 rfl 1 _)
      refine bodyPost_ret (a2s rfl _ _ _ rfl (HS5.out.blk 0 rfl)) rfl ?_
      exact ⟨.slice none 0 0, .slice none 0 0, [], [], i, er4, rfl, a8d _, a8k _, .inr (.inr (.inl ⟨HY.out, HX.out, rfl, rfl, s, ⟨hs1, hs4⟩, HP.out, hin, HNE.out, HR4.out, HE.out⟩)), HS5.out.below⟩
     have hie : i = l.length := by omega
     rw [hie] at HE ⊢
     have f1 : decide (((l.length : Nat) : Int) < (l.length : Int)) = false := decide_eq_false (by omega)
     clear hie hi hin
     go_wp2
     go_roundw
     case rel => exact ⟨s + 1, by omega, by omega, by go_num, (fun t h1 h2 => (Nat.lt_or_ge t s).elim (HP.out t h1) (fun h => (show s = t by omega) ▸ (fun j hj => HE.out j hj))), HS.out⟩
     case measure => simp [intOf]; omega
   have f0 : decide (((s : Nat) : Int) <= 4) = false := decide_eq_false (by omega)
   have f9 : decide (s <= 4) = false := decide_eq_false hs4
   have HO := zh (passes_iff.1 fun t h1 h2 => HP.out t h1 (by omega))
   have HPP := zh (fun t h1 (h2 : t <= 4) => HP.out t h1 (by omega))
   clear HP hs1 hs5 hs4
   go_wp2
   have HS4 := aL HS #[.slice none 0 0, .slice none 0 0] 29 wr.heap.size
   obtain ⟨W5, rfl⟩ : ∃ W5, W5 = wr := ⟨_, rfl⟩
   go_loopw [11] (fun k_ wr => ∃ (k : Nat) (vr : Value), k <= cl.length /\ k_ = .int .i64 k /\ Hid (Grows wr w.heap.size 3 1 vr k (flat zE ((cl.map (·.rank)).take k))) /\ Hid (St w [⟨W5.heap.size, #[vr, .slice none 0 0], 29⟩, ⟨w.heap.size, #[.slice none 0 0, .slice none 0 0], 29⟩] wr)) (fun k_ _ => cl.length - (intOf k_).toNat)
   case atStart => exact ⟨0, .slice none 0 0, Nat.zero_le _, rfl, World.ownsRow_nil _ _ _ _, HS4.out⟩
   case round =>
    clear HS HS4
    obtain ⟨k, vr, hk, rfl, HG, HS⟩ := hrel
    by_cases hkn : k < cl.length
    ·obtain ⟨b1, o1, x, rfl, hb1, hq, hx⟩ := HC.out.at_ hkn
     have HXX := zh hx
     have htk : (cl.map (·.rank)).take (k + 1) = (cl.map (·.rank)).take k ++ [x.rank] := a4e (by rw [List.getElem?_map, hq]; rfl)
     have HTK := zh htk
     obtain ⟨RR, hRR⟩ : ∃ RR, RR = (cl.map (·.rank)).take k := ⟨_, rfl⟩
     rw [<- hRR] at HG HTK
     have hrl : RR.length = k := by rw [hRR, List.length_take, List.length_map]; omega
     have HRL := zh hrl
     clear hq hx htk hRR hrl
     obtain ⟨Av, cv, hvr, _, _⟩ := (Slc.of_own b9k HG.out HRL.out).slice
     have HVR := zh hvr
     clear hvr
     have f1 : (((k : Nat)) : Int) < (cl.length : Int) := by omega
     have f2 : decide (((k : Nat) : Int) < (cl.length : Int)) = true := decide_eq_true f1
     have f3 : (0 : Int) <= ((k : Nat) : Int) := by omega
     have i6 : IntKind.i64.wrap ((k : Int) + 1) = ((k + 1 : Nat) : Int) := by have := L1.out; rw [IntWalk.i64_in _ (by omega)]; rfl
     go_wp2
     refine a0e 8 [eQ (.pointer (some ⟨W5.heap.size, 0, none⟩)), eQ (vr), eQ (.slice (some ⟨b1, o1, none⟩) cl.length c1), eQ (.int .i64 (k : Nat)), eQ (.pointer (some ⟨b1, o1 + k * 5, none⟩)), eQ (.pointer (some ⟨b1, o1 + k * 5 + 1, none⟩)), eQ (.int .i64 x.rank), fun ww vv => ∃ g, vv = .slice (some ⟨g, 0, none⟩) 1 1 /\ wr.heap.size <= g /\ Blk ww g #[.int .i64 x.rank] 3] rfl (by kernel_rfl) (by kernel_rfl) (by kernel_rfl) ⟨stE, stE, stE, stE, stE, stE, stE, fun _ _ _ ⟨g, e, hg, h⟩ hb => ⟨g, e, hg, h.below hb h.lt⟩, trivial⟩ ?_ ?_
     refine ⟨?_, ?_, ?_, ?_, ?_, ?_, ?_, ?_, trivial⟩ <;> (intro xx af wv hbx hev hev0 hd; have H := SH.mk hev hev0 hd; clear hev hev0 hd)
     ·have e10 := H.i 10; clear H; go_wp2; exact sQ rfl
     ·have e55 := H.r 0 55; clear H; have hs1 := zh (HS.out.call hbx); have y0 := cC hs1 0 0; go_wp2; exact sQ rfl
     ·have e0 := H.i 0; clear H; go_wp2; exact sQ rfl
     ·have e11 := H.i 11; clear H; go_wp2; exact sQ rfl
     ·have e57 := H.r 2 57; have e58 := H.r 3 58; clear H; go_wp2; exact sQ rfl
     ·have e59 := H.r 4 59; clear H; go_wp2; exact sQ rfl
     ·have e60 := H.r 5 60; clear H; have hs1 := zh (HS.out.call hbx); have y0 := HXX.out _ hs1.out.below 1 _ rfl; go_wp2; exact sQ rfl
     ·have e61 := H.r 6 61; clear H; go_wp2; exact StepQ.mk _ (Ext.alloc (Below.refl _ _) _) ⟨_, rfl, hbx.size, Blk.new _ _ _⟩
     intro xx w5 hb9 hv
     obtain ⟨g5, hv7, hlg7, hB7⟩ := hv 7 (by decide)
     simp only [List.take, List.drop, a0g, Act.put]
     simp only [vQ hv 0, vQ hv 1, vQ hv 2, vQ hv 3, vQ hv 4, vQ hv 5, vQ hv 6, hv7]
     clear hv hv7
     have HS5 := zh (HS.out.fill hb9 hlg7 hB7)
     clear hlg7 hB7
     have HG_5 := zh (HG.out.below hb9)
     clear HG hb9 HS
     have hsz := HS5.out.below.size
     have hblk := HS5.out.blk 0 rfl
     have hgr : World.ownsRow _ w.heap.size 3 1 vr k (flat zE RR) := HG_5.out
     go_wp2_with (at_builtin; refine wpList_append_own _ rfl _ _ 26 rfl w.heap.size 3 ii _ 1 8 Tryz.underlying26 hii HZ0.out hz1 hz2 rfl (by decide) vr k (flat zE RR) (by simp [Act.eval]) hgr ⟨g5, 0, none⟩ 1 1 (zE x.rank) (by simp [Act.eval]) rfl (b9g hblk rfl) (fun u hu => by rw [List.mem_singleton.1 hu]; rfl) (by have := L1.out; unfold maxLen; omega) (by have := L1.out; omega) hsz ?_)
     intro v9 w9 hown9 hg9 _
     have hfrm := World.ownsRow.form hown9 (Nat.succ_pos _)
     have HSA := zh ((HS5.out.sub (List.sublist_cons_self ..)).turnedO hg9 (fun q hq => (World.ownsRow.lt hgr q hq).1) (fun x hx => by rcases List.mem_cons.1 hx with rfl | hx; exact a2y hgr (HS5.out.blk 1 rfl) (by decide); rw [List.mem_singleton.1 hx]; exact a2y hgr (HS5.out.blk 2 rfl) (by decide)))
     obtain ⟨g9, c9, rfl, _, _⟩ := hfrm
     have HG9 := zh hown9
     clear hown9 hg9 hgr hblk hsz HS5 HG_5
     have x1 := cC HSA 0 0
     have x2 := cF HSA 0 0
     have x3 := cN HSA 0 1
     have x4 := cN HSA 1 0
     go_wp2
     have HSA6 : Hid (St w [⟨W5.heap.size, #[.slice (some ⟨g9, 0, none⟩) (k + 1) c9, .slice none 0 0], 29⟩, _] _) := zh (St.set (HSA.out) 0 rfl 0 _)
     go_roundw
     case rel => exact ⟨k + 1, .slice (some ⟨g9, 0, none⟩) (k + 1) c9, by omega, by go_num, by show Grows _ _ _ _ _ _ _; rw [HTK.out, a1x]; exact (a1r HG9.out (HSA.out.blk 0 rfl) (by decide) _), HSA6.out⟩
     case measure => simp [intOf]; omega
    have hke : k = cl.length := by omega
    rw [hke] at HG ⊢
    have f1 : decide (((cl.length : Nat) : Int) < (cl.length : Int)) = false := decide_eq_false (by omega)
    clear hke hk hkn
    go_wp2
    have HR0 : Hid (Ranks cl l 0 ((cl.map (·.rank)).take cl.length)) := zh (by rw [List.take_of_length_le (by rw [List.length_map]; exact Nat.le_refl _)]; exact Ranks.start)
    go_loopw [12] (fun k_ wr => ∃ (k : Nat) (R : List Int), k <= l.length /\ k_ = .int .i64 k /\ Hid (Ranks cl l k R) /\ Hid (Grows wr w.heap.size 3 1 vr cl.length (R.map (.int .i64))) /\ Hid (St w [⟨W5.heap.size, #[vr, .slice none 0 0], 29⟩, ⟨w.heap.size, #[.slice none 0 0, .slice none 0 0], 29⟩] wr)) (fun k_ _ => l.length - (intOf k_).toNat)
    case atStart => exact ⟨0, _, Nat.zero_le _, rfl, HR0.out, by rw [<- b7g]; exact HG.out, HS.out⟩
    case round =>
     clear HR0 HG HS
     obtain ⟨k, R, hk, rfl, HR, HG, HS⟩ := hrel
     by_cases hkl : k < l.length
     ·obtain ⟨b, o, x, u, rfl, hbb, hq, _, hx⟩ := HV.out.at_ hkl
      unfold CRow.enc at hx
      dsimp only at hx
      have HXX := zh hx
      have HQ := zh hq
      clear hq hx
      have f1 : (((k : Nat)) : Int) < (l.length : Int) := by omega
      have f2 : decide (((k : Nat) : Int) < (l.length : Int)) = true := decide_eq_true f1
      have f3 : (0 : Int) <= ((k : Nat) : Int) := by omega
      have i6 : IntKind.i64.wrap ((k : Int) + 1) = ((k + 1 : Nat) : Int) := by have := L2.out; rw [IntWalk.i64_in _ (by omega)]; rfl
      by_cases hk4 : x.kind = 4
      ·have d5 : (x.kind != 4) = false := by rw [hk4]; rfl
       have HK4 := zh hk4
       clear hk4
       have x1 := HXX.out _ HS.out.below 0 _ rfl
       rw [Nat.add_zero] at x1
       have x2 := HXX.out _ HS.out.below 1 _ rfl
       go_wp2_with fail
       refine (DD.out HO.out x.name _ HS.out.below _ HS.out).mono ?_
       rintro e w5 ⟨g5, D5, rfl, hst5, HD5, hb5⟩
       have HG5 := zh (show Grows w5 w.heap.size 3 1 vr cl.length (R.map (.int .i64)) from Grows.below HG.out hb5)
       clear hb5
       have HS5 : Hid (St w [⟨g5, (rowE (.bool) cl.length D5), 4⟩, ⟨W5.heap.size, #[vr, .slice none 0 0], 29⟩, ⟨w.heap.size, #[.slice none 0 0, .slice none 0 0], 29⟩] w5) := zh hst5
       clear hst5 HS x1 x2
       go_wp2
       obtain ⟨DL, hDL⟩ : ∃ DL : List Nat, DL = (List.range cl.length).filter D5 := ⟨_, rfl⟩
       go_loopw [14] (fun i_ wr => ∃ (i : Nat) (R2 : List Int), i <= cl.length /\ i_ = .int .i64 i /\ Hid (RnkJ R ((List.range i).filter D5) ((List.range i).filter D5).length R2) /\ Hid (Grows wr w.heap.size 3 1 vr cl.length (R2.map (.int .i64))) /\ Hid (St w [⟨g5, rowE .bool cl.length D5, 4⟩, ⟨W5.heap.size, #[vr, .slice none 0 0], 29⟩, ⟨w.heap.size, #[.slice none 0 0, .slice none 0 0], 29⟩] wr)) (fun i_ _ => cl.length - (intOf i_).toNat)
       case atStart => exact ⟨0, R, Nat.zero_le _, rfl, RnkJ.start R _, HG5.out, HS5.out⟩
       case round =>
        clear HG5 HG HS5
        obtain ⟨i, R2, hi, rfl, HJ, HG, HS⟩ := hrel
        by_cases hin : i < cl.length
        ·have m1 : (((i : Nat)) : Int) < (cl.length : Int) := by omega
         have m2 : decide (((i : Nat) : Int) < (cl.length : Int)) = true := decide_eq_true m1
         have m3 : (0 : Int) <= ((i : Nat) : Int) := by omega
         have i7 : IntKind.i64.wrap ((i : Int) + 1) = ((i + 1 : Nat) : Int) := by have := L1.out; rw [IntWalk.i64_in _ (by omega)]; rfl
         cases hd : D5 i
         ·have HFE : Hid ((List.range (i + 1)).filter D5 = (List.range i).filter D5) := zh (by rw [a0w, hd]; simp)
          have x3 := HS.out.cellE 0 rfl hin
          rw [hd] at x3
          go_wp2
          go_roundw
          case rel => exact ⟨i + 1, R2, by omega, by go_num, by show RnkJ _ _ _ _; rw [HFE.out]; exact HJ.out, HG.out, HS.out⟩
          case measure => simp [intOf]; omega
         have HFE : Hid ((List.range (i + 1)).filter D5 = (List.range i).filter D5 ++ [i]) := zh (by rw [a0w, hd]; simp)
         obtain ⟨gr, cr, rfl, hgr1, hgr2⟩ := World.ownsRow.form HG.out (show 0 < cl.length by omega)
         have hrl : R2.length = cl.length := HJ.out.1.trans HR.out.1
         obtain ⟨a, ha⟩ : ∃ a, R2[i]? = some a := ⟨_, List.getElem?_eq_getElem (by omega)⟩
         have HRA := zh ha
         have HRN := zh hrl
         clear hrl ha
         obtain ⟨csr, hBr⟩ := b8p HG.out
         have HRC : Hid (∀ w', Below wr.heap.size wr w' -> ∀ (j : Nat) (y : Value), [Value.int .i64 a][j]? = some y -> w'.cell? ⟨gr, i + j, none⟩ = some y) := zh (a2n fun w' hw => by rw [World.ownsRow.cellAt (Grows.below HG.out hw) i (by omega), List.getElem?_map, HRA.out]; rfl)
         have HBR := zh hBr
         clear hBr
         have x3 := HS.out.cellE 0 rfl hin
         rw [hd] at x3
         go_wp2
         clear x3
         refine a0c 10 [.pointer (some ⟨W5.heap.size, 0, none⟩), .slice (some ⟨gr, 0, none⟩) cl.length cr, .int .i64 (i : Nat), .pointer (some ⟨W5.heap.size, 0, none⟩), .slice (some ⟨gr, 0, none⟩) cl.length cr, .int .i64 (i : Nat), .pointer (some ⟨gr, i, none⟩), .int .i64 a, .int .i64 (max a 4), .pointer (some ⟨gr, i, none⟩)] rfl (by kernel_rfl) (by kernel_rfl) (by kernel_rfl) ?_ ?_
         refine ⟨?_, ?_, ?_, ?_, ?_, ?_, ?_, ?_, ?_, ?_, trivial⟩ <;> (intro xx af wv hbx hev hev0 hd; have H := SH.mk hev hev0 hd; clear hev hev0 hd)
         ·have e10 := H.i 10; clear H; go_wp2; exact sQ rfl
         ·have e95 := H.r 0 95; clear H; have hs1 := zh (HS.out.call hbx); have y0 := cC hs1 1 0; go_wp2; exact sQ rfl
         ·have e14 := H.i 14; clear H; go_wp2; exact sQ rfl
         ·have e10 := H.i 10; clear H; go_wp2; exact sQ rfl
         ·have e98 := H.r 3 98; clear H; have hs1 := zh (HS.out.call hbx); have y0 := cC hs1 1 0; go_wp2; exact sQ rfl
         ·have e14 := H.i 14; clear H; go_wp2; exact sQ rfl
         ·have e99 := H.r 4 99; have e100 := H.r 5 100; clear H; go_wp2; exact sQ rfl
         ·have e101 := H.r 6 101; clear H; have hs1 := zh (HS.out.call hbx); have y0 := HRC.out _ hbx 0 _ rfl; rw [Nat.add_zero] at y0; go_wp2; exact sQ rfl
         ·have e102 := H.r 7 102; clear H; go_wp2; exact sQ rfl
         ·have e96 := H.r 1 96; have e97 := H.r 2 97; clear H; go_wp2; exact sQ rfl
         intro xx w6 hb9 hv
         have HB29 := zh hb9
         simp only [List.take, List.drop, a0g, Act.put]
         simp only [vQ hv 0, vQ hv 1, vQ hv 2, vQ hv 3, vQ hv 4, vQ hv 5, vQ hv 6, vQ hv 7, vQ hv 8, vQ hv 9]
         clear hv
         have HS6 := zh (HS.out.call hb9)
         clear hb9 HS
         have hG9 : World.ownsRow w6 w.heap.size 3 1 (.slice (some ⟨gr, 0, none⟩) cl.length cr) cl.length (R2.map (.int .i64)) := Grows.below HG.out HB29.out
         have y1 := World.ownsRow.frozenAt hG9 i
         have y2 : w6.cell? ⟨gr, i, none⟩ = some (.int .i64 a) := by rw [World.ownsRow.cellAt hG9 i (by omega), List.getElem?_map, HRA.out]; rfl
         obtain ⟨hG8, hgr8⟩ := World.ownsRow.stored hG9 i (.int .i64 (max a 4))
         obtain ⟨csr9, hBr9⟩ := b8p hG9
         have HSA := zh (HS6.out.turnedR hgr8 hgr1 (fun x hx e => by have h9 := (HS6.out.ok x hx).1; rw [<- (show gr = x.g from e)] at h9; unfold Blk at h9 hBr9; rw [hBr9] at h9; injection (Option.some.inj h9) with _ h8; rcases List.mem_cons.1 hx with rfl | hx; exact absurd h8 (by simp); rcases List.mem_cons.1 hx with rfl | hx; exact absurd h8 (by simp); rw [List.mem_singleton.1 hx] at h8; exact absurd h8 (by simp)))
         rw [c1b] at hG8
         have HG8 := zh hG8
         clear hG9 hG8 hgr8 hBr9
         go_wp2
         go_roundw
         case rel => exact ⟨i + 1, R2.set i (max a 4), by omega, by go_num, by show RnkJ _ _ _ _; rw [HFE.out]; exact rnk_step HJ.out HRA.out, HG8.out, HSA.out⟩
         case measure => simp [intOf]; omega
        have hie : i = cl.length := by omega
        rw [hie] at HJ ⊢
        have m1 : decide (((cl.length : Nat) : Int) < (cl.length : Int)) = false := decide_eq_false (by omega)
        clear hie hi hin
        go_wp2
        go_roundw
        case rel => exact ⟨k + 1, R2, by omega, by go_num, HR.out.sub HQ.out HK4.out (fun i => ⟨fun h => (HD5.out i).1 (List.mem_filter.1 h).2, fun h => List.mem_filter.2 ⟨List.mem_range.2 h.lt, (HD5.out i).2 h⟩⟩) HJ.out, HG.out, HS.out.sub (List.sublist_cons_self ..)⟩
        case measure => simp [intOf]; omega
      have d5 : (x.kind != 4) = true := bne_iff_ne.2 hk4
      have HK4 := zh hk4
      clear hk4
      have x1 := HXX.out _ HS.out.below 0 _ rfl
      rw [Nat.add_zero] at x1
      go_wp2
      go_roundw
      case rel => exact ⟨k + 1, R, by omega, by go_num, HR.out.skip HQ.out HK4.out, HG.out, HS.out⟩
      case measure => simp [intOf]; omega
     have hke : k = l.length := by omega
     rw [hke] at HR ⊢
     have f1 : decide (((l.length : Nat) : Int) < (l.length : Int)) = false := decide_eq_false (by omega)
     clear hke hk hkl
     have hp1 := zh (HS.out.lt 0 rfl)
     have hp2 := zh (HS.out.lt 1 rfl)
     obtain ⟨A9, c9, hvr, _, _⟩ := (Slc.of_own b9k (by rw [b7g]; exact HG.out) (HR.out.1)).slice
     subst hvr
     go_wp2_with fail
     refine (DA.out HO.out _ HS.out.below).mono ?_
     rintro e w5 ⟨va5, AA5, rfl, hal5, hag5, hb5⟩
     have HS5 := zh (HS.out.call hb5)
     have HAL := zh hal5
     have HAG := zh hag5
     clear hal5 hag5
     obtain ⟨Av, cv, rfl, _, _⟩ := NstL.slice HAL.out.toL
     have HG_5 := zh (HG.out.below hb5)
     clear HG hb5 HS
     have x1 := cC HS5 0 1
     have x2 := cC HS5 0 0
     have x3 := cC HS5 1 0
     have x4 := cC HS5 1 1
     have x5 := cF HS5 0 1
     have x6 := cF HS5 1 0
     have x7 := cF HS5 1 1
     have x8 := cN HS5 0 1
     have x9 := cN HS5 1 0
     have x10 := cN HS5 1 0
     have x11 := cN HS5 0 1
     go_wp2
     have HS6 : Hid (St w [⟨W5.heap.size, #[.slice A9 R.length c9, .slice Av AA5.length cv], 29⟩, ⟨w.heap.size, #[.slice A9 R.length c9, .slice Av AA5.length cv], 29⟩] _) := zh (St.set (St.set (St.set (HS5.out) 0 rfl 1 _) 1 rfl 0 _) 1 rfl 1 _)
     refine bodyPost_ret (a2s rfl _ _ _ rfl (HS6.out.blk 1 rfl)) rfl ?_
     refine ⟨_, _, R, AA5, 0, 0, rfl, Slc.of_own b9k (by rw [b7g]; exact a1r (t := 29) (e := 3) (a1r (t := 29) (e := 3) (a1r (t := 29) (e := 3) HG_5.out (HS5.out.blk 0 rfl) (by decide) _) ((St.set HS5.out 0 rfl 1 _).blk 1 rfl) (by decide) _) ((St.set (St.set HS5.out 0 rfl 1 _) 1 rfl 0 _).blk 1 rfl) (by decide) _) HR.out.1, (((HAL.out.far hp1.out _).far hp2.out _).far hp2.out _).toL, .inr (.inr (.inr ⟨HY.out, HX.out, HPP.out, rfl, rfl, HR.out, HAG.out⟩)), HS6.out.below⟩
 have x1 := cC HS3 0 0
 have x2 := cC HS3 0 1
 have x3 := cF HS3 0 0
 have x4 := cF HS3 0 1
 go_wp2
 have HS4 : Hid (St w [⟨w.heap.size, #[.slice none 0 0, .slice none 0 0], 29⟩] _) := zh (St.set (St.set (HS3.out) 0 rfl 0 _) 0 rfl 1 _)
 refine bodyPost_ret (a2s rfl _ _ _ rfl (HS4.out.blk 0 rfl)) rfl ?_
 exact ⟨.slice none 0 0, .slice none 0 0, [], [], 0, ck, rfl, a8d _, a8k _, .inl ⟨by rw [HCK.out]; exact HX.out, rfl, rfl, rfl, HCK.out.symm⟩, HS4.out.below⟩
end Go.Proofs.YtgdhpghfojccaaaGreatDoor
