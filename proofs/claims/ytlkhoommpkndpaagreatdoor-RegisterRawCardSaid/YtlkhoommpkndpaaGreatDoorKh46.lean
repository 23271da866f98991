/-
Part 46 of the base.
-/
import Derived.Test.YtlkhoommpkndpaaGreatDoorKh39
import Derived.Test.YtlkhoommpkndpaaGreatDoorKh36
set_option maxRecDepth 100000
set_option maxHeartbeats 4000000
namespace Go.Proofs.YtlkhoommpkndpaaGreatDoor
open Go.RowKit
def intC (n : Int) : List Value := [.int .i64 n]
theorem b1p (n : Int) : (intC n).length = 1 := rfl
theorem b8k (n : Int) : ∀ u ∈ intC n, u.oneCell' = true := by
 intro u hu
 unfold intC at hu
 simp only [List.mem_cons, List.mem_nil_iff, or_false] at hu
 rcases hu with rfl; rfl
abbrev c0b (w : World) (v : Value) (l : List Int) : Prop := Slc intC 1 w v l
theorem c4w : (Tryz.prog.info? 3).map (fun i => (i.zero, i.size, i.bytes)) = some (some (.int .i64 0), 1, 8) := by kernel_rfl
def agB (es : Int) (x : Ent) : Bool := (x.p.est == es) && (x.st != 7)
def agF (es : Int) (s : List Int × Int) (x : Ent) : List Int × Int := (if agB es x = true then s.1 ++ [s.2] else s.1, s.2 + 1)
def agK (l : List Ent) (es : Int) (k : Nat) : List Int := ((l.take k).foldl (agF es) ([], 0)).1
theorem agN {l : List Ent} {es : Int} : ∀ k : Nat, k <= l.length -> ((l.take k).foldl (agF es) ([], 0)).2 = (k : Int)
 | 0, _ => rfl
 | k + 1, h => by
  have hx : l[k]? = some (l[k]'(by omega)) := List.getElem?_eq_getElem _
  rw [c3j hx]
  show ((l.take k).foldl (agF es) ([], 0)).2 + 1 = _
  rw [agN k (by omega)]
  omega
theorem c3u {l : List Ent} {es : Int} {k : Nat} {x : Ent} (h : l[k]? = some x) (hb : agB es x = true) : agK l es (k + 1) = agK l es k ++ [(k : Int)] := by
 have hk := (List.getElem?_eq_some_iff.1 h).1
 unfold agK
 rw [c3j h]
 show (if agB es x = true then _ ++ [((l.take k).foldl (agF es) ([], 0)).2] else _) = _
 rw [if_pos hb, agN k (by omega)]
theorem c9m {l : List Ent} {es : Int} {k : Nat} {x : Ent} (h : l[k]? = some x) (hb : agB es x = false) : agK l es (k + 1) = agK l es k := by
 unfold agK
 rw [c3j h]
 show (if agB es x = true then _ else _) = _
 rw [hb]; rfl
theorem c3v {l : List Ent} {es : Int} : ∀ k : Nat, k <= l.length -> (agK l es k).length <= k
 | 0, _ => Nat.le_refl _
 | k + 1, h => by
  have hx : l[k]? = some (l[k]'(by omega)) := List.getElem?_eq_getElem _
  have hi := c3v (l := l) (es := es) k (by omega)
  cases hb : agB es (l[k]'(by omega))
  ·rw [c9m hx hb]; omega
  rw [c3u hx hb, List.length_append]
  have : ([(k : Int)] : List Int).length = 1 := rfl
  omega
theorem b3m (cut bar day es : Int) (v : Value) (l : List Ent) (w : World) (h : a5f w v l) (hl : l.length <= 1000) :
  Calls Tryz.prog 39 #[.agg #[.int .i64 cut, .int .i64 bar, .int .i64 day, v], .int .i64 es] w fun e w' => ∃ v', e = .returned v' /\ Grows w' w.heap.size 3 1 (v') (agK l es l.length).length (flat intC (agK l es l.length)) /\ Below w.heap.size w w' := by
 obtain ⟨i0, hi0, hz0, hz1, hz2⟩ := info_parts c4w
 have HI := zh hi0
 have HL := zh hl
 have H := zh h
 obtain ⟨AA, cA, rfl, _, _⟩ := h.slice
 clear h hi0 hl
 go_enter Tryz.func39, Tryz.ntmps39
 have HS := zh (St.start w)
 go_wp2
 go_loopw [5, 11] (fun out i wr => ∃ k : Nat, k <= l.length /\ i = .int .i64 k /\ Hid (Grows wr w.heap.size 3 1 (out) (agK l es k).length (flat intC (agK l es k))) /\ Hid (St w [⟨w.heap.size, #[.int .i64 cut, .int .i64 bar, .int .i64 day, .slice AA l.length cA], 24⟩] wr)) (fun _ i _ => l.length - (intOf i).toNat)
 case atStart => exact ⟨0, Nat.zero_le _, rfl, ⟨rfl, .inl ⟨rfl, rfl⟩⟩, (St.alloc (HS.out) #[.int .i64 cut, .int .i64 bar, .int .i64 day, .slice AA l.length cA] 24 (w.heap.size) (by simp))⟩
 case round =>
  obtain ⟨k, hk, rfl, HG, HS⟩ := hrel
  by_cases hlt : k < l.length
  ·obtain ⟨b, o, x, rfl, hbb, hq, hx⟩ := H.out.at_ hlt
   have HX := zh hx
   have hgr := HG.out
   obtain ⟨A1, c1, hv1, _, _⟩ := (Slc.of_own b1p hgr (by simp)).slice
   subst hv1
   have hln := c3v (l := l) (es := es) k hk
   have HYE := zh (fun hb => c3u (es := es) hq hb)
   have HNO := zh (fun hb => c9m (es := es) hq hb)
   have hdef : agB es x = ((x.p.est == es) && (x.st != 7)) := rfl
   generalize agK l es k = out at *
   generalize agB es x = bb at *
   have hb2 : k <= 1000 := Nat.le_trans hk HL.out
   have hln2 := Nat.le_trans hln hb2
   have HLN := zh hln2
   have e0 : (0 : Int) <= ((k : Nat) : Int) := by omega
   have e1 : ((k : Nat) : Int) < (l.length : Int) := by omega
   have e2 : decide (((k : Nat) : Int) < (l.length : Int)) = true := decide_eq_true e1
   have i1 : IntKind.i64.wrap ((k : Int) + 1) = ((k + 1 : Nat) : Int) := by rw [IntWalk.i64_in _ (by omega)]; rfl
   clear hx hq hln hln2 hb2 hgr
   have HT0 := zh (St.start wr)
   go_wp2_with (first | (refine wpList_load_mid rfl _ _ rfl (b) (o + k * 30) rfl (entM x.p x.st x.late x.cl x.fl x.ad x.ce x.acq x.chg) _ (fun j v hv => (fun (W : World) (hb : Below wr.heap.size wr W) => HX.out W (Ext.trans HS.out.below hb)) _ (HT0.out).below j v hv) Tryz.underlying63 rfl a0m ?_) | (refine a0e rfl _ _ _ rfl (St.alloc (HT0.out) entO 63 (wr.heap.size) (by simp)) 0 rfl (entM x.p x.st x.late x.cl x.fl x.ad x.ce x.acq x.chg) rfl rfl rfl a0m rfl ?_))
   intro w2 hS2
   have HT2 : Hid (St wr [⟨wr.heap.size, (entC x), 63⟩] w2) := zh hS2
   clear hS2 HT0
   go_upto_region 5 with fail
   have hbel := HT2.out.below
   have HS1 := zh (HS.out.fill hbel (HT2.out.ge 0 rfl) (HT2.out.blk 0 rfl))
   have HG1 := zh (Grows.below HG.out hbel)
   clear hbel HS HG HT2
   cases h1 : (x.p.est == es)
   ·have hbt : bb = false := by rw [hdef, h1]; rfl
    clear hdef
    have x1 := cC HS1 0 1
    go_wp2
    have HS3 := zh HS1.out
    go_roundw
    case rel => exact ⟨k + 1, by omega, by go_num, (by rw [HNO.out hbt]; exact HG1.out), HS3.out.sub (List.Sublist.cons _ (List.Sublist.refl _))⟩
    case measure => simp [intOf]; omega
   cases h2 : (x.st != 7)
   ·have hbt : bb = false := by rw [hdef, h1, h2]; rfl
    clear hdef
    have x1 := cC HS1 0 1
    have x2 := cC HS1 0 14
    go_wp2
    have HS3 := zh HS1.out
    go_roundw
    case rel => exact ⟨k + 1, by omega, by go_num, (by rw [HNO.out hbt]; exact HG1.out), HS3.out.sub (List.Sublist.cons _ (List.Sublist.refl _))⟩
    case measure => simp [intOf]; omega
   have hbt : bb = true := by rw [hdef, h1, h2]; rfl
   clear hdef
   have x1 := cC HS1 0 1
   have x2 := cC HS1 0 14
   have x3 := HS1.out.lt 0 rfl
   have x4 : ¬ wr.heap.size = w2.heap.size := by omega
   have x5 : ¬ w2.heap.size = wr.heap.size := by omega
   go_wp2_with (at_builtin; refine a5g _ rfl _ _ 80 rfl w.heap.size 3 i0 _ 1 8 Tryz.underlying80 HI.out hz0 hz1 hz2 rfl (by decide) b1p (.slice A1 out.length c1) out.length out (by simp [Act.eval]) (HG1.out.below (Ext.alloc (Below.refl w2.heap.size w2) (Obj.cells #[.int .i64 (k : Nat)] 3))) (k : Int) _ _ ((St.alloc (HS1.out) #[.int .i64 (k : Nat)] 3 (w2.heap.size) (by simp)).blk 0 rfl) rfl (by simp [Act.eval]) (b8k _) (by have := HLN.out; unfold maxLen; omega) (by have := HLN.out; omega) ((St.alloc (HS1.out) #[.int .i64 (k : Nat)] 3 (w2.heap.size) (by simp)).below.size) ?_)
   intro v2 w9 hown2 hgb2
   have hst := St.sub ((St.alloc (HS1.out) #[.int .i64 (k : Nat)] 3 (w2.heap.size) (by simp))) (List.Sublist.cons _ (List.Sublist.cons _ (List.Sublist.refl _)))
   have HS9 : Hid (St w [⟨w.heap.size, #[.int .i64 cut, .int .i64 bar, .int .i64 day, .slice (some ⟨b, o, none⟩) l.length cA], 24⟩] w9) := zh (St.grownRow hst (by intro r hr; obtain rfl : r = _ := (by simpa using hr); exact (show (24 : TypeId) ≠ 3 by decide)) (Nat.le_refl _) (HG1.out.below (Ext.alloc (Below.refl w2.heap.size w2) (Obj.cells #[.int .i64 (k : Nat)] 3))) hgb2)
   rw [<- HYE.out hbt] at hown2
   have hlen : out.length + 1 = (agK l es (k + 1)).length := by rw [HYE.out hbt]; simp
   rw [hlen] at hown2
   have G9 := zh hown2
   clear hst hgb2 hown2 hlen HS1 HG1 HYE HNO hbt x1 x2 x3 x4 x5
   go_wp2
   have HS3 := zh HS9.out
   go_roundw
   case rel => exact ⟨k + 1, by omega, by go_num, G9.out, HS3.out.sub (List.Sublist.refl _)⟩
   case measure => simp [intOf]; omega
  obtain rfl : k = l.length := by omega
  have e2 : decide (((l.length : Nat) : Int) < (l.length : Int)) = false := decide_eq_false (by omega)
  go_wp2
  go_ret
  have HS2 := zh HS.out
  exact ⟨_, rfl, HG.out, HS2.out.below⟩
theorem c0q (cut bar day es : Int) (v : Value) (l : List Ent) (w : World) (h : a5f w v l) (hl : l.length <= 1000) :
  Calls Tryz.prog 40 #[.agg #[.int .i64 cut, .int .i64 bar, .int .i64 day, v], .int .i64 es] w fun e w' => ∃ v', e = .returned v' /\ Grows w' w.heap.size 3 1 (v') (agK l es l.length).length (flat intC (agK l es l.length)) /\ Below w.heap.size w w' := by
 obtain ⟨i0, hi0, hz0, hz1, hz2⟩ := info_parts c4w
 have HI := zh hi0
 have HL := zh hl
 have H := zh h
 obtain ⟨AA, cA, rfl, _, _⟩ := h.slice
 clear h hi0 hl
 go_enter Tryz.func40, Tryz.ntmps40
 have HS := zh (St.start w)
 go_wp2
 go_loopw [5, 6] (fun out i wr => ∃ k : Nat, k <= l.length /\ i = .int .i64 k /\ Hid (Grows wr w.heap.size 3 1 (out) (agK l es k).length (flat intC (agK l es k))) /\ Hid (St w [⟨w.heap.size, #[.int .i64 cut, .int .i64 bar, .int .i64 day, .slice AA l.length cA], 24⟩] wr)) (fun _ i _ => l.length - (intOf i).toNat)
 case atStart => exact ⟨0, Nat.zero_le _, rfl, ⟨rfl, .inl ⟨rfl, rfl⟩⟩, (St.alloc (HS.out) #[.int .i64 cut, .int .i64 bar, .int .i64 day, .slice AA l.length cA] 24 (w.heap.size) (by simp))⟩
 case round =>
  obtain ⟨k, hk, rfl, HG, HS⟩ := hrel
  by_cases hlt : k < l.length
  ·obtain ⟨b, o, x, rfl, hbb, hq, hx⟩ := H.out.at_ hlt
   have HX := zh hx
   have hgr := HG.out
   obtain ⟨A1, c1, hv1, _, _⟩ := (Slc.of_own b1p hgr (by simp)).slice
   subst hv1
   have hln := c3v (l := l) (es := es) k hk
   have HYE := zh (fun hb => c3u (es := es) hq hb)
   have HNO := zh (fun hb => c9m (es := es) hq hb)
   have hdef : agB es x = ((x.p.est == es) && (x.st != 7)) := rfl
   generalize agK l es k = out at *
   generalize agB es x = bb at *
   have hb2 : k <= 1000 := Nat.le_trans hk HL.out
   have hln2 := Nat.le_trans hln hb2
   have HLN := zh hln2
   have e0 : (0 : Int) <= ((k : Nat) : Int) := by omega
   have e1 : ((k : Nat) : Int) < (l.length : Int) := by omega
   have e2 : decide (((k : Nat) : Int) < (l.length : Int)) = true := decide_eq_true e1
   have i1 : IntKind.i64.wrap ((k : Int) + 1) = ((k + 1 : Nat) : Int) := by rw [IntWalk.i64_in _ (by omega)]; rfl
   clear hx hq hln hln2 hb2 hgr
   cases h1 : (x.p.est == es)
   ·have hbt : bb = false := by rw [hdef, h1]; rfl
    clear hdef
    have x1 := cC HS 0 3
    have x2 := HX.out _ HS.out.below 1 _ rfl
    go_wp2
    have HS2 := zh HS.out
    go_roundw
    case rel => exact ⟨k + 1, by omega, by go_num, (by rw [HNO.out hbt]; exact HG.out), HS2.out.sub (List.Sublist.refl _)⟩
    case measure => simp [intOf]; omega
   cases h2 : (x.st != 7)
   ·have hbt : bb = false := by rw [hdef, h1, h2]; rfl
    clear hdef
    have x1 := cC HS 0 3
    have x2 := HX.out _ HS.out.below 1 _ rfl
    have x3 := HX.out _ HS.out.below 14 _ rfl
    go_wp2
    have HS2 := zh HS.out
    go_roundw
    case rel => exact ⟨k + 1, by omega, by go_num, (by rw [HNO.out hbt]; exact HG.out), HS2.out.sub (List.Sublist.refl _)⟩
    case measure => simp [intOf]; omega
   have hbt : bb = true := by rw [hdef, h1, h2]; rfl
   clear hdef
   have x1 := cC HS 0 3
   have x2 := HS.out.lt 0 rfl
   have x3 : ¬ w.heap.size = wr.heap.size := by omega
   have x4 : ¬ wr.heap.size = w.heap.size := by omega
   have x5 : b < wr.heap.size := Nat.lt_of_lt_of_le hbb HS.out.below.size
   have x6 : ¬ b = wr.heap.size := by omega
   have x7 := HX.out _ HS.out.below 1 _ rfl
   have x8 := HX.out _ HS.out.below 14 _ rfl
   go_wp2_with (at_builtin; refine a5g _ rfl _ _ 80 rfl w.heap.size 3 i0 _ 1 8 Tryz.underlying80 HI.out hz0 hz1 hz2 rfl (by decide) b1p (.slice A1 out.length c1) out.length out (by simp [Act.eval]) (HG.out.below (Ext.alloc (Below.refl wr.heap.size wr) (Obj.cells #[.int .i64 (k : Nat)] 3))) (k : Int) _ _ ((St.alloc (HS.out) #[.int .i64 (k : Nat)] 3 (wr.heap.size) (by simp)).blk 0 rfl) rfl (by simp [Act.eval]) (b8k _) (by have := HLN.out; unfold maxLen; omega) (by have := HLN.out; omega) ((St.alloc (HS.out) #[.int .i64 (k : Nat)] 3 (wr.heap.size) (by simp)).below.size) ?_)
   intro v2 w9 hown2 hgb2
   have hst := St.sub ((St.alloc (HS.out) #[.int .i64 (k : Nat)] 3 (wr.heap.size) (by simp))) (List.Sublist.cons _ (List.Sublist.refl _))
   have HS9 : Hid (St w [⟨w.heap.size, #[.int .i64 cut, .int .i64 bar, .int .i64 day, .slice (some ⟨b, o, none⟩) l.length cA], 24⟩] w9) := zh (St.grownRow hst (by intro r hr; obtain rfl : r = _ := (by simpa using hr); exact (show (24 : TypeId) ≠ 3 by decide)) (Nat.le_refl _) (HG.out.below (Ext.alloc (Below.refl wr.heap.size wr) (Obj.cells #[.int .i64 (k : Nat)] 3))) hgb2)
   rw [<- HYE.out hbt] at hown2
   have hlen : out.length + 1 = (agK l es (k + 1)).length := by rw [HYE.out hbt]; simp
   rw [hlen] at hown2
   have G9 := zh hown2
   clear hst hgb2 hown2 hlen HS HG HYE HNO hbt x1 x2 x3 x4 x5 x6 x7 x8
   go_wp2
   have HS2 := zh HS9.out
   go_roundw
   case rel => exact ⟨k + 1, by omega, by go_num, G9.out, HS2.out.sub (List.Sublist.refl _)⟩
   case measure => simp [intOf]; omega
  obtain rfl : k = l.length := by omega
  have e2 : decide (((l.length : Nat) : Int) < (l.length : Int)) = false := decide_eq_false (by omega)
  have x1 := cC HS 0 3
  go_wp2
  go_ret
  have HS2 := zh HS.out
  exact ⟨_, rfl, HG.out, HS2.out.below⟩
theorem c0m (v1 v2 : Value) (l : List Int) (w : World) (h1 : c0b w v1 l) (h2 : c0b w v2 l) :
  Calls Tryz.prog 38 #[v1, v2] w fun e w' => e = .returned (.bool true) /\ Below w.heap.size w w' := by
 have H1 := zh h1
 have H2 := zh h2
 obtain ⟨A, c, rfl, hl, hc⟩ := h1.slice
 obtain ⟨A2, c2, rfl, hl2, hc2⟩ := h2.slice
 have q4 : ((l.length : Int) != (l.length : Int)) = false := by simp
 clear h1 h2
 go_enter Tryz.func38, Tryz.ntmps38
 have HS := zh (St.start w)
 go_wp2
 go_loopw [5] (fun i wr => ∃ k : Nat, k <= l.length /\ i = .int .i64 k /\ Hid (St w [] wr)) (fun i _ => l.length - (intOf i).toNat)
 case atStart => exact ⟨0, Nat.zero_le _, rfl, HS.out⟩
 case round =>
  obtain ⟨k, hk, rfl, HS⟩ := hrel
  by_cases hlt : k < l.length
  ·obtain ⟨b, o, x, rfl, hbb, hq, hx⟩ := H1.out.at_ hlt
   obtain ⟨b2, o2, x2, rfl, hbb2, hq2, hx2⟩ := H2.out.at_ hlt
   obtain rfl : x = x2 := by rw [hq] at hq2; exact Option.some.inj hq2
   simp only [Nat.mul_one] at hx hx2
   have HX := zh hx
   have HY := zh hx2
   have q5 : (x != x) = false := by simp
   have i1 : IntKind.i64.wrap ((k : Int) + 1) = ((k + 1 : Nat) : Int) := by rw [IntWalk.i64_in _ (by omega)]; rfl
   have e0 : (0 : Int) <= ((k : Nat) : Int) := by omega
   have e1 : ((k : Nat) : Int) < (l.length : Int) := by omega
   have e2 : decide (((k : Nat) : Int) < (l.length : Int)) = true := decide_eq_true e1
   clear hx hx2 hq hq2
   go_wp2
   refine a1u 8 [.slice (some ⟨b, o, none⟩) l.length c, .int .i64 (k : Nat), .pointer (some ⟨b, o + k, none⟩), .int .i64 x, .slice (some ⟨b2, o2, none⟩) l.length c2, .int .i64 (k : Nat), .pointer (some ⟨b2, o2 + k, none⟩), .int .i64 x] rfl (by kernel_rfl) (by kernel_rfl) (by kernel_rfl) ?_ ?_
   refine ⟨?_, ?_, ?_, ?_, ?_, ?_, ?_, ?_, trivial⟩ <;> (intro xx af wv hbx hev hev0 hd; have H := SH.mk hev hev0 hd; clear hev hev0 hd)
   ·have e0 := H.i 0; clear H; go_wp2; exact sQ rfl
   ·have e5 := H.i 5; clear H; go_wp2; exact sQ rfl
   ·have e17 := H.r 0 17; have e18 := H.r 1 18; clear H; go_wp2; exact sQ rfl
   ·have e19 := H.r 2 19; clear H; have hs1 := zh (HS.out.call hbx); have y0 := HX.out _ hs1.out.below 0 _ rfl; rw [Nat.add_zero] at y0; go_wp2; exact sQ rfl
   ·have e1 := H.i 1; clear H; go_wp2; exact sQ rfl
   ·have e5 := H.i 5; clear H; go_wp2; exact sQ rfl
   ·have e21 := H.r 4 21; have e22 := H.r 5 22; clear H; go_wp2; exact sQ rfl
   ·have e23 := H.r 6 23; clear H; have hs1 := zh (HS.out.call hbx); have y0 := HY.out _ hs1.out.below 0 _ rfl; rw [Nat.add_zero] at y0; go_wp2; exact sQ rfl
   intro xx w2 hb9 hv
   simp only [List.take, List.drop, a0p, Act.put]
   simp only [vQ hv 0, vQ hv 1, vQ hv 2, vQ hv 3, vQ hv 4, vQ hv 5, vQ hv 6, vQ hv 7]
   clear hv
   have HS2 := zh (HS.out.call hb9)
   clear hb9 HS
   go_wp2
   have HS3 := zh HS2.out
   go_roundw
   case rel => exact ⟨k + 1, by omega, by go_num, HS3.out.sub (by simp)⟩
   case measure => simp [intOf]; omega
  obtain rfl : k = l.length := by omega
  have e2 : decide (((l.length : Nat) : Int) < (l.length : Int)) = false := decide_eq_false (by omega)
  go_wp2
  go_ret
  have HS2 := zh HS.out
  exact ⟨rfl, HS2.out.below⟩
end Go.Proofs.YtlkhoommpkndpaaGreatDoor
