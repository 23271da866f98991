/-
Part 42 of the base.
-/
import Derived.Test.YtgdhpghfojccaaaGreatDoorRb41
set_option maxRecDepth 100000
set_option maxHeartbeats 4000000
namespace Go.Proofs.YtgdhpghfojccaaaGreatDoor
open Go.RowKit
def fewC (c : Nmd) : Bool := decide (c.id.length <= 50) && fewR c.am.a c.am.b
def fewK (x : Cls) : Bool := decide (x.list.length <= 40) && (decide (x.name.length <= 50) && (decide (x.other.length <= 50) && fewR x.am.a x.am.b))
def fewN (cl : List Nmd) (l : List Cls) : Bool := (decide (cl.length <= 8) && decide (l.length <= 8)) && (cl.all fewC && l.all fewK)
theorem c5v {α : Type} {f : α -> Bool} {l : List α} {k : Nat} {x : α} (hq : l[k]? = some x) (h : (l.take k).all f = true) (hx : f x = true) : (l.take (k + 1)).all f = true := by rw [a4e hq, List.all_append, h, List.all_cons, hx]; rfl
theorem fewN_c {cl : List Nmd} {l : List Cls} {x : Nmd} (hx : x ∈ cl) (h : fewC x = false) : fewN cl l = false := by
 unfold fewN
 rw [show cl.all fewC = false from List.all_eq_false.2 ⟨x, hx, by rw [h]; decide⟩, Bool.false_and, Bool.and_false]
theorem fewN_k {cl : List Nmd} {l : List Cls} {x : Cls} (hx : x ∈ l) (h : fewK x = false) : fewN cl l = false := by
 unfold fewN
 rw [show l.all fewK = false from List.all_eq_false.2 ⟨x, hx, by rw [h]; decide⟩, Bool.and_false, Bool.and_false]
theorem fewN_y {cl : List Nmd} {l : List Cls} (h1 : cl.length <= 8) (h2 : l.length <= 8) (h3 : (cl.take cl.length).all fewC = true) (h4 : (l.take l.length).all fewK = true) : fewN cl l = true := by
 rw [List.take_length] at h3 h4
 unfold fewN
 rw [decide_eq_true h1, decide_eq_true h2, h3, h4]; rfl
theorem fewN_n {cl : List Nmd} {l : List Cls} (h : 8 < cl.length \/ 8 < l.length) : fewN cl l = false := by
 unfold fewN
 rcases h with h | h
 ·rw [decide_eq_false (show ¬ cl.length <= 8 by omega)]; rfl
 rw [decide_eq_false (show ¬ l.length <= 8 by omega), Bool.and_false]; rfl
theorem b4p (w : World) : Calls Tryz.prog 28 #[] w fun e w' => ∃ v, e = .returned v /\ NmdL w' v a1u /\ Below w.heap.size w w' := by
 go_enter Tryz.func28, Tryz.ntmps28
 have HS := zh (St.start w)
 go_wp2
 have HS2 := aL HS #[.string (bs [97]), .int .i64 2, .bool false, .string (bs []), .string (bs []), .string (bs [98]), .int .i64 2, .bool false, .string (bs []), .string (bs []), .string (bs [99]), .int .i64 2, .bool false, .string (bs []), .string (bs [])] 64 w.heap.size
 go_ret
 exact ⟨_, rfl, Slc.of_blk (enc := Nmd.enc) (fun _ => rfl) (xs := a1u) (n := 3) (c := 3) (HS2.out.blk 0 rfl) rfl rfl (Nat.le_refl _) (by decide), HS2.out.below⟩
theorem c9t (v v2 : Value) (cl : List Nmd) (l : List Cls) (w : World) (h : NmdL w v cl) (h2 : ClsL w v2 l) :
  Calls Tryz.prog 9 #[v, v2] w fun e w' => e = .returned (.bool (fewN cl l)) /\ Below w.heap.size w w' := by
 have H := zh h
 have HV := zh h2
 obtain ⟨A1, c1, rfl, _, _⟩ := Slc.slice h
 obtain ⟨A2, c2, rfl, _, _⟩ := h2.slice
 obtain ⟨fn, hfn⟩ : ∃ q, q = fewN cl l := ⟨_, rfl⟩
 have n1 := fun x hx h => fewN_c (cl := cl) (l := l) (x := x) hx h
 have n2 := fun x hx h => fewN_k (cl := cl) (l := l) (x := x) hx h
 have n3 := fun h1 h2 h3 h4 => fewN_y (cl := cl) (l := l) h1 h2 h3 h4
 have n4 := fun h => fewN_n (cl := cl) (l := l) h
 rw [<- hfn] at n1 n2 n3 n4 ⊢
 have N1 := zh n1
 have N2 := zh n2
 have N3 := zh n3
 have N4 := zh n4
 clear h h2 hfn n1 n2 n3 n4
 by_cases hn1 : 8 < cl.length
 have d1 : decide ((8 : Int) < (cl.length : Int)) = true := decide_eq_true (by omega)
 have d1' : decide (8 < cl.length) = true := decide_eq_true (by omega)
 have R := zh (N4.out (.inl hn1))
 clear hn1
 rotate_left
 by_cases hn2 : 8 < l.length
 have d1 : decide ((8 : Int) < (cl.length : Int)) = false := decide_eq_false (by omega)
 have d1' : decide (8 < cl.length) = false := decide_eq_false (by omega)
 have d2 : decide ((8 : Int) < (l.length : Int)) = true := decide_eq_true (by omega)
 have d2' : decide (8 < l.length) = true := decide_eq_true (by omega)
 have R := zh (N4.out (.inr hn2))
 clear hn1 hn2
 rotate_left
 have d1 : decide ((8 : Int) < (cl.length : Int)) = false := decide_eq_false (by omega)
 have d1' : decide (8 < cl.length) = false := decide_eq_false (by omega)
 have d2 : decide ((8 : Int) < (l.length : Int)) = false := decide_eq_false (by omega)
 have d2' : decide (8 < l.length) = false := decide_eq_false (by omega)
 have M1 := zh (show cl.length <= 8 by omega)
 have M2 := zh (show l.length <= 8 by omega)
 clear hn1 hn2
 rotate_left
 all_goals
   go_enter Tryz.func9, Tryz.ntmps9
   have HS := zh (St.start w)
   go_wp2
 ·go_ret
  rw [R.out]
  exact ⟨rfl, HS.out.below⟩
 ·go_ret
  rw [R.out]
  exact ⟨rfl, HS.out.below⟩
 go_loopw [19] (fun i_ wr => ∃ k : Nat, k <= cl.length /\ i_ = .int .i64 k /\ Hid ((cl.take k).all fewC = true) /\ Hid (St w [] wr)) (fun i_ _ => cl.length - (intOf i_).toNat)
 case atStart => exact ⟨0, Nat.zero_le _, rfl, rfl, HS.out⟩
 case round =>
  clear HS
  obtain ⟨k, hk, rfl, HK, HS⟩ := hrel
  by_cases hlt : k < cl.length
  ·obtain ⟨b, o, x, rfl, hbb, hq, hx⟩ := H.out.at_ hlt
   unfold Nmd.enc at hx
   have HX := zh hx
   have HQ := zh hq
   have HIN := zh (List.mem_of_getElem? hq)
   have hF := fun W => c5a x.am.n x.am.a x.am.b W
   obtain ⟨fB, hfB⟩ : ∃ q, q = fewR x.am.a x.am.b := ⟨_, rfl⟩
   rw [<- hfB] at hF
   unfold raw at hF
   have HF := zh hF
   have HFB := zh hfB
   have e0 : (0 : Int) <= ((k : Nat) : Int) := by omega
   have e1 : ((k : Nat) : Int) < (cl.length : Int) := by omega
   have e2 : decide (((k : Nat) : Int) < (cl.length : Int)) = true := decide_eq_true e1
   have i5 : IntKind.i64.wrap ((k : Int) + 1) = ((k + 1 : Nat) : Int) := by have := M1.out; rw [IntWalk.i64_in _ (by omega)]; rfl
   obtain ⟨n5, hn5⟩ : ∃ n, n = x.id.length := ⟨_, rfl⟩
   have hsz : (bs x.id).size = n5 := by rw [a3w]; exact hn5.symm
   have HN5 := zh hn5
   clear hq hx hF hfB hn5
   by_cases h50 : 50 < n5
   ·have d5 : decide ((50 : Int) < (n5 : Int)) = true := decide_eq_true (by omega)
    have d5' : decide (50 < n5) = true := decide_eq_true (by omega)
    have R := zh (N1.out x HIN.out (by unfold fewC; rw [<- HN5.out, decide_eq_false (show ¬ n5 <= 50 by omega)]; rfl))
    clear h50
    have x1 : b < wr.heap.size := Nat.lt_of_lt_of_le hbb HS.out.below.size
    have x2 : ¬ b = wr.heap.size := by omega
    obtain ⟨x3, x4, x5⟩ := kE0 (HX.out _ HS.out.below) rfl rfl rfl
    have x6 := HX.out _ HS.out.below 3 _ rfl
    have x7 := HX.out _ HS.out.below 4 _ rfl
    go_wp2
    have HS2 := aL HS #[.string (bs x.id), .int .i64 x.rank, .bool x.am.n, .string (bs x.am.a), .string (bs x.am.b)] 64 wr.heap.size
    go_ret
    rw [R.out]
    exact ⟨rfl, HS2.out.below⟩
   cases fB
   ·have d5 : decide ((50 : Int) < (n5 : Int)) = false := decide_eq_false (by omega)
    have d5' : decide (50 < n5) = false := decide_eq_false (by omega)
    have HL := zh (show x.id.length <= 50 by have := HN5.out; omega)
    clear h50
    have x1 : b < wr.heap.size := Nat.lt_of_lt_of_le hbb HS.out.below.size
    have x2 : ¬ b = wr.heap.size := by omega
    obtain ⟨x3, x4, x5⟩ := kE0 (HX.out _ HS.out.below) rfl rfl rfl
    have x6 := HX.out _ HS.out.below 3 _ rfl
    have x7 := HX.out _ HS.out.below 4 _ rfl
    go_wp2_with fail
    have HS2 := aL HS #[.string (bs x.id), .int .i64 x.rank, .bool x.am.n, .string (bs x.am.a), .string (bs x.am.b)] 64 wr.heap.size
    refine cL (HF.out _) HS2 fun w3 HS3 => ?_
    clear HS HS2 x1 x2 x3 x4 x5 x6 x7
    go_wp2
    have R := zh (N1.out x HIN.out (by unfold fewC; rw [<- HFB.out, Bool.and_false]))
    go_ret
    rw [R.out]
    exact ⟨rfl, HS3.out.below⟩
   have d5 : decide ((50 : Int) < (n5 : Int)) = false := decide_eq_false (by omega)
   have d5' : decide (50 < n5) = false := decide_eq_false (by omega)
   have HL := zh (show x.id.length <= 50 by have := HN5.out; omega)
   clear h50
   have x1 : b < wr.heap.size := Nat.lt_of_lt_of_le hbb HS.out.below.size
   have x2 : ¬ b = wr.heap.size := by omega
   obtain ⟨x3, x4, x5⟩ := kE0 (HX.out _ HS.out.below) rfl rfl rfl
   have x6 := HX.out _ HS.out.below 3 _ rfl
   have x7 := HX.out _ HS.out.below 4 _ rfl
   go_wp2_with fail
   have HS2 := aL HS #[.string (bs x.id), .int .i64 x.rank, .bool x.am.n, .string (bs x.am.a), .string (bs x.am.b)] 64 wr.heap.size
   refine cL (HF.out _) HS2 fun w3 HS3 => ?_
   clear HS HS2 x1 x2 x3 x4 x5 x6 x7
   go_wp2
   go_roundw
   case rel => exact ⟨k + 1, by omega, by go_num, c5v HQ.out HK.out (by unfold fewC; rw [<- HFB.out, decide_eq_true HL.out]; rfl), HS3.out.sub (List.nil_sublist _)⟩
   case measure => simp [intOf]; omega
  have hke : k = cl.length := by omega
  rw [hke] at HK ⊢
  have e2 : decide (((cl.length : Nat) : Int) < (cl.length : Int)) = false := decide_eq_false (by omega)
  clear hke hk hlt
  go_wp2
  go_loopw [36] (fun i_ wr => ∃ k : Nat, k <= l.length /\ i_ = .int .i64 k /\ Hid ((l.take k).all fewK = true) /\ Hid (St w [] wr)) (fun i_ _ => l.length - (intOf i_).toNat)
  case atStart => exact ⟨0, Nat.zero_le _, rfl, rfl, HS.out⟩
  case round =>
   clear HS
   obtain ⟨k, hk, rfl, HK2, HS⟩ := hrel
   by_cases hlt : k < l.length
   ·obtain ⟨b, o, x, u, rfl, hbb, hq, hu, hx⟩ := HV.out.at_ hlt
    obtain ⟨A5, c5, rfl, _, _⟩ := hu.slice
    unfold CRow.enc at hx
    dsimp only at hx
    have HX := zh hx
    have HQ := zh hq
    have HIN := zh (List.mem_of_getElem? hq)
    have hF := fun W => c5a x.am.n x.am.a x.am.b W
    obtain ⟨fB, hfB⟩ : ∃ q, q = fewR x.am.a x.am.b := ⟨_, rfl⟩
    rw [<- hfB] at hF
    unfold raw at hF
    have HF := zh hF
    have HFB := zh hfB
    have e0 : (0 : Int) <= ((k : Nat) : Int) := by omega
    have e1 : ((k : Nat) : Int) < (l.length : Int) := by omega
    have e2 : decide (((k : Nat) : Int) < (l.length : Int)) = true := decide_eq_true e1
    have i5 : IntKind.i64.wrap ((k : Int) + 1) = ((k + 1 : Nat) : Int) := by have := M2.out; rw [IntWalk.i64_in _ (by omega)]; rfl
    obtain ⟨n5, hn5⟩ : ∃ n, n = x.name.length := ⟨_, rfl⟩
    obtain ⟨n6, hn6⟩ : ∃ n, n = x.other.length := ⟨_, rfl⟩
    obtain ⟨n7, hn7⟩ : ∃ n, n = x.list.length := ⟨_, rfl⟩
    have hsz : (bs x.name).size = n5 := by rw [a3w]; exact hn5.symm
    have hsz2 : (bs x.other).size = n6 := by rw [a3w]; exact hn6.symm
    have HN5 := zh hn5
    have HN6 := zh hn6
    have HN7 := zh hn7
    rw [<- hn7] at HX
    clear hq hx hF hfB hu hn5 hn6 hn7
    by_cases h40 : 40 < n7
    ·have d4 : decide ((40 : Int) < (n7 : Int)) = true := decide_eq_true (by omega)
     have d4' : decide (40 < n7) = true := decide_eq_true (by omega)
     have R := zh (N2.out x HIN.out (by unfold fewK; rw [<- HN7.out, decide_eq_false (show ¬ n7 <= 40 by omega)]; rfl))
     clear h40
     have x1 : b < wr.heap.size := Nat.lt_of_lt_of_le hbb HS.out.below.size
     have x2 : ¬ b = wr.heap.size := by omega
     obtain ⟨x3, x4, x5⟩ := kE0 (HX.out _ HS.out.below) rfl rfl rfl
     have x6 := HX.out _ HS.out.below 3 _ rfl
     obtain ⟨x7, x8, x9⟩ := kE4 (HX.out _ HS.out.below) rfl rfl rfl
     have x10 := HX.out _ HS.out.below 7 _ rfl
     go_wp2
     have HS2 := aL HS #[.int .i64 x.kind, .string (bs x.name), .string (bs x.other), .slice A5 n7 c5, .bool x.am.n, .string (bs x.am.a), .string (bs x.am.b), .int .i64 x.at_] 61 wr.heap.size
     go_ret
     rw [R.out]
     exact ⟨rfl, HS2.out.below⟩
    by_cases h5 : 50 < n5
    ·have d4 : decide ((40 : Int) < (n7 : Int)) = false := decide_eq_false (by omega)
     have d4' : decide (40 < n7) = false := decide_eq_false (by omega)
     have d5 : decide ((50 : Int) < (n5 : Int)) = true := decide_eq_true (by omega)
     have d5' : decide (50 < n5) = true := decide_eq_true (by omega)
     have R := zh (N2.out x HIN.out (by unfold fewK; rw [<- HN5.out, decide_eq_false (show ¬ n5 <= 50 by omega), Bool.false_and, Bool.and_false]))
     clear h40 h5
     have x1 : b < wr.heap.size := Nat.lt_of_lt_of_le hbb HS.out.below.size
     have x2 : ¬ b = wr.heap.size := by omega
     obtain ⟨x3, x4, x5⟩ := kE0 (HX.out _ HS.out.below) rfl rfl rfl
     have x6 := HX.out _ HS.out.below 3 _ rfl
     obtain ⟨x7, x8, x9⟩ := kE4 (HX.out _ HS.out.below) rfl rfl rfl
     have x10 := HX.out _ HS.out.below 7 _ rfl
     go_wp2
     have HS2 := aL HS #[.int .i64 x.kind, .string (bs x.name), .string (bs x.other), .slice A5 n7 c5, .bool x.am.n, .string (bs x.am.a), .string (bs x.am.b), .int .i64 x.at_] 61 wr.heap.size
     go_ret
     rw [R.out]
     exact ⟨rfl, HS2.out.below⟩
    by_cases h6 : 50 < n6
    ·have d4 : decide ((40 : Int) < (n7 : Int)) = false := decide_eq_false (by omega)
     have d4' : decide (40 < n7) = false := decide_eq_false (by omega)
     have d5 : decide ((50 : Int) < (n5 : Int)) = false := decide_eq_false (by omega)
     have d5' : decide (50 < n5) = false := decide_eq_false (by omega)
     have d6 : decide ((50 : Int) < (n6 : Int)) = true := decide_eq_true (by omega)
     have d6' : decide (50 < n6) = true := decide_eq_true (by omega)
     have R := zh (N2.out x HIN.out (by unfold fewK; rw [<- HN6.out, decide_eq_false (show ¬ n6 <= 50 by omega), Bool.false_and, Bool.and_false, Bool.and_false]))
     clear h40 h5 h6
     have x1 : b < wr.heap.size := Nat.lt_of_lt_of_le hbb HS.out.below.size
     have x2 : ¬ b = wr.heap.size := by omega
     obtain ⟨x3, x4, x5⟩ := kE0 (HX.out _ HS.out.below) rfl rfl rfl
     have x6 := HX.out _ HS.out.below 3 _ rfl
     obtain ⟨x7, x8, x9⟩ := kE4 (HX.out _ HS.out.below) rfl rfl rfl
     have x10 := HX.out _ HS.out.below 7 _ rfl
     go_wp2
     have HS2 := aL HS #[.int .i64 x.kind, .string (bs x.name), .string (bs x.other), .slice A5 n7 c5, .bool x.am.n, .string (bs x.am.a), .string (bs x.am.b), .int .i64 x.at_] 61 wr.heap.size
     go_ret
     rw [R.out]
     exact ⟨rfl, HS2.out.below⟩
    cases fB
    ·have d4 : decide ((40 : Int) < (n7 : Int)) = false := decide_eq_false (by omega)
     have d4' : decide (40 < n7) = false := decide_eq_false (by omega)
     have d5 : decide ((50 : Int) < (n5 : Int)) = false := decide_eq_false (by omega)
     have d5' : decide (50 < n5) = false := decide_eq_false (by omega)
     have d6 : decide ((50 : Int) < (n6 : Int)) = false := decide_eq_false (by omega)
     have d6' : decide (50 < n6) = false := decide_eq_false (by omega)
     have HL := zh (show x.list.length <= 40 /\ x.name.length <= 50 /\ x.other.length <= 50 by have := HN5.out; have := HN6.out; have := HN7.out; omega)
     clear h40 h5 h6
     have x1 : b < wr.heap.size := Nat.lt_of_lt_of_le hbb HS.out.below.size
     have x2 : ¬ b = wr.heap.size := by omega
     obtain ⟨x3, x4, x5⟩ := kE0 (HX.out _ HS.out.below) rfl rfl rfl
     have x6 := HX.out _ HS.out.below 3 _ rfl
     obtain ⟨x7, x8, x9⟩ := kE4 (HX.out _ HS.out.below) rfl rfl rfl
     have x10 := HX.out _ HS.out.below 7 _ rfl
     go_wp2_with fail
     have HS2 := aL HS #[.int .i64 x.kind, .string (bs x.name), .string (bs x.other), .slice A5 n7 c5, .bool x.am.n, .string (bs x.am.a), .string (bs x.am.b), .int .i64 x.at_] 61 wr.heap.size
     refine cL (HF.out _) HS2 fun w3 HS3 => ?_
     clear HS HS2 x1 x2 x3 x4 x5 x6 x7 x8 x9 x10
     go_wp2
     have R := zh (N2.out x HIN.out (by unfold fewK; rw [<- HFB.out, Bool.and_false, Bool.and_false, Bool.and_false]))
     go_ret
     rw [R.out]
     exact ⟨rfl, HS3.out.below⟩
    have d4 : decide ((40 : Int) < (n7 : Int)) = false := decide_eq_false (by omega)
    have d4' : decide (40 < n7) = false := decide_eq_false (by omega)
    have d5 : decide ((50 : Int) < (n5 : Int)) = false := decide_eq_false (by omega)
    have d5' : decide (50 < n5) = false := decide_eq_false (by omega)
    have d6 : decide ((50 : Int) < (n6 : Int)) = false := decide_eq_false (by omega)
    have d6' : decide (50 < n6) = false := decide_eq_false (by omega)
    have HL := zh (show x.list.length <= 40 /\ x.name.length <= 50 /\ x.other.length <= 50 by have := HN5.out; have := HN6.out; have := HN7.out; omega)
    clear h40 h5 h6
    have x1 : b < wr.heap.size := Nat.lt_of_lt_of_le hbb HS.out.below.size
    have x2 : ¬ b = wr.heap.size := by omega
    obtain ⟨x3, x4, x5⟩ := kE0 (HX.out _ HS.out.below) rfl rfl rfl
    have x6 := HX.out _ HS.out.below 3 _ rfl
    obtain ⟨x7, x8, x9⟩ := kE4 (HX.out _ HS.out.below) rfl rfl rfl
    have x10 := HX.out _ HS.out.below 7 _ rfl
    go_wp2_with fail
    have HS2 := aL HS #[.int .i64 x.kind, .string (bs x.name), .string (bs x.other), .slice A5 n7 c5, .bool x.am.n, .string (bs x.am.a), .string (bs x.am.b), .int .i64 x.at_] 61 wr.heap.size
    refine cL (HF.out _) HS2 fun w3 HS3 => ?_
    clear HS HS2 x1 x2 x3 x4 x5 x6 x7 x8 x9 x10
    go_wp2
    go_roundw
    case rel => exact ⟨k + 1, by omega, by go_num, c5v HQ.out HK2.out (by unfold fewK; rw [<- HFB.out, decide_eq_true HL.out.1, decide_eq_true HL.out.2.1, decide_eq_true HL.out.2.2]; rfl), HS3.out.sub (List.nil_sublist _)⟩
    case measure => simp [intOf]; omega
   have hke : k = l.length := by omega
   rw [hke] at HK2 ⊢
   have e2 : decide (((l.length : Nat) : Int) < (l.length : Int)) = false := decide_eq_false (by omega)
   clear hke hk hlt
   go_wp2
   go_ret
   rw [N3.out M1.out M2.out HK.out HK2.out]
   exact ⟨rfl, HS.out.below⟩
theorem fit_ex1 : Fit a1u [kA, kB] := ⟨by decide, by decide, by decide +kernel, by decide +kernel⟩
theorem fit_ex2 : Fit a1u [kA, kB, kC] := ⟨by decide, by decide, by decide +kernel, by decide +kernel⟩
def Ex1 (w : World) (e : Ending) (w' : World) : Prop := ∃ (A9 : Option Addr) (c9 ga oa ca gt ot ct : Nat) (Ap : Option Addr) (cp gq oq cq : Nat), e = .returned (.tuple #[.agg #[.slice A9 3 c9, .slice (some ⟨ga, oa, none⟩) 1 ca], .int .i64 0, .int .i64 0]) /\ ga < w'.heap.size /\ gt < w'.heap.size /\ gq < w'.heap.size /\
 (∀ W, Below w'.heap.size w' W -> W.cell? ⟨ga, oa, none⟩ = some (.slice (some ⟨gt, ot, none⟩) 2 ct) /\ W.cell? ⟨gt, ot, none⟩ = some (.slice Ap 2 cp) /\ W.cell? ⟨gt, ot + 1, none⟩ = some (.slice (some ⟨gq, oq, none⟩) 1 cq) /\ W.cell? ⟨gq, oq, none⟩ = some (.int .i64 2)) /\ Below w.heap.size w w'
theorem ex1_run (v v2 : Value) (w : World) (h : NmdL w v a1u) (h2 : ClsL w v2 [kA, kB]) : Calls Tryz.prog 11 #[v, v2] w (Ex1 w) := by
 refine (a1v v v2 a1u [kA, kB] w h h2 fit_ex1).mono ?_
 rintro e w' ⟨vr, va, R, A, i, er, rfl, hR, hA, hc, hb⟩
 obtain ⟨rfl, rfl, rfl, rfl⟩ := hc.one ex_comp
 obtain ⟨A9, c9, rfl, _, _⟩ := Slc.slice hR
 obtain ⟨Av, cv, rfl, _, _⟩ := NstL.slice hA
 obtain ⟨ga, oa, u, T, rfl, hga, hT, hTL, hx⟩ := NstL.at_ hA (j := 0) (by decide)
 obtain rfl := Option.some.inj hT
 obtain ⟨At, ct, rfl, _, _⟩ := NstL.slice hTL
 obtain ⟨gt, ot, u0, P0, rfl, hgt, hp0, hP0, hx0⟩ := NstL.at_ hTL (j := 0) (by decide)
 obtain rfl := Option.some.inj hp0
 obtain ⟨gt', ot', u1, P1, hA1, _, hp1, hP1, hx1⟩ := NstL.at_ hTL (j := 1) (by decide)
 obtain rfl := Option.some.inj hp1
 injection hA1 with hA1
 injection hA1 with h3 h4 _
 subst h3 h4
 obtain ⟨Ap, cp, rfl, _, _⟩ := Slc.slice hP0
 obtain ⟨Aq, cq, rfl, _, _⟩ := Slc.slice hP1
 obtain ⟨gq, oq, x, rfl, hgq, hq, hxq⟩ := Slc.at_ hP1 (j := 0) (by decide)
 obtain rfl := Option.some.inj hq
 exact ⟨A9, c9, ga, oa, cv, gt, ot, ct, Ap, cp, gq, oq, cq, rfl, hga, hgt, hgq, fun W hW => ⟨hx W hW 0 _ rfl, hx0 W hW 0 _ rfl, hx1 W hW 0 _ rfl, by have := hxq W hW 0 _ rfl; simp only [Nat.zero_mul, Nat.add_zero] at this; exact this⟩, hb⟩
def Ex2 (w : World) (e : Ending) (w' : World) : Prop := ∃ (A9 : Option Addr) (c9 : Nat) (A8 : Option Addr) (c8 : Nat), e = .returned (.tuple #[.agg #[.slice A9 0 c9, .slice A8 0 c8], .int .i64 2, .int .i64 17]) /\ Below w.heap.size w w'
theorem ex2_run (v v2 : Value) (w : World) (h : NmdL w v a1u) (h2 : ClsL w v2 [kA, kB, kC]) : Calls Tryz.prog 11 #[v, v2] w (Ex2 w) := by
 refine (a1v v v2 a1u [kA, kB, kC] w h h2 fit_ex2).mono ?_
 rintro e w' ⟨vr, va, R, A, i, er, rfl, hR, hA, hc, hb⟩
 obtain ⟨rfl, rfl, rfl, rfl⟩ := hc.one ex_circ
 obtain ⟨A9, c9, rfl, _, _⟩ := Slc.slice hR
 obtain ⟨Av, cv, rfl, _, _⟩ := NstL.slice hA
 exact ⟨A9, c9, Av, cv, rfl, hb⟩
def Far (a w : World) : Prop := Below a.heap.size a w
theorem Far.below {a w w' : World} (h : Far a w) (hb : Below w.heap.size w w') : Far a w' := Ext.trans h hb
theorem c5q {w : World} {v : Value} {rs : List CRow} {l : List Cls} (h : Slc CRow.enc 8 w v rs) (hl : rs.map (·.c) = l) (hs : ∀ r, r ∈ rs -> a6d w r.v r.c.list) : ClsL w v l := ⟨rs, h, hl, hs⟩
theorem a6p (w : World) : Calls Tryz.prog 10 #[] w fun e w' => e = .returned (.bool true) /\ Below w.heap.size w w' := by
 obtain ⟨ic, hic, hcz, hc1, hc8⟩ := b2y
 have HCZ := zh hcz
 clear hcz
 go_enter Tryz.func10, Tryz.ntmps10
 have HS := zh (St.start w)
 go_wp2_with fail
 have HS2 := aL (aL HS #[.string (bs [97]), .string (bs [98])] 9 w.heap.size) #[.int .i64 1, .string (bs [115]), .string (bs []), .slice (some ⟨w.heap.size, 0, none⟩) 2 2, .bool false, .string (bs []), .string (bs []), .int .i64 0, .int .i64 2, .string (bs [115]), .string (bs [99]), .slice none 0 0, .bool false, .string (bs []), .string (bs []), .int .i64 0] 61 (w.heap.size + 1)
 refine (b4p _).mono ?_
 rintro e w3 ⟨v3, rfl, hN3, hb3⟩
 have HS3 := zh (HS2.out.call hb3)
 have HN3 := zh hN3
 clear hN3
 have HL3 := zh (c5q (l := [kA, kB]) (rs := [⟨kA, .slice (some ⟨w.heap.size, 0, none⟩) 2 2⟩, ⟨kB, .slice none 0 0⟩]) (Slc.of_blk (n := 2) (c := 2) a2x (HS3.out.blk 0 rfl) rfl rfl (Nat.le_refl _) (by decide)) rfl (fun r hr => by rcases List.mem_cons.1 hr with rfl | hr; exact Slc.of_blk (n := 2) (c := 2) a2c (xs := [[97], [98]]) (HS3.out.blk 1 rfl) rfl rfl (Nat.le_refl _) (by decide); rw [List.mem_singleton.1 hr]; exact Slc.nil_ _ _ _ none 0 (by decide)))
 clear hb3 HS HS2
 go_wp2_with fail
 refine (ex1_run _ _ _ HN3.out HL3.out).mono ?_
 rintro e w4 ⟨A9, c9, ga, oa, ca, gt, ot, ct, Ap, cp, gq, oq, cq, rfl, hga, hgt, hgq, hx4, hb4⟩
 have HS4 := zh (HS3.out.call hb4)
 have X1 := zh (fun W (hb : Below w4.heap.size w4 W) => (hx4 W hb).1)
 have X2 := zh (fun W (hb : Below w4.heap.size w4 W) => (hx4 W hb).2.1)
 have X3 := zh (fun W (hb : Below w4.heap.size w4 W) => (hx4 W hb).2.2.1)
 have X4 := zh (fun W (hb : Below w4.heap.size w4 W) => (hx4 W hb).2.2.2)
 have HL := zh (HL3.out.below (Below.refl _ _))
 have HF4 := zh (show Far w4 w4 from Below.refl _ _)
 have HGA := zh (show ga < w4.heap.size /\ gt < w4.heap.size /\ gq < w4.heap.size from ⟨hga, hgt, hgq⟩)
 clear hx4 HN3 HL3 HL hga hgt hgq hb4 HS3
 go_upto_region 3 with fail
 refine b3a (R := [⟨w4.heap.size, #[.slice A9 3 c9, .slice (some ⟨ga, oa, none⟩) 1 ca], 29⟩, ⟨w.heap.size + 1, #[.int .i64 1, .string (bs [115]), .string (bs []), .slice (some ⟨w.heap.size, 0, none⟩) 2 2, .bool false, .string (bs []), .string (bs []), .int .i64 0, .int .i64 2, .string (bs [115]), .string (bs [99]), .slice none 0 0, .bool false, .string (bs []), .string (bs []), .int .i64 0], 61⟩, ⟨w.heap.size, #[.string (bs [97]), .string (bs [98])], 9⟩]) (X := fun W => Far w4 W) (St.alloc (HS4.out) #[.slice A9 3 c9, .slice (some ⟨ga, oa, none⟩) 1 ca] 29 (w4.heap.size) (by simp)) (HF4.out.below (Ext.alloc (Below.refl w4.heap.size w4) (Obj.cells #[.slice A9 3 c9, .slice (some ⟨ga, oa, none⟩) 1 ca] 29))) ?_
 intro wg hb hx
 have HSg := zh hb
 have HFg := zh hx
 clear hb hx HF4 HS4
 go_wp2_with fail
 refine (b4p _).mono ?_
 rintro e w5 ⟨v5, rfl, hN5, hb5⟩
 have HSg5 := zh (HSg.out.call hb5)
 have HN5 := zh hN5
 clear hN5
 have F_5 := zh (HFg.out.below hb5)
 clear HFg hb5 HSg
 have HSg6 := aL HSg5 #[.int .i64 2, .string (bs [99]), .string (bs [97]), .slice none 0 0, .bool false, .string (bs []), .string (bs []), .int .i64 0] 61 w5.heap.size
 have hN := HN5.out.below (Ext.alloc (Below.refl w5.heap.size w5) (Obj.cells #[.int .i64 2, .string (bs [99]), .string (bs [97]), .slice none 0 0, .bool false, .string (bs []), .string (bs []), .int .i64 0] 61))
 have hF := (F_5.out.below (Ext.alloc (Below.refl w5.heap.size w5) (Obj.cells #[.int .i64 2, .string (bs [99]), .string (bs [97]), .slice none 0 0, .bool false, .string (bs []), .string (bs []), .int .i64 0] 61)))
 go_wp2_with (refine wpList_append_grows _ rfl _ _ 23 rfl 61 ic _ 8 112 Tryz.underlying23 hic HCZ.out hc1 hc8 rfl (by decide) (some ⟨w.heap.size + 1, 0, none⟩) 2 2 [.int .i64 1, .string (bs [115]), .string (bs []), .slice (some ⟨w.heap.size, 0, none⟩) 2 2, .bool false, .string (bs []), .string (bs []), .int .i64 0, .int .i64 2, .string (bs [115]), .string (bs [99]), .slice none 0 0, .bool false, .string (bs []), .string (bs []), .int .i64 0] (by simp [Act.eval]) (fun h => by cases h) rfl (fun b hb j u hu => by obtain rfl := Option.some.inj hb; rw [Addr.add_lit, Nat.zero_add]; exact HSg6.out.cell 2 rfl j (by rw [List.getElem?_toArray]; exact hu)) ⟨w5.heap.size, 0, none⟩ 1 1 [.int .i64 2, .string (bs [99]), .string (bs [97]), .slice none 0 0, .bool false, .string (bs []), .string (bs []), .int .i64 0] (by simp [Act.eval]) rfl (fun j u hu => by rw [Addr.add_lit, Nat.zero_add]; exact HSg6.out.cell 0 rfl j (by rw [List.getElem?_toArray]; exact hu)) (fun u hu => by simp only [List.mem_cons, List.not_mem_nil, or_false] at hu; rcases hu with rfl | rfl | rfl | rfl | rfl | rfl | rfl | rfl <;> rfl) (by decide) (by decide) (by decide) ?_)
 intro v9 w9 hown9 hg9
 have hb9 : Below _ _ w9 := (Below.refl _ _).grown hg9 (Nat.le_refl _) (fun k hk => by cases hk)
 have HSA := zh (HSg6.out.call hb9)
 have HN9 := zh (hN.below hb9)
 have HF9 := zh (hF.below hb9)
 have HL9 := zh (c5q (l := [kA, kB, kC]) (rs := [⟨kA, .slice (some ⟨w.heap.size, 0, none⟩) 2 2⟩, ⟨kB, .slice none 0 0⟩, ⟨kC, .slice none 0 0⟩]) (Slc.of_own a2x hown9 rfl) rfl (fun r hr => by rcases List.mem_cons.1 hr with rfl | hr; exact Slc.of_blk (n := 2) (c := 2) a2c (xs := [[97], [98]]) (HSA.out.blk 3 rfl) rfl rfl (Nat.le_refl _) (by decide); rcases List.mem_cons.1 hr with rfl | hr; exact Slc.nil_ _ _ _ none 0 (by decide); rw [List.mem_singleton.1 hr]; exact Slc.nil_ _ _ _ none 0 (by decide)))
 clear hown9 hg9 hb9 hN hF HSg6 HSg5 F_5 HN5
 go_wp2_with fail
 refine (ex2_run _ _ _ HN9.out HL9.out).mono ?_
 rintro e w7 ⟨A8, c8, A7, c7, rfl, hb7⟩
 have HSA7 := zh (HSA.out.call hb7)
 have F_7 := zh (HF9.out.below hb7)
 clear HF9 hb7 HSA
 go_upto_region 4 with fail
 refine b3a (R := [⟨w7.heap.size, #[.slice A8 0 c8, .slice A7 0 c7], 29⟩, ⟨w5.heap.size, #[.int .i64 2, .string (bs [99]), .string (bs [97]), .slice none 0 0, .bool false, .string (bs []), .string (bs []), .int .i64 0], 61⟩, ⟨w4.heap.size, #[.slice A9 3 c9, .slice (some ⟨ga, oa, none⟩) 1 ca], 29⟩, ⟨w.heap.size + 1, #[.int .i64 1, .string (bs [115]), .string (bs []), .slice (some ⟨w.heap.size, 0, none⟩) 2 2, .bool false, .string (bs []), .string (bs []), .int .i64 0, .int .i64 2, .string (bs [115]), .string (bs [99]), .slice none 0 0, .bool false, .string (bs []), .string (bs []), .int .i64 0], 61⟩, ⟨w.heap.size, #[.string (bs [97]), .string (bs [98])], 9⟩]) (X := fun W => Far w4 W) (St.alloc (HSA7.out) #[.slice A8 0 c8, .slice A7 0 c7] 29 (w7.heap.size) (by simp)) ((F_7.out.below (Ext.alloc (Below.refl w7.heap.size w7) (Obj.cells #[.slice A8 0 c8, .slice A7 0 c7] 29)))) ?_
 intro wz hb hx
 have HSz := zh hb
 have Y1 := zh (a2f (X1.out _ hx) (Nat.lt_of_lt_of_le HGA.out.1 hx.size))
 have Y2 := zh (a2f (X2.out _ hx) (Nat.lt_of_lt_of_le HGA.out.2.1 hx.size))
 have Y3 := zh (a2f (X3.out _ hx) (Nat.lt_of_lt_of_le HGA.out.2.1 hx.size))
 have Y4 := zh (a2f (X4.out _ hx) (Nat.lt_of_lt_of_le HGA.out.2.2 hx.size))
 clear hb hx X1 X2 X3 X4 HSA7 F_7
 have x1 := cC HSz 2 1
 have x2 := cC HSz 2 0
 have x3 := Y1.out _ (Below.refl _ _) 0 _ rfl
 rw [Nat.add_zero] at x3
 have x4 := Y2.out _ (Below.refl _ _) 0 _ rfl
 rw [Nat.add_zero] at x4
 have x5 := Y3.out _ (Below.refl _ _) 0 _ rfl
 rw [Nat.add_zero] at x5
 have x6 := Y4.out _ (Below.refl _ _) 0 _ rfl
 rw [Nat.add_zero] at x6
 go_wp2
 go_ret
 exact ⟨rfl, HSz.out.below⟩
end Go.Proofs.YtgdhpghfojccaaaGreatDoor
