/-
Part 45 of the base.
-/
import Derived.Test.YtbkbiokgfoomfaaGreatDoorRa44
namespace Go.Proofs.YtbkbiokgfoomfaaGreatDoor
open Go.RowKit

def fewC (c : Nmd) : Bool := decide (c.id.length <= 50) && fewR c.am.a c.am.b
def fewK (x : Cls) : Bool := decide (x.list.length <= 40) && (decide (x.name.length <= 50) && (decide (x.other.length <= 50) && fewR x.am.a x.am.b))
def fewN (cl : List Nmd) (l : List Cls) : Bool := (decide (cl.length <= 8) && decide (l.length <= 8)) && (cl.all fewC && l.all fewK)
theorem b8n {α : Type} {f : α -> Bool} {l : List α} {k : Nat} {x : α} (hq : l[k]? = some x) (h : (l.take k).all f = true) (hx : f x = true) : (l.take (k + 1)).all f = true := by rw [a6m hq, List.all_append, h, List.all_cons, hx]; rfl
theorem fewN_c {cl : List Nmd} {l : List Cls} {x : Nmd} (hx : x ∈ cl) (h : fewC x = false) : fewN cl l = false := by
 unfold fewN
 rw [show cl.all fewC = false from List.all_eq_false.2 ⟨x, hx, by rw [h]; decide⟩, Bool.false_and, Bool.and_false]
theorem fewN_k {cl : List Nmd} {l : List Cls} {x : Cls} (hx : x ∈ l) (h : fewK x = false) : fewN cl l = false := by
 unfold fewN
 rw [show l.all fewK = false from List.all_eq_false.2 ⟨x, hx, by rw [h]; decide⟩, Bool.and_false, Bool.and_false]
theorem fewN_y {cl : List Nmd} {l : List Cls} (h1 : cl.length <= 8) (h2 : l.length <= 8) (h3 : (cl.take cl.length).all fewC = true) (h4 : (l.take l.length).all fewK = true) : fewN cl l = true := by
 rw [List.take_length] at h3 h4
 unfold fewN
 rw [decide_eq_true h1, decide_eq_true h2, h3, h4]; rfl
theorem fewN_n {cl : List Nmd} {l : List Cls} (h : 8 < cl.length \/ 8 < l.length) : fewN cl l = false := by
 unfold fewN
 rcases h with h | h
 ·rw [decide_eq_false (show ¬ cl.length <= 8 by omega)]; rfl
 ·rw [decide_eq_false (show ¬ l.length <= 8 by omega), Bool.and_false]; rfl

set_option maxRecDepth 100000 in
set_option maxHeartbeats 1000000 in
theorem b0k (w : World) : Calls Tryz.prog 31 #[] w fun e w' => ∃ v, e = .returned v /\ NmdL w' v a1k /\ Below w.heap.size w w' := by
 go_enter Tryz.func31, Tryz.ntmps31
 have HS := zh (St.start w)
 go_wp2
 have HS2 := zh (St.alloc (HS.out) #[.string (bs [97]), .int .i64 2, .bool false, .string (bs []), .string (bs []), .string (bs [98]), .int .i64 2, .bool false, .string (bs []), .string (bs []), .string (bs [99]), .int .i64 2, .bool false, .string (bs []), .string (bs [])] 67 (w.heap.size) (by simp))
 go_ret
 exact ⟨_, rfl, Slc.of_blk (enc := Nmd.enc) (fun _ => rfl) (xs := a1k) (n := 3) (c := 3) (HS2.out.blk 0 rfl) rfl rfl (Nat.le_refl _) (by decide), HS2.out.below⟩

set_option maxRecDepth 100000 in
set_option maxHeartbeats 4000000 in
theorem c1f (v v2 : Value) (cl : List Nmd) (l : List Cls) (w : World) (h : NmdL w v cl) (h2 : ClsL w v2 l) :
  Calls Tryz.prog 10 #[v, v2] w fun e w' => e = .returned (.bool (fewN cl l)) /\ Below w.heap.size w w' := by
 have H := zh h
 have HV := zh h2
 obtain ⟨A1, c1, rfl, _, _⟩ := Slc.slice h
 obtain ⟨A2, c2, rfl, _, _⟩ := h2.slice
 obtain ⟨fn, hfn⟩ : ∃ q, q = fewN cl l := ⟨_, rfl⟩
 have n1 := fun x hx h => fewN_c (cl := cl) (l := l) (x := x) hx h
 have n2 := fun x hx h => fewN_k (cl := cl) (l := l) (x := x) hx h
 have n3 := fun h1 h2 h3 h4 => fewN_y (cl := cl) (l := l) h1 h2 h3 h4
 have n4 := fun h => fewN_n (cl := cl) (l := l) h
 rw [<- hfn] at n1 n2 n3 n4 ⊢
 have N1 := zh n1
 have N2 := zh n2
 have N3 := zh n3
 have N4 := zh n4
 clear h h2 hfn n1 n2 n3 n4
 by_cases hn1 : 8 < cl.length
 ·have d1 : decide ((8 : Int) < (cl.length : Int)) = true := decide_eq_true (by omega)
  have d1' : decide (8 < cl.length) = true := decide_eq_true (by omega)
  have R := zh (N4.out (.inl hn1))
  clear hn1
  go_enter Tryz.func10, Tryz.ntmps10
  have HS := zh (St.start w)
  go_wp2
  go_ret
  rw [R.out]
  exact ⟨rfl, HS.out.below⟩
 ·by_cases hn2 : 8 < l.length
  ·have d1 : decide ((8 : Int) < (cl.length : Int)) = false := decide_eq_false (by omega)
   have d1' : decide (8 < cl.length) = false := decide_eq_false (by omega)
   have d2 : decide ((8 : Int) < (l.length : Int)) = true := decide_eq_true (by omega)
   have d2' : decide (8 < l.length) = true := decide_eq_true (by omega)
   have R := zh (N4.out (.inr hn2))
   clear hn1 hn2
   go_enter Tryz.func10, Tryz.ntmps10
   have HS := zh (St.start w)
   go_wp2
   go_ret
   rw [R.out]
   exact ⟨rfl, HS.out.below⟩
  ·have d1 : decide ((8 : Int) < (cl.length : Int)) = false := decide_eq_false (by omega)
   have d1' : decide (8 < cl.length) = false := decide_eq_false (by omega)
   have d2 : decide ((8 : Int) < (l.length : Int)) = false := decide_eq_false (by omega)
   have d2' : decide (8 < l.length) = false := decide_eq_false (by omega)
   have M1 := zh (show cl.length <= 8 by omega)
   have M2 := zh (show l.length <= 8 by omega)
   clear hn1 hn2
   go_enter Tryz.func10, Tryz.ntmps10
   have HS := zh (St.start w)
   go_wp2
   go_loopw [19] (fun i_ wr => ∃ k : Nat, k <= cl.length /\ i_ = .int .i64 k /\ Hid ((cl.take k).all fewC = true) /\ Hid (St w [] wr)) (fun i_ _ => cl.length - (intOf i_).toNat)
   case atStart => exact ⟨0, Nat.zero_le _, rfl, rfl, HS.out⟩
   case round =>
    clear HS
    obtain ⟨k, hk, rfl, HK, HS⟩ := hrel
    by_cases hlt : k < cl.length
    ·obtain ⟨b, o, x, rfl, hbb, hq, hx⟩ := H.out.at_ hlt
     unfold Nmd.enc at hx
     have HX := zh hx
     have HQ := zh hq
     have HIN := zh (List.mem_of_getElem? hq)
     have hF := fun W => b7z x.am.n x.am.a x.am.b W
     obtain ⟨fB, hfB⟩ : ∃ q, q = fewR x.am.a x.am.b := ⟨_, rfl⟩
     rw [<- hfB] at hF
     unfold raw at hF
     have HF := zh hF
     have HFB := zh hfB
     have e0 : (0 : Int) <= ((k : Nat) : Int) := by omega
     have e1 : ((k : Nat) : Int) < (cl.length : Int) := by omega
     have e2 : decide (((k : Nat) : Int) < (cl.length : Int)) = true := decide_eq_true e1
     have i5 : IntKind.i64.wrap ((k : Int) + 1) = ((k + 1 : Nat) : Int) := by have := M1.out; rw [IntWalk.i64_in _ (by omega)]; rfl
     obtain ⟨n5, hn5⟩ : ∃ n, n = x.id.length := ⟨_, rfl⟩
     have hsz : (bs x.id).size = n5 := by rw [a3d]; exact hn5.symm
     have HN5 := zh hn5
     clear hq hx hF hfB hn5
     by_cases h50 : 50 < n5
     ·have d5 : decide ((50 : Int) < (n5 : Int)) = true := decide_eq_true (by omega)
      have d5' : decide (50 < n5) = true := decide_eq_true (by omega)
      have R := zh (N1.out x HIN.out (by unfold fewC; rw [<- HN5.out, decide_eq_false (show ¬ n5 <= 50 by omega)]; rfl))
      clear h50
      have x1 : b < wr.heap.size := Nat.lt_of_lt_of_le hbb HS.out.below.size
      have x2 : ¬ b = wr.heap.size := by omega
      obtain ⟨x3, x4, x5⟩ := kE0 (HX.out _ HS.out.below) rfl rfl rfl
      have x6 := HX.out _ HS.out.below 3 _ rfl
      have x7 := HX.out _ HS.out.below 4 _ rfl
      go_wp2
      have HS2 := zh (St.alloc (HS.out) #[.string (bs x.id), .int .i64 x.rank, .bool x.am.n, .string (bs x.am.a), .string (bs x.am.b)] 67 (wr.heap.size) (by simp))
      go_ret
      rw [R.out]
      exact ⟨rfl, HS2.out.below⟩
     ·cases fB
      ·have d5 : decide ((50 : Int) < (n5 : Int)) = false := decide_eq_false (by omega)
       have d5' : decide (50 < n5) = false := decide_eq_false (by omega)
       have HL := zh (show x.id.length <= 50 by have := HN5.out; omega)
       clear h50
       have x1 : b < wr.heap.size := Nat.lt_of_lt_of_le hbb HS.out.below.size
       have x2 : ¬ b = wr.heap.size := by omega
       obtain ⟨x3, x4, x5⟩ := kE0 (HX.out _ HS.out.below) rfl rfl rfl
       have x6 := HX.out _ HS.out.below 3 _ rfl
       have x7 := HX.out _ HS.out.below 4 _ rfl
       go_wp2_with fail
       have HS2 := zh (St.alloc (HS.out) #[.string (bs x.id), .int .i64 x.rank, .bool x.am.n, .string (bs x.am.a), .string (bs x.am.b)] 67 (wr.heap.size) (by simp))
       refine (HF.out _).mono ?_
       rintro e w3 ⟨rfl, hb3⟩
       have HS3 := zh (HS2.out.call hb3)
       clear hb3 HS HS2
       clear x1 x2 x3 x4 x5 x6 x7
       go_wp2
       have R := zh (N1.out x HIN.out (by unfold fewC; rw [<- HFB.out, Bool.and_false]))
       go_ret
       rw [R.out]
       exact ⟨rfl, HS3.out.below⟩
      ·have d5 : decide ((50 : Int) < (n5 : Int)) = false := decide_eq_false (by omega)
       have d5' : decide (50 < n5) = false := decide_eq_false (by omega)
       have HL := zh (show x.id.length <= 50 by have := HN5.out; omega)
       clear h50
       have x1 : b < wr.heap.size := Nat.lt_of_lt_of_le hbb HS.out.below.size
       have x2 : ¬ b = wr.heap.size := by omega
       obtain ⟨x3, x4, x5⟩ := kE0 (HX.out _ HS.out.below) rfl rfl rfl
       have x6 := HX.out _ HS.out.below 3 _ rfl
       have x7 := HX.out _ HS.out.below 4 _ rfl
       go_wp2_with fail
       have HS2 := zh (St.alloc (HS.out) #[.string (bs x.id), .int .i64 x.rank, .bool x.am.n, .string (bs x.am.a), .string (bs x.am.b)] 67 (wr.heap.size) (by simp))
       refine (HF.out _).mono ?_
       rintro e w3 ⟨rfl, hb3⟩
       have HS3 := zh (HS2.out.call hb3)
       clear hb3 HS HS2
       clear x1 x2 x3 x4 x5 x6 x7
       go_wp2
       go_roundw
       case rel => exact ⟨k + 1, by omega, by go_num, b8n HQ.out HK.out (by unfold fewC; rw [<- HFB.out, decide_eq_true HL.out]; rfl), HS3.out.sub (List.nil_sublist _)⟩
       case measure => simp [intOf]; omega
    ·have hke : k = cl.length := by omega
     rw [hke] at HK ⊢
     have e2 : decide (((cl.length : Nat) : Int) < (cl.length : Int)) = false := decide_eq_false (by omega)
     clear hke hk hlt
     go_wp2
     go_loopw [36] (fun i_ wr => ∃ k : Nat, k <= l.length /\ i_ = .int .i64 k /\ Hid ((l.take k).all fewK = true) /\ Hid (St w [] wr)) (fun i_ _ => l.length - (intOf i_).toNat)
     case atStart => exact ⟨0, Nat.zero_le _, rfl, rfl, HS.out⟩
     case round =>
      clear HS
      obtain ⟨k, hk, rfl, HK2, HS⟩ := hrel
      by_cases hlt : k < l.length
      ·obtain ⟨b, o, x, u, rfl, hbb, hq, hu, hx⟩ := HV.out.at_ hlt
       obtain ⟨A5, c5, rfl, _, _⟩ := hu.slice
       unfold CRow.enc at hx
       dsimp only at hx
       have HX := zh hx
       have HQ := zh hq
       have HIN := zh (List.mem_of_getElem? hq)
       have hF := fun W => b7z x.am.n x.am.a x.am.b W
       obtain ⟨fB, hfB⟩ : ∃ q, q = fewR x.am.a x.am.b := ⟨_, rfl⟩
       rw [<- hfB] at hF
       unfold raw at hF
       have HF := zh hF
       have HFB := zh hfB
       have e0 : (0 : Int) <= ((k : Nat) : Int) := by omega
       have e1 : ((k : Nat) : Int) < (l.length : Int) := by omega
       have e2 : decide (((k : Nat) : Int) < (l.length : Int)) = true := decide_eq_true e1
       have i5 : IntKind.i64.wrap ((k : Int) + 1) = ((k + 1 : Nat) : Int) := by have := M2.out; rw [IntWalk.i64_in _ (by omega)]; rfl
       obtain ⟨n5, hn5⟩ : ∃ n, n = x.name.length := ⟨_, rfl⟩
       obtain ⟨n6, hn6⟩ : ∃ n, n = x.other.length := ⟨_, rfl⟩
       obtain ⟨n7, hn7⟩ : ∃ n, n = x.list.length := ⟨_, rfl⟩
       have hsz : (bs x.name).size = n5 := by rw [a3d]; exact hn5.symm
       have hsz2 : (bs x.other).size = n6 := by rw [a3d]; exact hn6.symm
       have HN5 := zh hn5
       have HN6 := zh hn6
       have HN7 := zh hn7
       rw [<- hn7] at HX
       clear hq hx hF hfB hu hn5 hn6 hn7
       by_cases h40 : 40 < n7
       ·have d4 : decide ((40 : Int) < (n7 : Int)) = true := decide_eq_true (by omega)
        have d4' : decide (40 < n7) = true := decide_eq_true (by omega)
        have R := zh (N2.out x HIN.out (by unfold fewK; rw [<- HN7.out, decide_eq_false (show ¬ n7 <= 40 by omega)]; rfl))
        clear h40
        have x1 : b < wr.heap.size := Nat.lt_of_lt_of_le hbb HS.out.below.size
        have x2 : ¬ b = wr.heap.size := by omega
        obtain ⟨x3, x4, x5⟩ := kE0 (HX.out _ HS.out.below) rfl rfl rfl
        have x6 := HX.out _ HS.out.below 3 _ rfl
        obtain ⟨x7, x8, x9⟩ := kE4 (HX.out _ HS.out.below) rfl rfl rfl
        have x10 := HX.out _ HS.out.below 7 _ rfl
        go_wp2
        have HS2 := zh (St.alloc (HS.out) #[.int .i64 x.kind, .string (bs x.name), .string (bs x.other), .slice A5 n7 c5, .bool x.am.n, .string (bs x.am.a), .string (bs x.am.b), .int .i64 x.at_] 64 (wr.heap.size) (by simp))
        go_ret
        rw [R.out]
        exact ⟨rfl, HS2.out.below⟩
       ·by_cases h5 : 50 < n5
        ·have d4 : decide ((40 : Int) < (n7 : Int)) = false := decide_eq_false (by omega)
         have d4' : decide (40 < n7) = false := decide_eq_false (by omega)
         have d5 : decide ((50 : Int) < (n5 : Int)) = true := decide_eq_true (by omega)
         have d5' : decide (50 < n5) = true := decide_eq_true (by omega)
         have R := zh (N2.out x HIN.out (by unfold fewK; rw [<- HN5.out, decide_eq_false (show ¬ n5 <= 50 by omega), Bool.false_and, Bool.and_false]))
         clear h40 h5
         have x1 : b < wr.heap.size := Nat.lt_of_lt_of_le hbb HS.out.below.size
         have x2 : ¬ b = wr.heap.size := by omega
         obtain ⟨x3, x4, x5⟩ := kE0 (HX.out _ HS.out.below) rfl rfl rfl
         have x6 := HX.out _ HS.out.below 3 _ rfl
         obtain ⟨x7, x8, x9⟩ := kE4 (HX.out _ HS.out.below) rfl rfl rfl
         have x10 := HX.out _ HS.out.below 7 _ rfl
         go_wp2
         have HS2 := zh (St.alloc (HS.out) #[.int .i64 x.kind, .string (bs x.name), .string (bs x.other), .slice A5 n7 c5, .bool x.am.n, .string (bs x.am.a), .string (bs x.am.b), .int .i64 x.at_] 64 (wr.heap.size) (by simp))
         go_ret
         rw [R.out]
         exact ⟨rfl, HS2.out.below⟩
        ·by_cases h6 : 50 < n6
         ·have d4 : decide ((40 : Int) < (n7 : Int)) = false := decide_eq_false (by omega)
          have d4' : decide (40 < n7) = false := decide_eq_false (by omega)
          have d5 : decide ((50 : Int) < (n5 : Int)) = false := decide_eq_false (by omega)
          have d5' : decide (50 < n5) = false := decide_eq_false (by omega)
          have d6 : decide ((50 : Int) < (n6 : Int)) = true := decide_eq_true (by omega)
          have d6' : decide (50 < n6) = true := decide_eq_true (by omega)
          have R := zh (N2.out x HIN.out (by unfold fewK; rw [<- HN6.out, decide_eq_false (show ¬ n6 <= 50 by omega), Bool.false_and, Bool.and_false, Bool.and_false]))
          clear h40 h5 h6
          have x1 : b < wr.heap.size := Nat.lt_of_lt_of_le hbb HS.out.below.size
          have x2 : ¬ b = wr.heap.size := by omega
          obtain ⟨x3, x4, x5⟩ := kE0 (HX.out _ HS.out.below) rfl rfl rfl
          have x6 := HX.out _ HS.out.below 3 _ rfl
          obtain ⟨x7, x8, x9⟩ := kE4 (HX.out _ HS.out.below) rfl rfl rfl
          have x10 := HX.out _ HS.out.below 7 _ rfl
          go_wp2
          have HS2 := zh (St.alloc (HS.out) #[.int .i64 x.kind, .string (bs x.name), .string (bs x.other), .slice A5 n7 c5, .bool x.am.n, .string (bs x.am.a), .string (bs x.am.b), .int .i64 x.at_] 64 (wr.heap.size) (by simp))
          go_ret
          rw [R.out]
          exact ⟨rfl, HS2.out.below⟩
         ·cases fB
          ·have d4 : decide ((40 : Int) < (n7 : Int)) = false := decide_eq_false (by omega)
           have d4' : decide (40 < n7) = false := decide_eq_false (by omega)
           have d5 : decide ((50 : Int) < (n5 : Int)) = false := decide_eq_false (by omega)
           have d5' : decide (50 < n5) = false := decide_eq_false (by omega)
           have d6 : decide ((50 : Int) < (n6 : Int)) = false := decide_eq_false (by omega)
           have d6' : decide (50 < n6) = false := decide_eq_false (by omega)
           have HL := zh (show x.list.length <= 40 /\ x.name.length <= 50 /\ x.other.length <= 50 by have := HN5.out; have := HN6.out; have := HN7.out; omega)
           clear h40 h5 h6
           have x1 : b < wr.heap.size := Nat.lt_of_lt_of_le hbb HS.out.below.size
           have x2 : ¬ b = wr.heap.size := by omega
           obtain ⟨x3, x4, x5⟩ := kE0 (HX.out _ HS.out.below) rfl rfl rfl
           have x6 := HX.out _ HS.out.below 3 _ rfl
           obtain ⟨x7, x8, x9⟩ := kE4 (HX.out _ HS.out.below) rfl rfl rfl
           have x10 := HX.out _ HS.out.below 7 _ rfl
           go_wp2_with fail
           have HS2 := zh (St.alloc (HS.out) #[.int .i64 x.kind, .string (bs x.name), .string (bs x.other), .slice A5 n7 c5, .bool x.am.n, .string (bs x.am.a), .string (bs x.am.b), .int .i64 x.at_] 64 (wr.heap.size) (by simp))
           refine (HF.out _).mono ?_
           rintro e w3 ⟨rfl, hb3⟩
           have HS3 := zh (HS2.out.call hb3)
           clear hb3 HS HS2
           clear x1 x2 x3 x4 x5 x6 x7 x8 x9 x10
           go_wp2
           have R := zh (N2.out x HIN.out (by unfold fewK; rw [<- HFB.out, Bool.and_false, Bool.and_false, Bool.and_false]))
           go_ret
           rw [R.out]
           exact ⟨rfl, HS3.out.below⟩
          ·have d4 : decide ((40 : Int) < (n7 : Int)) = false := decide_eq_false (by omega)
           have d4' : decide (40 < n7) = false := decide_eq_false (by omega)
           have d5 : decide ((50 : Int) < (n5 : Int)) = false := decide_eq_false (by omega)
           have d5' : decide (50 < n5) = false := decide_eq_false (by omega)
           have d6 : decide ((50 : Int) < (n6 : Int)) = false := decide_eq_false (by omega)
           have d6' : decide (50 < n6) = false := decide_eq_false (by omega)
           have HL := zh (show x.list.length <= 40 /\ x.name.length <= 50 /\ x.other.length <= 50 by have := HN5.out; have := HN6.out; have := HN7.out; omega)
           clear h40 h5 h6
           have x1 : b < wr.heap.size := Nat.lt_of_lt_of_le hbb HS.out.below.size
           have x2 : ¬ b = wr.heap.size := by omega
           obtain ⟨x3, x4, x5⟩ := kE0 (HX.out _ HS.out.below) rfl rfl rfl
           have x6 := HX.out _ HS.out.below 3 _ rfl
           obtain ⟨x7, x8, x9⟩ := kE4 (HX.out _ HS.out.below) rfl rfl rfl
           have x10 := HX.out _ HS.out.below 7 _ rfl
           go_wp2_with fail
           have HS2 := zh (St.alloc (HS.out) #[.int .i64 x.kind, .string (bs x.name), .string (bs x.other), .slice A5 n7 c5, .bool x.am.n, .string (bs x.am.a), .string (bs x.am.b), .int .i64 x.at_] 64 (wr.heap.size) (by simp))
           refine (HF.out _).mono ?_
           rintro e w3 ⟨rfl, hb3⟩
           have HS3 := zh (HS2.out.call hb3)
           clear hb3 HS HS2
           clear x1 x2 x3 x4 x5 x6 x7 x8 x9 x10
           go_wp2
           go_roundw
           case rel => exact ⟨k + 1, by omega, by go_num, b8n HQ.out HK2.out (by unfold fewK; rw [<- HFB.out, decide_eq_true HL.out.1, decide_eq_true HL.out.2.1, decide_eq_true HL.out.2.2]; rfl), HS3.out.sub (List.nil_sublist _)⟩
           case measure => simp [intOf]; omega
      ·have hke : k = l.length := by omega
       rw [hke] at HK2 ⊢
       have e2 : decide (((l.length : Nat) : Int) < (l.length : Int)) = false := decide_eq_false (by omega)
       clear hke hk hlt
       go_wp2
       go_ret
       rw [N3.out M1.out M2.out HK.out HK2.out]
       exact ⟨rfl, HS.out.below⟩
end Go.Proofs.YtbkbiokgfoomfaaGreatDoor
