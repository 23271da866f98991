/-
Part 19 of the base.
-/
import Derived.Test.YtbkbiokgfoomfaaGreatDoorRa17
import Derived.Test.YtbkbiokgfoomfaaGreatDoorRa21
namespace Go.Proofs.YtbkbiokgfoomfaaGreatDoor
open Go.RowKit

set_option maxRecDepth 100000 in
set_option maxHeartbeats 1000000 in
theorem b1t (s : List UInt8) (w : World) : Calls Tryz.prog 61 #[.string (bs s)] w fun e w' => e = .returned (.bool (resv s)) /\ w = w' := by
 unfold resv
 obtain ⟨e0, he0⟩ : ∃ y, y = (s == [99, 108, 97, 115, 115]) := ⟨_, rfl⟩
 have f0 : ((bs s).toList == [99, 108, 97, 115, 115]) = e0 := by rw [a1d]; exact he0.symm
 rw [<- he0]
 clear he0
 obtain ⟨e1, he1⟩ : ∃ y, y = (s == [98, 101, 102, 111, 114, 101]) := ⟨_, rfl⟩
 have f1 : ((bs s).toList == [98, 101, 102, 111, 114, 101]) = e1 := by rw [a1d]; exact he1.symm
 rw [<- he1]
 clear he1
 obtain ⟨e2, he2⟩ : ∃ y, y = (s == [108, 105, 109, 105, 116]) := ⟨_, rfl⟩
 have f2 : ((bs s).toList == [108, 105, 109, 105, 116]) = e2 := by rw [a1d]; exact he2.symm
 rw [<- he2]
 clear he2
 obtain ⟨e3, he3⟩ : ∃ y, y = (s == [115, 117, 98, 111, 114, 100, 105, 110, 97, 116, 101]) := ⟨_, rfl⟩
 have f3 : ((bs s).toList == [115, 117, 98, 111, 114, 100, 105, 110, 97, 116, 101]) = e3 := by rw [a1d]; exact he3.symm
 rw [<- he3]
 clear he3
 cases e0 <;> cases e1 <;> cases e2 <;> cases e3
 all_goals
  go_enter Tryz.func61, Tryz.ntmps61
  go_wp2
  go_ret
  exact ⟨rfl, rfl⟩

set_option maxRecDepth 100000 in
set_option maxHeartbeats 1000000 in
theorem b2z (s : List UInt8) (w : World) : Calls Tryz.prog 63 #[.string (bs s)] w fun e w' => e = .returned (.bool (resv s)) /\ w = w' := by
 unfold resv
 obtain ⟨e0, he0⟩ : ∃ y, y = (s == [99, 108, 97, 115, 115]) := ⟨_, rfl⟩
 have f0 : ((bs s).toList == [99, 108, 97, 115, 115]) = e0 := by rw [a1d]; exact he0.symm
 rw [<- he0]
 clear he0
 obtain ⟨e1, he1⟩ : ∃ y, y = (s == [98, 101, 102, 111, 114, 101]) := ⟨_, rfl⟩
 have f1 : ((bs s).toList == [98, 101, 102, 111, 114, 101]) = e1 := by rw [a1d]; exact he1.symm
 rw [<- he1]
 clear he1
 obtain ⟨e2, he2⟩ : ∃ y, y = (s == [108, 105, 109, 105, 116]) := ⟨_, rfl⟩
 have f2 : ((bs s).toList == [108, 105, 109, 105, 116]) = e2 := by rw [a1d]; exact he2.symm
 rw [<- he2]
 clear he2
 obtain ⟨e3, he3⟩ : ∃ y, y = (s == [115, 117, 98, 111, 114, 100, 105, 110, 97, 116, 101]) := ⟨_, rfl⟩
 have f3 : ((bs s).toList == [115, 117, 98, 111, 114, 100, 105, 110, 97, 116, 101]) = e3 := by rw [a1d]; exact he3.symm
 rw [<- he3]
 clear he3
 cases e0 <;> cases e1 <;> cases e2 <;> cases e3
 all_goals
  go_enter Tryz.func63, Tryz.ntmps63
  go_wp2
  go_ret
  exact ⟨rfl, rfl⟩

set_option maxRecDepth 100000 in
set_option maxHeartbeats 1000000 in
theorem a6e (s : List UInt8) (w : World) (h : s.length <= 9223372036854775807) : Calls Tryz.prog 32 #[.string (bs s)] w fun e w' => e = .returned (.bool (a3e s)) /\ w = w' := by
 have h1 := fun W => b4q s W h
 have h2 := fun W => b1t s W
 unfold a3e
 generalize a6s s = x at *
 generalize resv s = y at *
 have H1 := zh h1
 have H2 := zh h2
 clear h h1 h2
 cases x
 ·go_enter Tryz.func32, Tryz.ntmps32
  go_wp2_with fail
  refine (H1.out _).mono ?_
  rintro e w' ⟨rfl, rfl⟩
  go_wp2
  go_ret
  exact ⟨rfl, rfl⟩
 ·cases y
  all_goals
   go_enter Tryz.func32, Tryz.ntmps32
   go_wp2_with fail
   refine (H1.out _).mono ?_
   rintro e w' ⟨rfl, rfl⟩
   go_wp2_with fail
   refine (H2.out _).mono ?_
   rintro e w' ⟨rfl, rfl⟩
   go_wp2
   go_ret
   exact ⟨rfl, rfl⟩

set_option maxRecDepth 100000 in
set_option maxHeartbeats 1000000 in
theorem b8w (s : List UInt8) (w : World) (h : s.length <= 9223372036854775807) : Calls Tryz.prog 33 #[.string (bs s)] w fun e w' => e = .returned (.bool (a3e s)) /\ w = w' := by
 have h1 := fun W => b5w s W h
 have h2 := fun W => b2z s W
 unfold a3e
 generalize a6s s = x at *
 generalize resv s = y at *
 have H1 := zh h1
 have H2 := zh h2
 clear h h1 h2
 cases x
 ·go_enter Tryz.func33, Tryz.ntmps33
  go_wp2_with fail
  refine (H1.out _).mono ?_
  rintro e w' ⟨rfl, rfl⟩
  go_wp2
  go_ret
  exact ⟨rfl, rfl⟩
 ·cases y
  all_goals
   go_enter Tryz.func33, Tryz.ntmps33
   go_wp2_with fail
   refine (H1.out _).mono ?_
   rintro e w' ⟨rfl, rfl⟩
   go_wp2_with fail
   refine (H2.out _).mono ?_
   rintro e w' ⟨rfl, rfl⟩
   go_wp2
   go_ret
   exact ⟨rfl, rfl⟩

def optZ : Option Nat -> Int
 | some i => (i : Nat)
 | none => -1
theorem opt_some (o : Option Nat) : decide (0 <= optZ o) = o.isSome := by cases o <;> simp [optZ]
theorem find_at {α : Type} {p : α -> Bool} {l : List α} {k : Nat} {x : α} (hn : ∀ (j : Nat) t, j < k -> l[j]? = some t -> p t = false) (hk : l[k]? = some x) (hx : p x = true) : l.findIdx? p = some k := by
 rw [List.findIdx?_eq_some_iff_getElem]
 obtain ⟨hl, e⟩ := List.getElem?_eq_some_iff.1 hk
 refine ⟨hl, by rw [e]; exact hx, fun j hj => ?_⟩
 have := hn j l[j] hj (List.getElem?_eq_getElem (by omega))
 simp [this]
theorem find_no {α : Type} {p : α -> Bool} {l : List α} (hn : ∀ (j : Nat) t, j < l.length -> l[j]? = some t -> p t = false) : l.findIdx? p = none := by
 rw [List.findIdx?_eq_none_iff]
 intro t ht
 obtain ⟨j, hj, e⟩ := List.getElem_of_mem ht
 exact hn j t hj (by rw [List.getElem?_eq_getElem hj, e])
theorem a7e {α : Type} {p : α -> Bool} {l : List α} {k : Nat} {x : α} (hn : ∀ (j : Nat) t, j < k -> l[j]? = some t -> p t = false) (hk : l[k]? = some x) (hx : p x = false) : ∀ (j : Nat) t, j < k + 1 -> l[j]? = some t -> p t = false := by
 intro j t hj ht
 rcases Nat.lt_or_ge j k with h | h
 ·exact hn j t h ht
 ·obtain rfl : j = k := by omega
  rw [hk] at ht
  obtain rfl : x = t := Option.some.inj ht
  exact hx

set_option maxRecDepth 100000 in
set_option maxHeartbeats 1000000 in
theorem b4j (v : Value) (l : List Nmd) (s : List UInt8) (w : World) (h : NmdL w v l) (hl9 : l.length <= 1000000) :
  Calls Tryz.prog 34 #[v, .string (bs s)] w fun e w' => e = .returned (.int .i64 (optZ (a0b l s))) /\ Below w.heap.size w w' := by
 have H := zh h
 have HL := zh hl9
 obtain ⟨A, c, rfl, hl, hcc⟩ := h.slice
 clear h hl9
 go_enter Tryz.func34, Tryz.ntmps34
 have HS := zh (St.start w)
 go_wp2
 go_loopw [5] (fun i wr => ∃ k : Nat, k <= l.length /\ i = .int .i64 k /\ Hid (∀ (j : Nat) t, j < k -> l[j]? = some t -> (t.id == s) = false) /\ Hid (St w [] wr)) (fun i _ => l.length - (intOf i).toNat)
 case atStart => exact ⟨0, Nat.zero_le _, rfl, fun j t hj => absurd hj (Nat.not_lt_zero _), St.start w⟩
 case round =>
  obtain ⟨k, hk, rfl, HN, HS⟩ := hrel
  by_cases hlt : k < l.length
  ·obtain ⟨b, o, x, rfl, hbb, hq, hx⟩ := H.out.at_ hlt
   obtain ⟨q, hpq⟩ : ∃ q, q = (x.id == s) := ⟨_, rfl⟩
   have fe : ((bs x.id).toList == (bs s).toList) = q := by rw [a1d, a1d]; exact hpq.symm
   have HPQ : Hid ((x.id == s) = q) := hpq.symm
   have HQ := zh hq
   have HX := zh hx
   have e0 : (0 : Int) <= ((k : Nat) : Int) := by omega
   have e1 : ((k : Nat) : Int) < (l.length : Int) := by omega
   have e2 : decide (((k : Nat) : Int) < (l.length : Int)) = true := decide_eq_true e1
   have i5 : IntKind.i64.wrap ((k : Int) + 1) = ((k + 1 : Nat) : Int) := by have := HL.out; rw [IntWalk.i64_in _ (by omega)]; rfl
   clear hq hx hpq
   cases q
   ·have x1 := HX.out _ HS.out.below 0 _ rfl
    rw [Nat.add_zero] at x1
    go_wp2
    go_roundw
    case rel => exact ⟨k + 1, by omega, by go_num, a7e (p := fun c : Nmd => c.id == s) HN.out HQ.out HPQ.out, HS⟩
    case measure => simp [intOf]; omega
   ·have x1 := HX.out _ HS.out.below 0 _ rfl
    rw [Nat.add_zero] at x1
    go_wp2
    go_ret
    rw [show a0b l s = some k from find_at HN.out HQ.out HPQ.out]
    exact ⟨rfl, HS.out.below⟩
  ·obtain rfl : k = l.length := by omega
   have e2 : decide (((l.length : Nat) : Int) < (l.length : Int)) = false := decide_eq_false (by omega)
   go_wp2
   go_ret
   rw [show a0b l s = none from find_no HN.out]
   exact ⟨rfl, HS.out.below⟩


theorem a1n : KeyW Tryz.prog 9 strV strL (fun s => s.length <= maxLen) := key_str Tryz.underlying9
theorem b8a : KeyW Tryz.prog 3 intV intL (fun p => (Lit.int .i64 p).wf = true) := key_int Tryz.underlying3
theorem a2w (w : World) : (zeroValue 4).run Tryz.prog w = .ok (.bool false) w := by kernel_rfl
theorem a2j (w : World) : (zeroValue 3).run Tryz.prog w = .ok (.int .i64 0) w := by kernel_rfl
theorem a6x (w : World) : (zeroValue 62).run Tryz.prog w = .ok (.slice none 0 0) w := by kernel_rfl
theorem b2v (w : World) : (zeroValue 51).run Tryz.prog w = .ok (.agg #[.bool false, .string (bs []), .string (bs [])]) w := by kernel_rfl

set_option maxRecDepth 100000 in
set_option maxHeartbeats 1000000 in
theorem a7j (v : Value) (l : List Nmd) (w : World) (h : NmdL w v l) (hfit : ∀ x ∈ l, x.id.length <= 9223372036854775807 /\ x.am.a.length <= 17179869184 /\ x.am.b.length <= 17179869184) (hl9 : l.length <= 1000000) :
  Calls Tryz.prog 12 #[v] w fun e w' => e = .returned (.int .i64 (a1z l)) /\ Below w.heap.size w w' := by
 have H := zh h
 have HFIT := zh hfit
 obtain ⟨A, c, rfl, hl, hcc⟩ := h.slice
 clear h hfit
 have hmm := @run_makeMap Tryz.prog
 by_cases h24 : 24 < l.length
 ·have R := zh (b8h h24)
  have e1 : decide ((24 : Int) < (l.length : Int)) = true := decide_eq_true (by omega)
  have e2 : decide (24 < l.length) = true := decide_eq_true h24
  clear hl9 h24
  go_enter Tryz.func12, Tryz.ntmps12
  have HS := zh (St.start w)
  go_wp2
  go_ret
  rw [R.out]
  exact ⟨rfl, HS.out.below⟩
 ·have e1 : decide ((24 : Int) < (l.length : Int)) = false := decide_eq_false (by omega)
  have e2 : decide (24 < l.length) = false := decide_eq_false h24
  have HL := zh hl9
  have H24 := zh h24
  clear hl9 h24
  go_enter Tryz.func12, Tryz.ntmps12
  have HS := zh (St.start w)
  go_wp2
  go_loopw [12] (fun i wr => ∃ k n : Nat, k <= l.length /\ n <= k /\ i = .int .i64 k /\ Hid (a0v [] l = a0v (l.take k) (l.drop k)) /\ Hid (RMap Tryz.prog 9 strL wr w.heap.size n (b4d l k) (fun _ => .bool true)) /\ Hid (St w [] wr)) (fun i _ => l.length - (intOf i).toNat)
  case atStart => exact ⟨0, 0, Nat.zero_le _, Nat.le_refl _, rfl, rfl, RMap.made _ _ (by simp), (St.alloc' (HS.out) _)⟩
  case round =>
   clear hmm
   obtain ⟨k, n, hk, hn, rfl, HI, HM, HS⟩ := hrel
   by_cases hlt : k < l.length
   ·obtain ⟨b, o, x, rfl, hbb, hq, hx⟩ := H.out.at_ hlt
    obtain ⟨fi, fa, fb⟩ := HFIT.out x (List.mem_of_getElem? hq)
    have h1 := fun W => a6e x.id W fi
    have h2 := fun W => a7h x.am.n x.am.a x.am.b W (by omega) (by omega)
    have n1 := fun h => a5s H24.out HI.out hq (b7u h) (by decide)
    have n2 := fun h h2 => a5s H24.out HI.out hq (b4t h h2) (by decide)
    have n3 := fun h h2 h3 => a5s H24.out HI.out hq (b4u h h2 h3) (by decide)
    have n4 := fun h h2 h3 (h4 : sgn x.am.val.num < 0) => a5s H24.out HI.out hq ((a9c h h2 h3).trans (if_pos h4)) (by decide)
    have n5 := fun h h2 h3 (h4 : ¬ sgn x.am.val.num < 0) => b8g HI.out hq ((a9c h h2 h3).trans (if_neg h4))
    have n6 := fun s => seen_put hq s
    change ∀ W, Calls Tryz.prog _ _ W (fun e w' => e = .returned (.int .i64 (sgn x.am.val.num)) /\ _) at h2
    have hsn : (a0b (l.take k) x.id).isSome = b4d l k x.id := rfl
    rw [hsn] at n2 n3 n4 n5
    obtain ⟨p, hp⟩ : ∃ p, p = a3e x.id := ⟨_, rfl⟩
    obtain ⟨q, hqq⟩ : ∃ q, q = b4d l k x.id := ⟨_, rfl⟩
    obtain ⟨sg, hsg⟩ : ∃ z, z = sgn x.am.val.num := ⟨_, rfl⟩
    rw [<- hp] at h1 n1 n2 n3 n4 n5
    rw [<- hqq] at n2 n3 n4 n5
    rw [<- hsg] at h2 n4 n5
    unfold raw at h2
    have H1 := zh h1
    have H2 := zh h2
    have N1 := zh n1
    have N2 := zh n2
    have N3 := zh n3
    have N4 := zh n4
    have N5 := zh n5
    have N6 := zh n6
    have HX := zh hx
    have HQ : Hid (b4d l k x.id = q) := hqq.symm
    have HF : Hid (x.id.length <= maxLen) := by show _ <= _; unfold maxLen; omega
    have e0 : (0 : Int) <= ((k : Nat) : Int) := by omega
    have e1 : ((k : Nat) : Int) < (l.length : Int) := by omega
    have e2 : decide (((k : Nat) : Int) < (l.length : Int)) = true := decide_eq_true e1
    have i5 : IntKind.i64.wrap ((k : Int) + 1) = ((k + 1 : Nat) : Int) := by have := HL.out; rw [IntWalk.i64_in _ (by omega)]; rfl
    have hmb := HM.out.lt
    clear hx hq hqq hp hsg hsn h1 h2 n1 n2 n3 n4 n5 n6 fi fa fb
    cases p
    ·have R := zh (by first | exact N1.out rfl | exact N1.out trivial | exact N1.out)
     have x1 : b < wr.heap.size := Nat.lt_of_lt_of_le hbb HS.out.below.size
     have x2 : ¬ b = wr.heap.size := by omega
     obtain ⟨x3, x4, x5⟩ := kE0 (HX.out _ HS.out.below) rfl rfl rfl
     have x6 := HX.out _ HS.out.below 3 _ rfl
     have x7 := HX.out _ HS.out.below 4 _ rfl
     go_wp2_with fail
     refine (H1.out _).mono ?_
     rintro e w' ⟨rfl, rfl⟩
     clear x1 x2 x3 x4 x5 x6 x7
     go_wp2
     go_ret
     have HS2 := zh (St.alloc (HS.out) #[.string (bs x.id), .int .i64 x.rank, .bool x.am.n, .string (bs x.am.a), .string (bs x.am.b)] 67 (wr.heap.size) (by simp))
     rw [R.out]
     exact ⟨rfl, HS2.out.below⟩
    ·cases q
     ·by_cases k1 : x.rank < 0
      ·have d1 : decide (x.rank < 0) = true := decide_eq_true k1
       have R := zh (N3.out rfl rfl (.inl k1))
       clear k1
       have x1 : b < wr.heap.size := Nat.lt_of_lt_of_le hbb HS.out.below.size
       have x2 : ¬ b = wr.heap.size := by omega
       obtain ⟨x3, x4, x5⟩ := kE0 (HX.out _ HS.out.below) rfl rfl rfl
       have x6 := HX.out _ HS.out.below 3 _ rfl
       have x7 := HX.out _ HS.out.below 4 _ rfl
       go_wp2_with fail
       refine (H1.out _).mono ?_
       rintro e w' ⟨rfl, rfl⟩
       clear x1 x2 x3 x4 x5 x6 x7
       go_wp2_with (at_lookup; refine a1e rfl _ _ 79 rfl 9 4 a1n Tryz.underlying79 (a2w _) (HM.out.below (Ext.alloc (Below.refl wr.heap.size wr) (Obj.cells #[.string (bs x.id), .int .i64 x.rank, .bool x.am.n, .string (bs x.am.a), .string (bs x.am.b)] 67))) (by simp [Act.eval]) (x.id) (by simp [Act.eval, strV]) HF.out (.bool false) (by rw [HQ.out]; rfl) ?_)
       go_wp2
       go_ret
       have HS2 := zh (St.alloc (HS.out) #[.string (bs x.id), .int .i64 x.rank, .bool x.am.n, .string (bs x.am.a), .string (bs x.am.b)] 67 (wr.heap.size) (by simp))
       rw [R.out]
       exact ⟨rfl, HS2.out.below⟩
      ·by_cases k2 : 7 < x.rank
       ·have d1 : decide (x.rank < 0) = false := decide_eq_false k1
        have d2 : decide (7 < x.rank) = true := decide_eq_true k2
        have R := zh (N3.out rfl rfl (.inr k2))
        clear k1 k2
        have x1 : b < wr.heap.size := Nat.lt_of_lt_of_le hbb HS.out.below.size
        have x2 : ¬ b = wr.heap.size := by omega
        obtain ⟨x3, x4, x5⟩ := kE0 (HX.out _ HS.out.below) rfl rfl rfl
        have x6 := HX.out _ HS.out.below 3 _ rfl
        have x7 := HX.out _ HS.out.below 4 _ rfl
        go_wp2_with fail
        refine (H1.out _).mono ?_
        rintro e w' ⟨rfl, rfl⟩
        clear x1 x2 x3 x4 x5 x6 x7
        go_wp2_with (at_lookup; refine a1e rfl _ _ 79 rfl 9 4 a1n Tryz.underlying79 (a2w _) (HM.out.below (Ext.alloc (Below.refl wr.heap.size wr) (Obj.cells #[.string (bs x.id), .int .i64 x.rank, .bool x.am.n, .string (bs x.am.a), .string (bs x.am.b)] 67))) (by simp [Act.eval]) (x.id) (by simp [Act.eval, strV]) HF.out (.bool false) (by rw [HQ.out]; rfl) ?_)
        go_wp2
        go_ret
        have HS2 := zh (St.alloc (HS.out) #[.string (bs x.id), .int .i64 x.rank, .bool x.am.n, .string (bs x.am.a), .string (bs x.am.b)] 67 (wr.heap.size) (by simp))
        rw [R.out]
        exact ⟨rfl, HS2.out.below⟩
       ·by_cases k3 : sg < 0
        ·have d1 : decide (x.rank < 0) = false := decide_eq_false k1
         have d2 : decide (7 < x.rank) = false := decide_eq_false k2
         have d3 : decide (sg < 0) = true := decide_eq_true k3
         have R := zh (N4.out rfl rfl (fun h => h.elim k1 k2) k3)
         clear k1 k2 k3
         have x1 : b < wr.heap.size := Nat.lt_of_lt_of_le hbb HS.out.below.size
         have x2 : ¬ b = wr.heap.size := by omega
         obtain ⟨x3, x4, x5⟩ := kE0 (HX.out _ HS.out.below) rfl rfl rfl
         have x6 := HX.out _ HS.out.below 3 _ rfl
         have x7 := HX.out _ HS.out.below 4 _ rfl
         go_wp2_with fail
         refine (H1.out _).mono ?_
         rintro e w' ⟨rfl, rfl⟩
         clear x1 x2 x3 x4 x5 x6 x7
         go_wp2_with (at_lookup; refine a1e rfl _ _ 79 rfl 9 4 a1n Tryz.underlying79 (a2w _) (HM.out.below (Ext.alloc (Below.refl wr.heap.size wr) (Obj.cells #[.string (bs x.id), .int .i64 x.rank, .bool x.am.n, .string (bs x.am.a), .string (bs x.am.b)] 67))) (by simp [Act.eval]) (x.id) (by simp [Act.eval, strV]) HF.out (.bool false) (by rw [HQ.out]; rfl) ?_)
         go_wp2_with fail
         have HS2 := zh (St.alloc (HS.out) #[.string (bs x.id), .int .i64 x.rank, .bool x.am.n, .string (bs x.am.a), .string (bs x.am.b)] 67 (wr.heap.size) (by simp))
         refine (H2.out _).mono ?_
         rintro e w3 ⟨rfl, hb3⟩
         have HS3 := zh (HS2.out.call hb3)
         have M_3 := zh ((HM.out.below (Ext.alloc (Below.refl wr.heap.size wr) (Obj.cells #[.string (bs x.id), .int .i64 x.rank, .bool x.am.n, .string (bs x.am.a), .string (bs x.am.b)] 67))).below hb3)
         clear HM
         clear hb3 HS HS2
         go_wp2
         go_ret
         rw [R.out]
         exact ⟨rfl, HS3.out.below⟩
        ·have d1 : decide (x.rank < 0) = false := decide_eq_false k1
         have d2 : decide (7 < x.rank) = false := decide_eq_false k2
         have d3 : decide (sg < 0) = false := decide_eq_false k3
         have R := zh (N5.out rfl rfl (fun h => h.elim k1 k2) k3)
         clear k1 k2 k3
         have x1 : b < wr.heap.size := Nat.lt_of_lt_of_le hbb HS.out.below.size
         have x2 : ¬ b = wr.heap.size := by omega
         obtain ⟨x3, x4, x5⟩ := kE0 (HX.out _ HS.out.below) rfl rfl rfl
         have x6 := HX.out _ HS.out.below 3 _ rfl
         have x7 := HX.out _ HS.out.below 4 _ rfl
         go_wp2_with fail
         refine (H1.out _).mono ?_
         rintro e w' ⟨rfl, rfl⟩
         clear x1 x2 x3 x4 x5 x6 x7
         go_wp2_with (at_lookup; refine a1e rfl _ _ 79 rfl 9 4 a1n Tryz.underlying79 (a2w _) (HM.out.below (Ext.alloc (Below.refl wr.heap.size wr) (Obj.cells #[.string (bs x.id), .int .i64 x.rank, .bool x.am.n, .string (bs x.am.a), .string (bs x.am.b)] 67))) (by simp [Act.eval]) (x.id) (by simp [Act.eval, strV]) HF.out (.bool false) (by rw [HQ.out]; rfl) ?_)
         go_wp2_with fail
         have HS2 := zh (St.alloc (HS.out) #[.string (bs x.id), .int .i64 x.rank, .bool x.am.n, .string (bs x.am.a), .string (bs x.am.b)] 67 (wr.heap.size) (by simp))
         refine (H2.out _).mono ?_
         rintro e w3 ⟨rfl, hb3⟩
         have HS3 := zh (HS2.out.call hb3)
         have M_3 := zh ((HM.out.below (Ext.alloc (Below.refl wr.heap.size wr) (Obj.cells #[.string (bs x.id), .int .i64 x.rank, .bool x.am.n, .string (bs x.am.a), .string (bs x.am.b)] 67))).below hb3)
         clear HM
         clear hb3 HS HS2
         have x8 := HS3.out.cell 0 rfl 0 rfl
         go_wp2_with (at_mapUpdate; refine a2d rfl _ _ _ 79 rfl 9 4 a1n Tryz.underlying79 M_3.out (by have := HL.out; unfold maxLen; omega) (by simp [Act.eval]) (x.id) (by simp [Act.eval, strV]) HF.out (.bool true) (by simp [Act.eval]) ?_)
         intro w9 hown9 hg9
         have HS9 := zh (HS3.out.turnedM M_3.out hg9 (by omega))
         have HM9 := zh (hown9.congr (S' := b4d l (k + 1)) (f' := fun _ => .bool true) N6.out (fun q _ => by unfold putV; split <;> rfl))
         clear hown9 hg9 HS3 M_3 x8
         go_wp2
         go_roundw
         case rel => exact ⟨k + 1, n + 1, by omega, by omega, by go_num, R.out, HM9.out, HS9.out.sub (by simp)⟩
         case measure => simp [intOf]; omega
     ·have R := zh (by first | exact N2.out rfl rfl | exact N2.out trivial trivial | exact N2.out)
      have x1 : b < wr.heap.size := Nat.lt_of_lt_of_le hbb HS.out.below.size
      have x2 : ¬ b = wr.heap.size := by omega
      obtain ⟨x3, x4, x5⟩ := kE0 (HX.out _ HS.out.below) rfl rfl rfl
      have x6 := HX.out _ HS.out.below 3 _ rfl
      have x7 := HX.out _ HS.out.below 4 _ rfl
      go_wp2_with fail
      refine (H1.out _).mono ?_
      rintro e w' ⟨rfl, rfl⟩
      clear x1 x2 x3 x4 x5 x6 x7
      go_wp2_with (at_lookup; refine a1e rfl _ _ 79 rfl 9 4 a1n Tryz.underlying79 (a2w _) (HM.out.below (Ext.alloc (Below.refl wr.heap.size wr) (Obj.cells #[.string (bs x.id), .int .i64 x.rank, .bool x.am.n, .string (bs x.am.a), .string (bs x.am.b)] 67))) (by simp [Act.eval]) (x.id) (by simp [Act.eval, strV]) HF.out (.bool true) (by rw [HQ.out]; rfl) ?_)
      go_wp2
      go_ret
      have HS2 := zh (St.alloc (HS.out) #[.string (bs x.id), .int .i64 x.rank, .bool x.am.n, .string (bs x.am.a), .string (bs x.am.b)] 67 (wr.heap.size) (by simp))
      rw [R.out]
      exact ⟨rfl, HS2.out.below⟩
   ·obtain rfl : k = l.length := by omega
    have e2 : decide (((l.length : Nat) : Int) < (l.length : Int)) = false := decide_eq_false (by omega)
    go_wp2
    go_ret
    rw [b8j H24.out HI.out]
    exact ⟨rfl, HS.out.below⟩

set_option maxRecDepth 100000 in
set_option maxHeartbeats 2000000 in
theorem a9u (v : Value) (l : List Nmd) (w : World) (h : NmdL w v l) (hfit : ∀ x ∈ l, x.id.length <= 9223372036854775807 /\ x.am.a.length <= 17179869184 /\ x.am.b.length <= 17179869184) (hl9 : l.length <= 1000000) :
  Calls Tryz.prog 13 #[v] w fun e w' => e = .returned (.int .i64 (a1z l)) /\ Below w.heap.size w w' := by
 have H := zh h
 have HFIT := zh hfit
 obtain ⟨A, c, rfl, hl, hcc⟩ := h.slice
 clear h hfit
 by_cases h24 : 24 < l.length
 ·have R := zh (b8h h24)
  have e1 : decide ((24 : Int) < (l.length : Int)) = true := decide_eq_true (by omega)
  have e2 : decide (24 < l.length) = true := decide_eq_true h24
  clear hl9 h24
  go_enter Tryz.func13, Tryz.ntmps13
  have HS := zh (St.start w)
  go_wp2
  go_ret
  rw [R.out]
  exact ⟨rfl, HS.out.below⟩
 ·have e1 : decide ((24 : Int) < (l.length : Int)) = false := decide_eq_false (by omega)
  have e2 : decide (24 < l.length) = false := decide_eq_false h24
  have HL := zh hl9
  have H24 := zh h24
  have HC1 := zh hl
  clear hl9 h24
  go_enter Tryz.func13, Tryz.ntmps13
  have HS := zh (St.start w)
  go_wp2
  go_loopw [3] (fun i wr => ∃ k : Nat, k <= l.length /\ i = .int .i64 k /\ Hid (a0v [] l = a0v (l.take k) (l.drop k)) /\ Hid (St w [] wr)) (fun i _ => l.length - (intOf i).toNat)
  case atStart => exact ⟨0, Nat.zero_le _, rfl, rfl, HS.out⟩
  case round =>
   obtain ⟨k, hk, rfl, HI, HS⟩ := hrel
   by_cases hlt : k < l.length
   ·obtain ⟨b, o, x, rfl, hbb, hq, hx⟩ := H.out.at_ hlt
    obtain ⟨fi, fa, fb⟩ := HFIT.out x (List.mem_of_getElem? hq)
    have h1 := fun W => b8w x.id W fi
    have h2 := fun W => ref_Sign x.am.n x.am.a x.am.b W (by omega) (by omega)
    have h3 := fun W (hb : Below w.heap.size w W) => b4j _ (l.take k) x.id W ((H.out.below hb).first (h := k) hk) (by have := HL.out; rw [List.length_take]; omega)
    have n1 := fun h => a5s H24.out HI.out hq (b7u h) (by decide)
    have n2 := fun h h2 => a5s H24.out HI.out hq (b4t h h2) (by decide)
    have n3 := fun h h2 h3 => a5s H24.out HI.out hq (b4u h h2 h3) (by decide)
    have n4 := fun h h2 h3 (h4 : sgn x.am.val.num < 0) => a5s H24.out HI.out hq ((a9c h h2 h3).trans (if_pos h4)) (by decide)
    have n5 := fun h h2 h3 (h4 : ¬ sgn x.am.val.num < 0) => b8g HI.out hq ((a9c h h2 h3).trans (if_neg h4))
    change ∀ W, Calls Tryz.prog _ _ W (fun e w' => e = .returned (.int .i64 (sgn x.am.val.num)) /\ _) at h2
    have hz0 : decide (0 <= optZ (a0b (l.take k) x.id)) = (a0b (l.take k) x.id).isSome := opt_some _
    obtain ⟨p, hp⟩ : ∃ p, p = a3e x.id := ⟨_, rfl⟩
    obtain ⟨q, hqq⟩ : ∃ q, q = (a0b (l.take k) x.id).isSome := ⟨_, rfl⟩
    obtain ⟨z, hz⟩ : ∃ z, z = optZ (a0b (l.take k) x.id) := ⟨_, rfl⟩
    obtain ⟨sg, hsg⟩ : ∃ z, z = sgn x.am.val.num := ⟨_, rfl⟩
    rw [<- hp] at h1 n1 n2 n3 n4 n5
    rw [<- hqq] at n2 n3 n4 n5
    rw [<- hz, <- hqq] at hz0
    rw [<- hz] at h3
    rw [<- hsg] at h2 n4 n5
    unfold raw at h2
    have H1 := zh h1
    have H2 := zh h2
    have H3 := zh h3
    have N1 := zh n1
    have N2 := zh n2
    have N3 := zh n3
    have N4 := zh n4
    have N5 := zh n5
    have HX := zh hx
    have e0 : (0 : Int) <= ((k : Nat) : Int) := by omega
    have e1 : ((k : Nat) : Int) < (l.length : Int) := by omega
    have e2 : decide (((k : Nat) : Int) < (l.length : Int)) = true := decide_eq_true e1
    have e6 : ((k : Nat) : Int) <= ((l.length : Nat) : Int) := by omega
    have e7 : ((k : Nat) : Int) <= ((c : Nat) : Int) := by have := HC1.out; omega
    have i5 : IntKind.i64.wrap ((k : Int) + 1) = ((k + 1 : Nat) : Int) := by have := HL.out; rw [IntWalk.i64_in _ (by omega)]; rfl
    clear hx hq hqq hp hsg hz h1 h2 h3 n1 n2 n3 n4 n5 fi fa fb
    cases p
    ·have R := zh (by first | exact N1.out rfl  | exact N1.out trivial  | exact N1.out )
     have x1 := HX.out _ HS.out.below 0 _ rfl
     rw [Nat.add_zero] at x1
     go_wp2_with fail
     refine (H1.out _).mono ?_
     rintro e w' ⟨rfl, rfl⟩
     clear x1
     go_wp2
     go_ret
     rw [R.out]
     exact ⟨rfl, HS.out.below⟩
    ·cases q
     ·by_cases k1 : x.rank < 0
      ·have d1 : decide (x.rank < 0) = true := decide_eq_true k1
       have R := zh (by first | exact N3.out rfl rfl (.inl k1) | exact N3.out trivial trivial (.inl k1) | exact N3.out (.inl k1))
       clear k1
       have x1 := HX.out _ HS.out.below 0 _ rfl
       rw [Nat.add_zero] at x1
       go_wp2_with fail
       refine (H1.out _).mono ?_
       rintro e w' ⟨rfl, rfl⟩
       clear x1
       go_wp2
       refine a0n 10 [.slice (some ⟨b, o, none⟩) l.length c, .int .i64 (k : Nat), .slice (some ⟨b, o, none⟩) k c, .slice (some ⟨b, o, none⟩) l.length c, .int .i64 (k : Nat), .pointer (some ⟨b, o + k * 5, none⟩), .pointer (some ⟨b, o + k * 5, none⟩), .string (bs x.id), .int .i64 z, .bool false] rfl (by kernel_rfl) (by kernel_rfl) (by kernel_rfl) ?_ ?_
       refine ⟨?_, ?_, ?_, ?_, ?_, ?_, ?_, ?_, ?_, ?_, trivial⟩
       ·intro xx af wv hbx hev hev0 hd; have e0 : af.tmps[0]?.getD undef = .slice (some ⟨b, o, none⟩) l.length c := hev0 0 rfl; clear hev hev0 hd; go_wp2; exact sQ rfl
       ·intro xx af wv hbx hev hev0 hd; have e3 : af.tmps[3]?.getD undef = .int .i64 (k : Nat) := hev0 3 rfl; clear hev hev0 hd; go_wp2; exact sQ rfl
       ·intro xx af wv hbx hev hev0 hd; have e22 := (hev 0 _ 22 rfl rfl).trans (hd ⟨0, .data⟩ (by simp) rfl); have e23 := (hev 1 _ 23 rfl rfl).trans (hd ⟨1, .data⟩ (by simp) rfl); clear hev hev0 hd; go_wp2; exact sQ rfl
       ·intro xx af wv hbx hev hev0 hd; have e0 : af.tmps[0]?.getD undef = .slice (some ⟨b, o, none⟩) l.length c := hev0 0 rfl; clear hev hev0 hd; go_wp2; exact sQ rfl
       ·intro xx af wv hbx hev hev0 hd; have e3 : af.tmps[3]?.getD undef = .int .i64 (k : Nat) := hev0 3 rfl; clear hev hev0 hd; go_wp2; exact sQ rfl
       ·intro xx af wv hbx hev hev0 hd; have e25 := (hev 3 _ 25 rfl rfl).trans (hd ⟨3, .data⟩ (by simp) rfl); have e26 := (hev 4 _ 26 rfl rfl).trans (hd ⟨4, .data⟩ (by simp) rfl); clear hev hev0 hd; go_wp2; exact sQ rfl
       ·intro xx af wv hbx hev hev0 hd; have e27 := (hev 5 _ 27 rfl rfl).trans (hd ⟨5, .data⟩ (by simp) rfl); clear hev hev0 hd; go_wp2; exact sQ rfl
       ·intro xx af wv hbx hev hev0 hd; have e28 := (hev 6 _ 28 rfl rfl).trans (hd ⟨6, .data⟩ (by simp) rfl); clear hev hev0 hd; have hs1 := zh (HS.out.call hbx); have y0 := HX.out _ hs1.out.below 0 _ rfl; rw [Nat.add_zero] at y0; go_wp2; exact sQ rfl
       ·intro xx af wv hbx hev hev0 hd
        have e24 := (hev 2 _ 24 rfl rfl).trans (hd ⟨2, .data⟩ (by simp) rfl)
        have e29 := (hev 7 _ 29 rfl rfl).trans (hd ⟨7, .data⟩ (by simp) rfl)
        clear hev hev0 hd
        have hs1 := zh (HS.out.call hbx)
        go_wp2_with fail
        refine (H3.out _ hs1.out.below).mono ?_
        rintro e w8 ⟨rfl, hb8⟩
        go_wp2
        exact StepQ.mk _ hb8 rfl
       ·intro xx af wv hbx hev hev0 hd; have e30 := (hev 8 _ 30 rfl rfl).trans (hd ⟨8, .data⟩ (by simp) rfl); clear hev hev0 hd; go_wp2; exact sQ rfl
       intro xx w2 hb9 hv
       simp only [List.take, List.drop, a0j, Act.put]
       simp only [show xx 0 = _ from hv 0 (by decide), show xx 1 = _ from hv 1 (by decide), show xx 2 = _ from hv 2 (by decide), show xx 3 = _ from hv 3 (by decide), show xx 4 = _ from hv 4 (by decide), show xx 5 = _ from hv 5 (by decide), show xx 6 = _ from hv 6 (by decide), show xx 7 = _ from hv 7 (by decide), show xx 8 = _ from hv 8 (by decide), show xx 9 = _ from hv 9 (by decide)]
       clear hv
       have HS2 := zh (HS.out.call hb9)
       clear hb9 HS
       have x2 := HX.out _ HS2.out.below 1 _ rfl
       go_wp2
       go_ret
       rw [R.out]
       exact ⟨rfl, HS2.out.below⟩
      ·by_cases k2 : 7 < x.rank
       ·have d1 : decide (x.rank < 0) = false := decide_eq_false k1
        have d2 : decide (7 < x.rank) = true := decide_eq_true k2
        have R := zh (by first | exact N3.out rfl rfl (.inr k2) | exact N3.out trivial trivial (.inr k2) | exact N3.out (.inr k2))
        clear k1 k2
        have x1 := HX.out _ HS.out.below 0 _ rfl
        rw [Nat.add_zero] at x1
        go_wp2_with fail
        refine (H1.out _).mono ?_
        rintro e w' ⟨rfl, rfl⟩
        clear x1
        go_wp2
        refine a0n 10 [.slice (some ⟨b, o, none⟩) l.length c, .int .i64 (k : Nat), .slice (some ⟨b, o, none⟩) k c, .slice (some ⟨b, o, none⟩) l.length c, .int .i64 (k : Nat), .pointer (some ⟨b, o + k * 5, none⟩), .pointer (some ⟨b, o + k * 5, none⟩), .string (bs x.id), .int .i64 z, .bool false] rfl (by kernel_rfl) (by kernel_rfl) (by kernel_rfl) ?_ ?_
        refine ⟨?_, ?_, ?_, ?_, ?_, ?_, ?_, ?_, ?_, ?_, trivial⟩
        ·intro xx af wv hbx hev hev0 hd; have e0 : af.tmps[0]?.getD undef = .slice (some ⟨b, o, none⟩) l.length c := hev0 0 rfl; clear hev hev0 hd; go_wp2; exact sQ rfl
        ·intro xx af wv hbx hev hev0 hd; have e3 : af.tmps[3]?.getD undef = .int .i64 (k : Nat) := hev0 3 rfl; clear hev hev0 hd; go_wp2; exact sQ rfl
        ·intro xx af wv hbx hev hev0 hd; have e22 := (hev 0 _ 22 rfl rfl).trans (hd ⟨0, .data⟩ (by simp) rfl); have e23 := (hev 1 _ 23 rfl rfl).trans (hd ⟨1, .data⟩ (by simp) rfl); clear hev hev0 hd; go_wp2; exact sQ rfl
        ·intro xx af wv hbx hev hev0 hd; have e0 : af.tmps[0]?.getD undef = .slice (some ⟨b, o, none⟩) l.length c := hev0 0 rfl; clear hev hev0 hd; go_wp2; exact sQ rfl
        ·intro xx af wv hbx hev hev0 hd; have e3 : af.tmps[3]?.getD undef = .int .i64 (k : Nat) := hev0 3 rfl; clear hev hev0 hd; go_wp2; exact sQ rfl
        ·intro xx af wv hbx hev hev0 hd; have e25 := (hev 3 _ 25 rfl rfl).trans (hd ⟨3, .data⟩ (by simp) rfl); have e26 := (hev 4 _ 26 rfl rfl).trans (hd ⟨4, .data⟩ (by simp) rfl); clear hev hev0 hd; go_wp2; exact sQ rfl
        ·intro xx af wv hbx hev hev0 hd; have e27 := (hev 5 _ 27 rfl rfl).trans (hd ⟨5, .data⟩ (by simp) rfl); clear hev hev0 hd; go_wp2; exact sQ rfl
        ·intro xx af wv hbx hev hev0 hd; have e28 := (hev 6 _ 28 rfl rfl).trans (hd ⟨6, .data⟩ (by simp) rfl); clear hev hev0 hd; have hs1 := zh (HS.out.call hbx); have y0 := HX.out _ hs1.out.below 0 _ rfl; rw [Nat.add_zero] at y0; go_wp2; exact sQ rfl
        ·intro xx af wv hbx hev hev0 hd
         have e24 := (hev 2 _ 24 rfl rfl).trans (hd ⟨2, .data⟩ (by simp) rfl)
         have e29 := (hev 7 _ 29 rfl rfl).trans (hd ⟨7, .data⟩ (by simp) rfl)
         clear hev hev0 hd
         have hs1 := zh (HS.out.call hbx)
         go_wp2_with fail
         refine (H3.out _ hs1.out.below).mono ?_
         rintro e w8 ⟨rfl, hb8⟩
         go_wp2
         exact StepQ.mk _ hb8 rfl
        ·intro xx af wv hbx hev hev0 hd; have e30 := (hev 8 _ 30 rfl rfl).trans (hd ⟨8, .data⟩ (by simp) rfl); clear hev hev0 hd; go_wp2; exact sQ rfl
        intro xx w2 hb9 hv
        simp only [List.take, List.drop, a0j, Act.put]
        simp only [show xx 0 = _ from hv 0 (by decide), show xx 1 = _ from hv 1 (by decide), show xx 2 = _ from hv 2 (by decide), show xx 3 = _ from hv 3 (by decide), show xx 4 = _ from hv 4 (by decide), show xx 5 = _ from hv 5 (by decide), show xx 6 = _ from hv 6 (by decide), show xx 7 = _ from hv 7 (by decide), show xx 8 = _ from hv 8 (by decide), show xx 9 = _ from hv 9 (by decide)]
        clear hv
        have HS2 := zh (HS.out.call hb9)
        clear hb9 HS
        have x2 := HX.out _ HS2.out.below 1 _ rfl
        go_wp2
        go_ret
        rw [R.out]
        exact ⟨rfl, HS2.out.below⟩
       ·by_cases k3 : sg < 0
        ·have d1 : decide (x.rank < 0) = false := decide_eq_false k1
         have d2 : decide (7 < x.rank) = false := decide_eq_false k2
         have d3 : decide (sg < 0) = true := decide_eq_true k3
         have R := zh (by first | exact N4.out rfl rfl (fun h => h.elim k1 k2) k3 | exact N4.out trivial trivial (fun h => h.elim k1 k2) k3 | exact N4.out (fun h => h.elim k1 k2) k3)
         clear k1 k2 k3
         have x1 := HX.out _ HS.out.below 0 _ rfl
         rw [Nat.add_zero] at x1
         go_wp2_with fail
         refine (H1.out _).mono ?_
         rintro e w' ⟨rfl, rfl⟩
         clear x1
         go_wp2
         refine a0n 10 [.slice (some ⟨b, o, none⟩) l.length c, .int .i64 (k : Nat), .slice (some ⟨b, o, none⟩) k c, .slice (some ⟨b, o, none⟩) l.length c, .int .i64 (k : Nat), .pointer (some ⟨b, o + k * 5, none⟩), .pointer (some ⟨b, o + k * 5, none⟩), .string (bs x.id), .int .i64 z, .bool false] rfl (by kernel_rfl) (by kernel_rfl) (by kernel_rfl) ?_ ?_
         refine ⟨?_, ?_, ?_, ?_, ?_, ?_, ?_, ?_, ?_, ?_, trivial⟩
         ·intro xx af wv hbx hev hev0 hd; have e0 : af.tmps[0]?.getD undef = .slice (some ⟨b, o, none⟩) l.length c := hev0 0 rfl; clear hev hev0 hd; go_wp2; exact sQ rfl
         ·intro xx af wv hbx hev hev0 hd; have e3 : af.tmps[3]?.getD undef = .int .i64 (k : Nat) := hev0 3 rfl; clear hev hev0 hd; go_wp2; exact sQ rfl
         ·intro xx af wv hbx hev hev0 hd; have e22 := (hev 0 _ 22 rfl rfl).trans (hd ⟨0, .data⟩ (by simp) rfl); have e23 := (hev 1 _ 23 rfl rfl).trans (hd ⟨1, .data⟩ (by simp) rfl); clear hev hev0 hd; go_wp2; exact sQ rfl
         ·intro xx af wv hbx hev hev0 hd; have e0 : af.tmps[0]?.getD undef = .slice (some ⟨b, o, none⟩) l.length c := hev0 0 rfl; clear hev hev0 hd; go_wp2; exact sQ rfl
         ·intro xx af wv hbx hev hev0 hd; have e3 : af.tmps[3]?.getD undef = .int .i64 (k : Nat) := hev0 3 rfl; clear hev hev0 hd; go_wp2; exact sQ rfl
         ·intro xx af wv hbx hev hev0 hd; have e25 := (hev 3 _ 25 rfl rfl).trans (hd ⟨3, .data⟩ (by simp) rfl); have e26 := (hev 4 _ 26 rfl rfl).trans (hd ⟨4, .data⟩ (by simp) rfl); clear hev hev0 hd; go_wp2; exact sQ rfl
         ·intro xx af wv hbx hev hev0 hd; have e27 := (hev 5 _ 27 rfl rfl).trans (hd ⟨5, .data⟩ (by simp) rfl); clear hev hev0 hd; go_wp2; exact sQ rfl
         ·intro xx af wv hbx hev hev0 hd; have e28 := (hev 6 _ 28 rfl rfl).trans (hd ⟨6, .data⟩ (by simp) rfl); clear hev hev0 hd; have hs1 := zh (HS.out.call hbx); have y0 := HX.out _ hs1.out.below 0 _ rfl; rw [Nat.add_zero] at y0; go_wp2; exact sQ rfl
         ·intro xx af wv hbx hev hev0 hd
          have e24 := (hev 2 _ 24 rfl rfl).trans (hd ⟨2, .data⟩ (by simp) rfl)
          have e29 := (hev 7 _ 29 rfl rfl).trans (hd ⟨7, .data⟩ (by simp) rfl)
          clear hev hev0 hd
          have hs1 := zh (HS.out.call hbx)
          go_wp2_with fail
          refine (H3.out _ hs1.out.below).mono ?_
          rintro e w8 ⟨rfl, hb8⟩
          go_wp2
          exact StepQ.mk _ hb8 rfl
         ·intro xx af wv hbx hev hev0 hd; have e30 := (hev 8 _ 30 rfl rfl).trans (hd ⟨8, .data⟩ (by simp) rfl); clear hev hev0 hd; go_wp2; exact sQ rfl
         intro xx w2 hb9 hv
         simp only [List.take, List.drop, a0j, Act.put]
         simp only [show xx 0 = _ from hv 0 (by decide), show xx 1 = _ from hv 1 (by decide), show xx 2 = _ from hv 2 (by decide), show xx 3 = _ from hv 3 (by decide), show xx 4 = _ from hv 4 (by decide), show xx 5 = _ from hv 5 (by decide), show xx 6 = _ from hv 6 (by decide), show xx 7 = _ from hv 7 (by decide), show xx 8 = _ from hv 8 (by decide), show xx 9 = _ from hv 9 (by decide)]
         clear hv
         have HS2 := zh (HS.out.call hb9)
         clear hb9 HS
         obtain ⟨x2, x3, x4⟩ := kE1 (HX.out _ HS2.out.below) rfl rfl rfl
         have x5 := HX.out _ HS2.out.below 4 _ rfl
         go_wp2_with fail
         refine (H2.out _).mono ?_
         rintro e w3 ⟨rfl, hb3⟩
         have HS3 := zh (HS2.out.call hb3)
         clear hb3 HS2
         clear x2 x3 x4 x5
         go_wp2
         go_ret
         rw [R.out]
         exact ⟨rfl, HS3.out.below⟩
        ·have d1 : decide (x.rank < 0) = false := decide_eq_false k1
         have d2 : decide (7 < x.rank) = false := decide_eq_false k2
         have d3 : decide (sg < 0) = false := decide_eq_false k3
         have R := zh (by first | exact N5.out rfl rfl (fun h => h.elim k1 k2) k3 | exact N5.out trivial trivial (fun h => h.elim k1 k2) k3 | exact N5.out (fun h => h.elim k1 k2) k3)
         clear k1 k2 k3
         have x1 := HX.out _ HS.out.below 0 _ rfl
         rw [Nat.add_zero] at x1
         go_wp2_with fail
         refine (H1.out _).mono ?_
         rintro e w' ⟨rfl, rfl⟩
         clear x1
         go_wp2
         refine a0n 10 [.slice (some ⟨b, o, none⟩) l.length c, .int .i64 (k : Nat), .slice (some ⟨b, o, none⟩) k c, .slice (some ⟨b, o, none⟩) l.length c, .int .i64 (k : Nat), .pointer (some ⟨b, o + k * 5, none⟩), .pointer (some ⟨b, o + k * 5, none⟩), .string (bs x.id), .int .i64 z, .bool false] rfl (by kernel_rfl) (by kernel_rfl) (by kernel_rfl) ?_ ?_
         refine ⟨?_, ?_, ?_, ?_, ?_, ?_, ?_, ?_, ?_, ?_, trivial⟩
         ·intro xx af wv hbx hev hev0 hd; have e0 : af.tmps[0]?.getD undef = .slice (some ⟨b, o, none⟩) l.length c := hev0 0 rfl; clear hev hev0 hd; go_wp2; exact sQ rfl
         ·intro xx af wv hbx hev hev0 hd; have e3 : af.tmps[3]?.getD undef = .int .i64 (k : Nat) := hev0 3 rfl; clear hev hev0 hd; go_wp2; exact sQ rfl
         ·intro xx af wv hbx hev hev0 hd; have e22 := (hev 0 _ 22 rfl rfl).trans (hd ⟨0, .data⟩ (by simp) rfl); have e23 := (hev 1 _ 23 rfl rfl).trans (hd ⟨1, .data⟩ (by simp) rfl); clear hev hev0 hd; go_wp2; exact sQ rfl
         ·intro xx af wv hbx hev hev0 hd; have e0 : af.tmps[0]?.getD undef = .slice (some ⟨b, o, none⟩) l.length c := hev0 0 rfl; clear hev hev0 hd; go_wp2; exact sQ rfl
         ·intro xx af wv hbx hev hev0 hd; have e3 : af.tmps[3]?.getD undef = .int .i64 (k : Nat) := hev0 3 rfl; clear hev hev0 hd; go_wp2; exact sQ rfl
         ·intro xx af wv hbx hev hev0 hd; have e25 := (hev 3 _ 25 rfl rfl).trans (hd ⟨3, .data⟩ (by simp) rfl); have e26 := (hev 4 _ 26 rfl rfl).trans (hd ⟨4, .data⟩ (by simp) rfl); clear hev hev0 hd; go_wp2; exact sQ rfl
         ·intro xx af wv hbx hev hev0 hd; have e27 := (hev 5 _ 27 rfl rfl).trans (hd ⟨5, .data⟩ (by simp) rfl); clear hev hev0 hd; go_wp2; exact sQ rfl
         ·intro xx af wv hbx hev hev0 hd; have e28 := (hev 6 _ 28 rfl rfl).trans (hd ⟨6, .data⟩ (by simp) rfl); clear hev hev0 hd; have hs1 := zh (HS.out.call hbx); have y0 := HX.out _ hs1.out.below 0 _ rfl; rw [Nat.add_zero] at y0; go_wp2; exact sQ rfl
         ·intro xx af wv hbx hev hev0 hd
          have e24 := (hev 2 _ 24 rfl rfl).trans (hd ⟨2, .data⟩ (by simp) rfl)
          have e29 := (hev 7 _ 29 rfl rfl).trans (hd ⟨7, .data⟩ (by simp) rfl)
          clear hev hev0 hd
          have hs1 := zh (HS.out.call hbx)
          go_wp2_with fail
          refine (H3.out _ hs1.out.below).mono ?_
          rintro e w8 ⟨rfl, hb8⟩
          go_wp2
          exact StepQ.mk _ hb8 rfl
         ·intro xx af wv hbx hev hev0 hd; have e30 := (hev 8 _ 30 rfl rfl).trans (hd ⟨8, .data⟩ (by simp) rfl); clear hev hev0 hd; go_wp2; exact sQ rfl
         intro xx w2 hb9 hv
         simp only [List.take, List.drop, a0j, Act.put]
         simp only [show xx 0 = _ from hv 0 (by decide), show xx 1 = _ from hv 1 (by decide), show xx 2 = _ from hv 2 (by decide), show xx 3 = _ from hv 3 (by decide), show xx 4 = _ from hv 4 (by decide), show xx 5 = _ from hv 5 (by decide), show xx 6 = _ from hv 6 (by decide), show xx 7 = _ from hv 7 (by decide), show xx 8 = _ from hv 8 (by decide), show xx 9 = _ from hv 9 (by decide)]
         clear hv
         have HS2 := zh (HS.out.call hb9)
         clear hb9 HS
         obtain ⟨x2, x3, x4⟩ := kE1 (HX.out _ HS2.out.below) rfl rfl rfl
         have x5 := HX.out _ HS2.out.below 4 _ rfl
         go_wp2_with fail
         refine (H2.out _).mono ?_
         rintro e w3 ⟨rfl, hb3⟩
         have HS3 := zh (HS2.out.call hb3)
         clear hb3 HS2
         clear x2 x3 x4 x5
         go_wp2
         go_roundw
         case rel => exact ⟨k + 1, by omega, by go_num, R.out, HS3.out.sub (by simp)⟩
         case measure => simp [intOf]; omega
     ·have R := zh (by first | exact N2.out rfl rfl  | exact N2.out trivial trivial  | exact N2.out )
      have x1 := HX.out _ HS.out.below 0 _ rfl
      rw [Nat.add_zero] at x1
      go_wp2_with fail
      refine (H1.out _).mono ?_
      rintro e w' ⟨rfl, rfl⟩
      clear x1
      go_wp2
      refine a0n 10 [.slice (some ⟨b, o, none⟩) l.length c, .int .i64 (k : Nat), .slice (some ⟨b, o, none⟩) k c, .slice (some ⟨b, o, none⟩) l.length c, .int .i64 (k : Nat), .pointer (some ⟨b, o + k * 5, none⟩), .pointer (some ⟨b, o + k * 5, none⟩), .string (bs x.id), .int .i64 z, .bool true] rfl (by kernel_rfl) (by kernel_rfl) (by kernel_rfl) ?_ ?_
      refine ⟨?_, ?_, ?_, ?_, ?_, ?_, ?_, ?_, ?_, ?_, trivial⟩
      ·intro xx af wv hbx hev hev0 hd; have e0 : af.tmps[0]?.getD undef = .slice (some ⟨b, o, none⟩) l.length c := hev0 0 rfl; clear hev hev0 hd; go_wp2; exact sQ rfl
      ·intro xx af wv hbx hev hev0 hd; have e3 : af.tmps[3]?.getD undef = .int .i64 (k : Nat) := hev0 3 rfl; clear hev hev0 hd; go_wp2; exact sQ rfl
      ·intro xx af wv hbx hev hev0 hd; have e22 := (hev 0 _ 22 rfl rfl).trans (hd ⟨0, .data⟩ (by simp) rfl); have e23 := (hev 1 _ 23 rfl rfl).trans (hd ⟨1, .data⟩ (by simp) rfl); clear hev hev0 hd; go_wp2; exact sQ rfl
      ·intro xx af wv hbx hev hev0 hd; have e0 : af.tmps[0]?.getD undef = .slice (some ⟨b, o, none⟩) l.length c := hev0 0 rfl; clear hev hev0 hd; go_wp2; exact sQ rfl
      ·intro xx af wv hbx hev hev0 hd; have e3 : af.tmps[3]?.getD undef = .int .i64 (k : Nat) := hev0 3 rfl; clear hev hev0 hd; go_wp2; exact sQ rfl
      ·intro xx af wv hbx hev hev0 hd; have e25 := (hev 3 _ 25 rfl rfl).trans (hd ⟨3, .data⟩ (by simp) rfl); have e26 := (hev 4 _ 26 rfl rfl).trans (hd ⟨4, .data⟩ (by simp) rfl); clear hev hev0 hd; go_wp2; exact sQ rfl
      ·intro xx af wv hbx hev hev0 hd; have e27 := (hev 5 _ 27 rfl rfl).trans (hd ⟨5, .data⟩ (by simp) rfl); clear hev hev0 hd; go_wp2; exact sQ rfl
      ·intro xx af wv hbx hev hev0 hd; have e28 := (hev 6 _ 28 rfl rfl).trans (hd ⟨6, .data⟩ (by simp) rfl); clear hev hev0 hd; have hs1 := zh (HS.out.call hbx); have y0 := HX.out _ hs1.out.below 0 _ rfl; rw [Nat.add_zero] at y0; go_wp2; exact sQ rfl
      ·intro xx af wv hbx hev hev0 hd
       have e24 := (hev 2 _ 24 rfl rfl).trans (hd ⟨2, .data⟩ (by simp) rfl)
       have e29 := (hev 7 _ 29 rfl rfl).trans (hd ⟨7, .data⟩ (by simp) rfl)
       clear hev hev0 hd
       have hs1 := zh (HS.out.call hbx)
       go_wp2_with fail
       refine (H3.out _ hs1.out.below).mono ?_
       rintro e w8 ⟨rfl, hb8⟩
       go_wp2
       exact StepQ.mk _ hb8 rfl
      ·intro xx af wv hbx hev hev0 hd; have e30 := (hev 8 _ 30 rfl rfl).trans (hd ⟨8, .data⟩ (by simp) rfl); clear hev hev0 hd; go_wp2; exact sQ rfl
      intro xx w2 hb9 hv
      simp only [List.take, List.drop, a0j, Act.put]
      simp only [show xx 0 = _ from hv 0 (by decide), show xx 1 = _ from hv 1 (by decide), show xx 2 = _ from hv 2 (by decide), show xx 3 = _ from hv 3 (by decide), show xx 4 = _ from hv 4 (by decide), show xx 5 = _ from hv 5 (by decide), show xx 6 = _ from hv 6 (by decide), show xx 7 = _ from hv 7 (by decide), show xx 8 = _ from hv 8 (by decide), show xx 9 = _ from hv 9 (by decide)]
      clear hv
      have HS2 := zh (HS.out.call hb9)
      clear hb9 HS
      go_wp2
      go_ret
      rw [R.out]
      exact ⟨rfl, HS2.out.below⟩
   ·obtain rfl : k = l.length := by omega
    have e2 : decide (((l.length : Nat) : Int) < (l.length : Int)) = false := decide_eq_false (by omega)
    go_wp2
    go_ret
    rw [b8j H24.out HI.out]
    exact ⟨rfl, HS.out.below⟩
end Go.Proofs.YtbkbiokgfoomfaaGreatDoor
