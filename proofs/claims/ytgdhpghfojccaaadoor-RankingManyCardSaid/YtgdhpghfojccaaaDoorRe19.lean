/-
Part 19 of the base.
-/
import Derived.Test.YtgdhpghfojccaaaDoorRe17
import Derived.Test.YtgdhpghfojccaaaDoorRe21
set_option maxRecDepth 100000
set_option maxHeartbeats 1000000
namespace Go.Proofs.YtgdhpghfojccaaaDoor
open Go.RowKit
theorem b0m (s : List UInt8) (w : World) : Calls Tryd.prog 26 #[.string (bs s)] w fun e w' => e = .returned (.bool (resv s)) /\ w = w' := by
 unfold resv
 obtain ⟨e0, he0⟩ : ∃ y, y = (s == [99, 108, 97, 115, 115]) := ⟨_, rfl⟩
 have f0 : ((bs s).toList == [99, 108, 97, 115, 115]) = e0 := by rw [a1p]; exact he0.symm
 rw [<- he0]
 clear he0
 obtain ⟨e1, he1⟩ : ∃ y, y = (s == [98, 101, 102, 111, 114, 101]) := ⟨_, rfl⟩
 have f1 : ((bs s).toList == [98, 101, 102, 111, 114, 101]) = e1 := by rw [a1p]; exact he1.symm
 rw [<- he1]
 clear he1
 obtain ⟨e2, he2⟩ : ∃ y, y = (s == [108, 105, 109, 105, 116]) := ⟨_, rfl⟩
 have f2 : ((bs s).toList == [108, 105, 109, 105, 116]) = e2 := by rw [a1p]; exact he2.symm
 rw [<- he2]
 clear he2
 obtain ⟨e3, he3⟩ : ∃ y, y = (s == [115, 117, 98, 111, 114, 100, 105, 110, 97, 116, 101]) := ⟨_, rfl⟩
 have f3 : ((bs s).toList == [115, 117, 98, 111, 114, 100, 105, 110, 97, 116, 101]) = e3 := by rw [a1p]; exact he3.symm
 rw [<- he3]
 clear he3
 cases e0 <;> cases e1 <;> cases e2 <;> cases e3
 all_goals
  go_enter Tryd.func26, Tryd.ntmps26
  go_wp2
  go_ret
  exact ⟨rfl, rfl⟩
theorem a5h (s : List UInt8) (w : World) (h : s.length <= 9223372036854775807) : Calls Tryd.prog 14 #[.string (bs s)] w fun e w' => e = .returned (.bool (a3v s)) /\ w = w' := by
 have h1 := fun W => b3e s W h
 have h2 := fun W => b0m s W
 unfold a3v
 generalize a6y s = x at *
 generalize resv s = y at *
 have H1 := zh h1
 have H2 := zh h2
 clear h h1 h2
 cases x
 ·go_enter Tryd.func14, Tryd.ntmps14
  go_wp2_with fail
  refine (H1.out _).mono ?_
  rintro e w' ⟨rfl, rfl⟩
  go_wp2
  go_ret
  exact ⟨rfl, rfl⟩
 cases y
 all_goals
  go_enter Tryd.func14, Tryd.ntmps14
  go_wp2_with fail
  refine (H1.out _).mono ?_
  rintro e w' ⟨rfl, rfl⟩
  go_wp2_with fail
  refine (H2.out _).mono ?_
  rintro e w' ⟨rfl, rfl⟩
  go_wp2
  go_ret
  exact ⟨rfl, rfl⟩
theorem a8k {α : Type} {p : α -> Bool} {l : List α} {k : Nat} {x : α} (hn : ∀ (j : Nat) t, j < k -> l[j]? = some t -> p t = false) (hk : l[k]? = some x) (hx : p x = false) : ∀ (j : Nat) t, j < k + 1 -> l[j]? = some t -> p t = false := by
 intro j t hj ht
 rcases Nat.lt_or_ge j k with h | h
 ·exact hn j t h ht
 obtain rfl : j = k := by omega
 rw [hk] at ht
 obtain rfl : x = t := Option.some.inj ht
 exact hx
theorem a1f : KeyW Tryd.prog 9 strV strL (fun s => s.length <= maxLen) := key_str Tryd.underlying9
theorem b6c : KeyW Tryd.prog 3 intV intL (fun p => (Lit.int .i64 p).wf = true) := key_int Tryd.underlying3
theorem a2j (w : World) : (zeroValue 4).run Tryd.prog w = .ok (.bool false) w := by kernel_rfl
theorem a2u (w : World) : (zeroValue 3).run Tryd.prog w = .ok (.int .i64 0) w := by kernel_rfl
theorem a5z (w : World) : (zeroValue 29).run Tryd.prog w = .ok (.slice none 0 0) w := by kernel_rfl
theorem b1f (w : World) : (zeroValue 25).run Tryd.prog w = .ok (.agg #[.bool false, .string (bs []), .string (bs [])]) w := by kernel_rfl
theorem b1p (v : Value) (l : List Nmd) (w : World) (h : NmdL w v l) (hfit : ∀ x ∈ l, x.id.length <= 9223372036854775807 /\ x.am.a.length <= 17179869184 /\ x.am.b.length <= 17179869184) (hl9 : l.length <= 1000000) :
  Calls Tryd.prog 6 #[v] w fun e w' => e = .returned (.int .i64 (a1t l)) /\ Below w.heap.size w w' := by
 have H := zh h
 have HFIT := zh hfit
 obtain ⟨A, c, rfl, hl, hcc⟩ := h.slice
 clear h hfit
 have hmm := @run_makeMap Tryd.prog
 by_cases h24 : 24 < l.length
 have R := zh (chk_long h24)
 have e1 : decide ((24 : Int) < (l.length : Int)) = true := decide_eq_true (by omega)
 have e2 : decide (24 < l.length) = true := decide_eq_true h24
 clear hl9 h24
 rotate_left
 have e1 : decide ((24 : Int) < (l.length : Int)) = false := decide_eq_false (by omega)
 have e2 : decide (24 < l.length) = false := decide_eq_false h24
 have HL := zh hl9
 have H24 := zh h24
 clear hl9 h24
 rotate_left
 all_goals
   go_enter Tryd.func6, Tryd.ntmps6
   have HS := zh (St.start w)
   go_wp2
 ·go_ret
  rw [R.out]
  exact ⟨rfl, HS.out.below⟩
 go_loopw [12] (fun i wr => ∃ k n : Nat, k <= l.length /\ n <= k /\ i = .int .i64 k /\ Hid (a0t [] l = a0t (l.take k) (l.drop k)) /\ Hid (RMap Tryd.prog 9 strL wr w.heap.size n (b2w l k) (fun _ => .bool true)) /\ Hid (St w [] wr)) (fun i _ => l.length - (intOf i).toNat)
 case atStart => exact ⟨0, 0, Nat.zero_le _, Nat.le_refl _, rfl, rfl, RMap.made _ _ (by simp), (St.alloc' (HS.out) _)⟩
 case round =>
  clear hmm
  obtain ⟨k, n, hk, hn, rfl, HI, HM, HS⟩ := hrel
  by_cases hlt : k < l.length
  ·obtain ⟨b, o, x, rfl, hbb, hq, hx⟩ := H.out.at_ hlt
   obtain ⟨fi, fa, fb⟩ := HFIT.out x (List.mem_of_getElem? hq)
   have h1 := fun W => a5h x.id W fi
   have h2 := fun W => a6e x.am.n x.am.a x.am.b W (by omega) (by omega)
   have n1 := fun h => b2g H24.out HI.out hq (ner_name h) (by decide)
   have n2 := fun h h2 => b2g H24.out HI.out hq (b8t h h2) (by decide)
   have n3 := fun h h2 h3 => b2g H24.out HI.out hq (b8u h h2 h3) (by decide)
   have n4 := fun h h2 h3 (h4 : sgn x.am.val.num < 0) => b2g H24.out HI.out hq ((b5z h h2 h3).trans (if_pos h4)) (by decide)
   have n5 := fun h h2 h3 (h4 : ¬ sgn x.am.val.num < 0) => chk_next HI.out hq ((b5z h h2 h3).trans (if_neg h4))
   have n6 := fun s => seen_put hq s
   change ∀ W, Calls Tryd.prog _ _ W (fun e w' => e = .returned (.int .i64 (sgn x.am.val.num)) /\ _) at h2
   have hsn : (a0b (l.take k) x.id).isSome = b2w l k x.id := rfl
   rw [hsn] at n2 n3 n4 n5
   obtain ⟨p, hp⟩ : ∃ p, p = a3v x.id := ⟨_, rfl⟩
   obtain ⟨q, hqq⟩ : ∃ q, q = b2w l k x.id := ⟨_, rfl⟩
   obtain ⟨sg, hsg⟩ : ∃ z, z = sgn x.am.val.num := ⟨_, rfl⟩
   rw [<- hp] at h1 n1 n2 n3 n4 n5
   rw [<- hqq] at n2 n3 n4 n5
   rw [<- hsg] at h2 n4 n5
   unfold raw at h2
   have H1 := zh h1
   have H2 := zh h2
   have N1 := zh n1
   have N2 := zh n2
   have N3 := zh n3
   have N4 := zh n4
   have N5 := zh n5
   have N6 := zh n6
   have HX := zh hx
   have HQ : Hid (b2w l k x.id = q) := hqq.symm
   have HF : Hid (x.id.length <= maxLen) := by show _ <= _; unfold maxLen; omega
   have e0 : (0 : Int) <= ((k : Nat) : Int) := by omega
   have e1 : ((k : Nat) : Int) < (l.length : Int) := by omega
   have e2 : decide (((k : Nat) : Int) < (l.length : Int)) = true := decide_eq_true e1
   have i5 : IntKind.i64.wrap ((k : Int) + 1) = ((k + 1 : Nat) : Int) := by have := HL.out; rw [IntWalk.i64_in _ (by omega)]; rfl
   have hmb := HM.out.lt
   clear hx hq hqq hp hsg hsn h1 h2 n1 n2 n3 n4 n5 n6 fi fa fb
   cases p
   ·have R := zh (by first | exact N1.out rfl | exact N1.out trivial | exact N1.out)
    have x1 : b < wr.heap.size := Nat.lt_of_lt_of_le hbb HS.out.below.size
    have x2 : ¬ b = wr.heap.size := by omega
    obtain ⟨x3, x4, x5⟩ := kE0 (HX.out _ HS.out.below) rfl rfl rfl
    have x6 := HX.out _ HS.out.below 3 _ rfl
    have x7 := HX.out _ HS.out.below 4 _ rfl
    go_wp2_with fail
    refine (H1.out _).mono ?_
    rintro e w' ⟨rfl, rfl⟩
    clear x1 x2 x3 x4 x5 x6 x7
    go_wp2
    go_ret
    have HS2 := aL HS #[.string (bs x.id), .int .i64 x.rank, .bool x.am.n, .string (bs x.am.a), .string (bs x.am.b)] 27 wr.heap.size
    rw [R.out]
    exact ⟨rfl, HS2.out.below⟩
   cases q
   ·by_cases k1 : x.rank < 0
    ·have d1 : decide (x.rank < 0) = true := decide_eq_true k1
     have R := zh (N3.out rfl rfl (.inl k1))
     clear k1
     have x1 : b < wr.heap.size := Nat.lt_of_lt_of_le hbb HS.out.below.size
     have x2 : ¬ b = wr.heap.size := by omega
     obtain ⟨x3, x4, x5⟩ := kE0 (HX.out _ HS.out.below) rfl rfl rfl
     have x6 := HX.out _ HS.out.below 3 _ rfl
     have x7 := HX.out _ HS.out.below 4 _ rfl
     go_wp2_with fail
     refine (H1.out _).mono ?_
     rintro e w' ⟨rfl, rfl⟩
     clear x1 x2 x3 x4 x5 x6 x7
     go_wp2_with (at_lookup; refine a0z rfl _ _ 62 rfl 9 4 a1f Tryd.underlying62 (a2j _) (HM.out.below (Ext.alloc (Below.refl wr.heap.size wr) (Obj.cells #[.string (bs x.id), .int .i64 x.rank, .bool x.am.n, .string (bs x.am.a), .string (bs x.am.b)] 27))) (by simp [Act.eval]) (x.id) (by simp [Act.eval, strV]) HF.out (.bool false) (by rw [HQ.out]; rfl) ?_)
     go_wp2
     go_ret
     have HS2 := aL HS #[.string (bs x.id), .int .i64 x.rank, .bool x.am.n, .string (bs x.am.a), .string (bs x.am.b)] 27 wr.heap.size
     rw [R.out]
     exact ⟨rfl, HS2.out.below⟩
    by_cases k2 : 7 < x.rank
    ·have d1 : decide (x.rank < 0) = false := decide_eq_false k1
     have d2 : decide (7 < x.rank) = true := decide_eq_true k2
     have R := zh (N3.out rfl rfl (.inr k2))
     clear k1 k2
     have x1 : b < wr.heap.size := Nat.lt_of_lt_of_le hbb HS.out.below.size
     have x2 : ¬ b = wr.heap.size := by omega
     obtain ⟨x3, x4, x5⟩ := kE0 (HX.out _ HS.out.below) rfl rfl rfl
     have x6 := HX.out _ HS.out.below 3 _ rfl
     have x7 := HX.out _ HS.out.below 4 _ rfl
     go_wp2_with fail
     refine (H1.out _).mono ?_
     rintro e w' ⟨rfl, rfl⟩
     clear x1 x2 x3 x4 x5 x6 x7
     go_wp2_with (at_lookup; refine a0z rfl _ _ 62 rfl 9 4 a1f Tryd.underlying62 (a2j _) (HM.out.below (Ext.alloc (Below.refl wr.heap.size wr) (Obj.cells #[.string (bs x.id), .int .i64 x.rank, .bool x.am.n, .string (bs x.am.a), .string (bs x.am.b)] 27))) (by simp [Act.eval]) (x.id) (by simp [Act.eval, strV]) HF.out (.bool false) (by rw [HQ.out]; rfl) ?_)
     go_wp2
     go_ret
     have HS2 := aL HS #[.string (bs x.id), .int .i64 x.rank, .bool x.am.n, .string (bs x.am.a), .string (bs x.am.b)] 27 wr.heap.size
     rw [R.out]
     exact ⟨rfl, HS2.out.below⟩
    by_cases k3 : sg < 0
    ·have d1 : decide (x.rank < 0) = false := decide_eq_false k1
     have d2 : decide (7 < x.rank) = false := decide_eq_false k2
     have d3 : decide (sg < 0) = true := decide_eq_true k3
     have R := zh (N4.out rfl rfl (fun h => h.elim k1 k2) k3)
     clear k1 k2 k3
     have x1 : b < wr.heap.size := Nat.lt_of_lt_of_le hbb HS.out.below.size
     have x2 : ¬ b = wr.heap.size := by omega
     obtain ⟨x3, x4, x5⟩ := kE0 (HX.out _ HS.out.below) rfl rfl rfl
     have x6 := HX.out _ HS.out.below 3 _ rfl
     have x7 := HX.out _ HS.out.below 4 _ rfl
     go_wp2_with fail
     refine (H1.out _).mono ?_
     rintro e w' ⟨rfl, rfl⟩
     clear x1 x2 x3 x4 x5 x6 x7
     go_wp2_with (at_lookup; refine a0z rfl _ _ 62 rfl 9 4 a1f Tryd.underlying62 (a2j _) (HM.out.below (Ext.alloc (Below.refl wr.heap.size wr) (Obj.cells #[.string (bs x.id), .int .i64 x.rank, .bool x.am.n, .string (bs x.am.a), .string (bs x.am.b)] 27))) (by simp [Act.eval]) (x.id) (by simp [Act.eval, strV]) HF.out (.bool false) (by rw [HQ.out]; rfl) ?_)
     go_wp2_with fail
     have HS2 := aL HS #[.string (bs x.id), .int .i64 x.rank, .bool x.am.n, .string (bs x.am.a), .string (bs x.am.b)] 27 wr.heap.size
     refine (H2.out _).mono ?_
     rintro e w3 ⟨rfl, hb3⟩
     have HS3 := zh (HS2.out.call hb3)
     have M_3 := zh ((HM.out.below (Ext.alloc (Below.refl wr.heap.size wr) (Obj.cells #[.string (bs x.id), .int .i64 x.rank, .bool x.am.n, .string (bs x.am.a), .string (bs x.am.b)] 27))).below hb3)
     clear HM hb3 HS HS2
     go_wp2
     go_ret
     rw [R.out]
     exact ⟨rfl, HS3.out.below⟩
    have d1 : decide (x.rank < 0) = false := decide_eq_false k1
    have d2 : decide (7 < x.rank) = false := decide_eq_false k2
    have d3 : decide (sg < 0) = false := decide_eq_false k3
    have R := zh (N5.out rfl rfl (fun h => h.elim k1 k2) k3)
    clear k1 k2 k3
    have x1 : b < wr.heap.size := Nat.lt_of_lt_of_le hbb HS.out.below.size
    have x2 : ¬ b = wr.heap.size := by omega
    obtain ⟨x3, x4, x5⟩ := kE0 (HX.out _ HS.out.below) rfl rfl rfl
    have x6 := HX.out _ HS.out.below 3 _ rfl
    have x7 := HX.out _ HS.out.below 4 _ rfl
    go_wp2_with fail
    refine (H1.out _).mono ?_
    rintro e w' ⟨rfl, rfl⟩
    clear x1 x2 x3 x4 x5 x6 x7
    go_wp2_with (at_lookup; refine a0z rfl _ _ 62 rfl 9 4 a1f Tryd.underlying62 (a2j _) (HM.out.below (Ext.alloc (Below.refl wr.heap.size wr) (Obj.cells #[.string (bs x.id), .int .i64 x.rank, .bool x.am.n, .string (bs x.am.a), .string (bs x.am.b)] 27))) (by simp [Act.eval]) (x.id) (by simp [Act.eval, strV]) HF.out (.bool false) (by rw [HQ.out]; rfl) ?_)
    go_wp2_with fail
    have HS2 := aL HS #[.string (bs x.id), .int .i64 x.rank, .bool x.am.n, .string (bs x.am.a), .string (bs x.am.b)] 27 wr.heap.size
    refine (H2.out _).mono ?_
    rintro e w3 ⟨rfl, hb3⟩
    have HS3 := zh (HS2.out.call hb3)
    have M_3 := zh ((HM.out.below (Ext.alloc (Below.refl wr.heap.size wr) (Obj.cells #[.string (bs x.id), .int .i64 x.rank, .bool x.am.n, .string (bs x.am.a), .string (bs x.am.b)] 27))).below hb3)
    clear HM hb3 HS HS2
    have x8 := cC HS3 0 0
    go_wp2_with (at_mapUpdate; refine a1u rfl _ _ _ 62 rfl 9 4 a1f Tryd.underlying62 M_3.out (by have := HL.out; unfold maxLen; omega) (by simp [Act.eval]) (x.id) (by simp [Act.eval, strV]) HF.out (.bool true) (by simp [Act.eval]) ?_)
    intro w9 hown9 hg9
    have HS9 := zh (HS3.out.turnedM M_3.out hg9 (by omega))
    have HM9 := zh (hown9.congr (S' := b2w l (k + 1)) (f' := fun _ => .bool true) N6.out (fun q _ => by unfold putV; split <;> rfl))
    clear hown9 hg9 HS3 M_3 x8
    go_wp2
    go_roundw
    case rel => exact ⟨k + 1, n + 1, by omega, by omega, by go_num, R.out, HM9.out, HS9.out.sub (by simp)⟩
    case measure => simp [intOf]; omega
   have R := zh (by first | exact N2.out rfl rfl | exact N2.out trivial trivial | exact N2.out)
   have x1 : b < wr.heap.size := Nat.lt_of_lt_of_le hbb HS.out.below.size
   have x2 : ¬ b = wr.heap.size := by omega
   obtain ⟨x3, x4, x5⟩ := kE0 (HX.out _ HS.out.below) rfl rfl rfl
   have x6 := HX.out _ HS.out.below 3 _ rfl
   have x7 := HX.out _ HS.out.below 4 _ rfl
   go_wp2_with fail
   refine (H1.out _).mono ?_
   rintro e w' ⟨rfl, rfl⟩
   clear x1 x2 x3 x4 x5 x6 x7
   go_wp2_with (at_lookup; refine a0z rfl _ _ 62 rfl 9 4 a1f Tryd.underlying62 (a2j _) (HM.out.below (Ext.alloc (Below.refl wr.heap.size wr) (Obj.cells #[.string (bs x.id), .int .i64 x.rank, .bool x.am.n, .string (bs x.am.a), .string (bs x.am.b)] 27))) (by simp [Act.eval]) (x.id) (by simp [Act.eval, strV]) HF.out (.bool true) (by rw [HQ.out]; rfl) ?_)
   go_wp2
   go_ret
   have HS2 := aL HS #[.string (bs x.id), .int .i64 x.rank, .bool x.am.n, .string (bs x.am.a), .string (bs x.am.b)] 27 wr.heap.size
   rw [R.out]
   exact ⟨rfl, HS2.out.below⟩
  obtain rfl : k = l.length := by omega
  have e2 : decide (((l.length : Nat) : Int) < (l.length : Int)) = false := decide_eq_false (by omega)
  go_wp2
  go_ret
  rw [chk_done H24.out HI.out]
  exact ⟨rfl, HS.out.below⟩
end Go.Proofs.YtgdhpghfojccaaaDoor
