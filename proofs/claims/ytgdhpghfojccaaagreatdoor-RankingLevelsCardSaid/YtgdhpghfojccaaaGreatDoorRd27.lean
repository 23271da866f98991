/-
Part 27 of the base.
-/
import Derived.Test.YtgdhpghfojccaaaGreatDoorRd26
namespace Go.Proofs.YtgdhpghfojccaaaGreatDoor
open Go.RowKit
def lvE (f : Nat -> Nat) (x : Nat) : Int := (f x : Nat)
theorem a3h {w : World} {b o : Nat} {u : Value} (h : ∀ w', Below w.heap.size w w' -> w'.cell? ⟨b, o, none⟩ = some u) : ∀ w', Below w.heap.size w w' -> ∀ (j : Nat) (v : Value), [u][j]? = some v -> w'.cell? ⟨b, o + j, none⟩ = some v := by
 intro w' hb j v hv
 have hj : j = 0 := by have := (List.getElem?_eq_some_iff.1 hv).1; simpa using this
 subst hj
 obtain rfl : u = v := by simpa using hv
 exact h w' hb
set_option maxRecDepth 100000
set_option maxHeartbeats 4000000
def prtB (M : Nat -> Nat -> Bool) (j x : Nat) : Bool := (List.range j).any fun q => M x q || M q x
def pI (M : Nat -> Nat -> Bool) (j x : Nat) : Int := if prtB M j x = true then (x : Int) else -1
def c1I (M : Nat -> Nat -> Bool) (n i x : Nat) : Int := if x < i then pI M n x else 0
def c2I (M : Nat -> Nat -> Bool) (n i j x : Nat) : Int := if x = i then pI M j i else c1I M n i x
theorem b7r {M : Nat -> Nat -> Bool} {j x : Nat} : prtB M (j + 1) x = (prtB M j x || (M x j || M j x)) := by
 unfold prtB
 rw [List.range_succ, List.any_append, List.any_cons, List.any_nil, Bool.or_false]
theorem c2_start {M : Nat -> Nat -> Bool} {n i : Nat} : putA (c1I M n i) i (-1) = c2I M n i 0 := by
 funext x
 unfold putA c2I
 by_cases hx : x = i
 ·rw [if_pos hx, if_pos hx]; rfl
 rw [if_neg hx, if_neg hx]
theorem c2_new {M : Nat -> Nat -> Bool} {n i j : Nat} (h : (M i j || M j i) = true) : putA (c2I M n i j) i (i : Int) = c2I M n i (j + 1) := by
 funext x
 unfold putA c2I
 by_cases hx : x = i
 ·rw [if_pos hx, if_pos hx]
  unfold pI
  rw [b7r, h, Bool.or_true, if_pos rfl]
 rw [if_neg hx, if_neg hx, if_neg hx]
theorem c2_old {M : Nat -> Nat -> Bool} {n i j : Nat} (h : (M i j || M j i) = false) : c2I M n i j = c2I M n i (j + 1) := by
 funext x
 unfold c2I pI
 rw [b7r, h, Bool.or_false]
theorem c2_done {M : Nat -> Nat -> Bool} {n i : Nat} : c2I M n i n = c1I M n (i + 1) := by
 funext x
 unfold c2I c1I
 by_cases hx : x = i
 ·rw [if_pos hx, if_pos (by omega), hx]
 rw [if_neg hx]
 by_cases hl : x < i
 ·rw [if_pos hl, if_pos (by omega)]
 rw [if_neg hl, if_neg (by omega)]
theorem c1_cmp {M : Nat -> Nat -> Bool} {n : Nat} {r : Nat -> Nat -> Prop} (hM : ∀ a b, a < n -> b < n -> (M a b = true ↔ r a b)) (hb : ∀ i j, r i j -> i < n /\ j < n) : Cmp r n (c1I M n n) := by
 refine Cmp.start fun i hi => ?_
 have e : prtB M n i = true ↔ ∃ j, r i j \/ r j i := by
  unfold prtB
  rw [List.any_eq_true]
  constructor
  ·rintro ⟨q, hq, h⟩
   have hqn := List.mem_range.1 hq
   rw [Bool.or_eq_true, hM i q hi hqn, hM q i hqn hi] at h
   exact ⟨q, h⟩
  rintro ⟨q, h⟩
  have hqn : q < n := by
   rcases h with h | h
   ·exact (hb _ _ h).2
   exact (hb _ _ h).1
  refine ⟨q, List.mem_range.2 hqn, ?_⟩
  rw [Bool.or_eq_true, hM i q hi hqn, hM q i hqn hi]
  exact h
 unfold c1I pI
 rw [if_pos hi, <- e]
 exact ⟨fun h => if_pos h, fun h => if_neg h⟩
def sumC (c : Nat -> Int) : Nat -> Nat
 | 0 => 0
 | n + 1 => sumC c n + (c n + 1).toNat
theorem c0h {c : Nat -> Int} {i : Nat} {v : Int} : ∀ {n : Nat}, n <= i -> sumC (putA c i v) n = sumC c n
 | 0, _ => rfl
 | n + 1, h => by rw [sumC, sumC, c0h (by omega), a4d (show n ≠ i by omega)]
theorem c0g {c : Nat -> Int} {i : Nat} {v : Int} (h1 : -1 <= v) (h2 : v < c i) : ∀ {n : Nat}, i < n -> sumC (putA c i v) n < sumC c n
 | 0, h => absurd h (Nat.not_lt_zero _)
 | n + 1, h => by
  rw [sumC, sumC]
  by_cases hin : i < n
  ·have := c0g h1 h2 hin
   rw [a4d (show n ≠ i by omega)]
   omega
  obtain rfl : i = n := by omega
  rw [c0h (Nat.le_refl _), b2d]
  omega
theorem c3f {c : Nat -> Int} {m : Nat} : ∀ {n : Nat}, (∀ i, i < n -> c i <= m) -> sumC c n <= n * (m + 1)
 | 0, _ => Nat.zero_le _
 | n + 1, h => by
  have h1 := c3f (c := c) (m := m) (n := n) (fun i hi => h i (by omega))
  have h2 := h n (Nat.lt_succ_self _)
  rw [sumC, Nat.add_mul]
  omega
structure Low (r : Nat -> Nat -> Prop) (n a b : Nat) (c0 c : Nat -> Int) (more : Bool) : Prop where
 cmp : Cmp r n c
 no : more = false -> c = c0 /\ ∀ i j, (i < a \/ (i = a /\ j < b)) -> (r i j \/ r j i) -> c i <= c j
 yes : more = true -> sumC c n < sumC c0 n
theorem Low.start {r : Nat -> Nat -> Prop} {n : Nat} {c : Nat -> Int} (h : Cmp r n c) : Low r n 0 0 c c false := ⟨h, fun _ => ⟨rfl, fun i j h => by omega⟩, fun h => by cases h⟩
theorem Low.old {r : Nat -> Nat -> Prop} {n a b : Nat} {c0 c : Nat -> Int} {more : Bool} (h : Low r n a b c0 c more) (ho : (r a b \/ r b a) -> c a <= c b) : Low r n a (b + 1) c0 c more := by
 refine ⟨h.cmp, fun hm => ⟨(h.no hm).1, fun i j hij hr => ?_⟩, h.yes⟩
 by_cases he : i = a /\ j = b
 ·obtain ⟨rfl, rfl⟩ := he; exact ho hr
 exact (h.no hm).2 i j (by omega) hr
theorem Low.new {r : Nat -> Nat -> Prop} {n a b : Nat} {c0 c : Nat -> Int} {more : Bool} (h : Low r n a b c0 c more) (ha : a < n) (hb : b < n) (hr : r a b \/ r b a) (hlt : c b < c a) : Low r n a (b + 1) c0 (putA c a (c b)) true := by
 have hle : -1 <= c b := by
  have := h.cmp b hb
  by_cases hp : ∃ j, r b j \/ r j b
  ·obtain ⟨m, hm, _⟩ := this.2 hp; omega
  have := this.1 hp; omega
 refine ⟨h.cmp.lower hb hr hlt, fun hm => (by cases hm), fun _ => ?_⟩
 have h1 := c0g (n := n) hle hlt ha
 cases more with
 | true => exact Nat.lt_trans h1 (h.yes rfl)
 | false => rw [<- (h.no rfl).1]; exact h1
theorem Low.row {r : Nat -> Nat -> Prop} {n a : Nat} {c0 c : Nat -> Int} {more : Bool} (hb : ∀ i j, r i j -> i < n /\ j < n) (h : Low r n a n c0 c more) : Low r n (a + 1) 0 c0 c more := by
 refine ⟨h.cmp, fun hm => ⟨(h.no hm).1, fun i j hij hr => ?_⟩, h.yes⟩
 have hj : j < n := by
  rcases hr with hr | hr
  ·exact (hb _ _ hr).2
  exact (hb _ _ hr).1
 exact (h.no hm).2 i j (by omega) hr
theorem Low.still {r : Nat -> Nat -> Prop} {n : Nat} {c0 c : Nat -> Int} (hb : ∀ i j, r i j -> i < n /\ j < n) (h : Low r n n 0 c0 c false) : ∀ i j, (r i j \/ r j i) -> c i <= c j := fun i j hr =>
 (h.no rfl).2 i j (.inl (by rcases hr with hr | hr; exact (hb _ _ hr).1; exact (hb _ _ hr).2)) hr
theorem edge_iff {M : Nat -> Nat -> Bool} {n a b : Nat} {r : Nat -> Nat -> Prop} (hM : ∀ a b, a < n -> b < n -> (M a b = true ↔ r a b)) (ha : a < n) (hb : b < n) : (M a b || M b a) = true ↔ r a b \/ r b a := by
 rw [Bool.or_eq_true, hM a b ha hb, hM b a hb ha]
theorem b1z (v : Value) (n : Nat) (M : Nat -> Nat -> Bool) (r : Nat -> Nat -> Prop) (w : World) (h : MatB w v n M) (hM : ∀ a b, a < n -> b < n -> (M a b = true ↔ r a b)) (hb : ∀ i j, r i j -> i < n /\ j < n) (hn : n <= 1000) :
  Calls Tryz.prog 17 #[v] w fun e w' => ∃ g c, e = .returned (.slice (some ⟨g, 0, none⟩) n n) /\ Blk w' g (rowE (.int .i64) n c) 3 /\ Cmp r n c /\ (∀ i j, (r i j \/ r j i) -> c i <= c j) /\ w.heap.size <= g /\ Below w.heap.size w w' := by
 have hmk := b2j n (by omega)
 obtain ⟨A, c', rfl, _, _⟩ := h.slice
 have HH := zh h
 have HE := zh (fun a b ha hb => edge_iff (a := a) (b := b) hM ha hb)
 have HC1 := zh (c1_cmp hM hb)
 have HB := zh hb
 have LN := zh hn
 clear h hM hb hn
 go_enter Tryz.func17, Tryz.ntmps17
 have HS := zh (St.start w)
 go_wp2
 have HS2 := aL HS (rowE (.int .i64) n (fun _ => 0)) 3 w.heap.size
 have HS1 : Hid (St w [⟨w.heap.size, rowE (.int .i64) n (c1I M n 0), 3⟩]  _) := zh (by rw [show rowE (.int .i64) n (c1I M n 0) = rowE (.int .i64) n (fun _ => 0) from c1x fun k _ => if_neg (Nat.not_lt_zero _)]; exact HS2.out)
 go_loopw [5] (fun i_ wr => ∃ i : Nat, i <= n /\ i_ = .int .i64 i /\ Hid (St w [⟨w.heap.size, rowE (.int .i64) n (c1I M n i), 3⟩] wr)) (fun i_ _ => n - (intOf i_).toNat)
 case atStart => exact ⟨0, Nat.zero_le _, rfl, HS1.out⟩
 case round =>
  clear HS2 HS1
  obtain ⟨i, hi, rfl, HS⟩ := hrel
  by_cases hin : i < n
  ·have e1 : (((i : Nat)) : Int) < (n : Int) := by omega
   have e2 : decide (((i : Nat) : Int) < (n : Int)) = true := decide_eq_true e1
   have e3 : (0 : Int) <= ((i : Nat) : Int) := by omega
   have i1 : IntKind.i64.wrap ((i : Int) + 1) = ((i + 1 : Nat) : Int) := by have := LN.out; rw [IntWalk.i64_in _ (by omega)]; rfl
   have x1 := HS.out.cellE 0 rfl hin
   have x2 := HS.out.frozen 0 rfl i
   go_wp2
   have HS3 : Hid (St w [⟨w.heap.size, (rowE (.int .i64) n (putA (c1I M n i) i (-1))), 3⟩] _) := zh (St.setE (HS.out) 0 rfl i ((-1)))
   have HS2 : Hid (St w [⟨w.heap.size, rowE (.int .i64) n (c2I M n i 0), 3⟩]  _) := zh (by rw [<- c2_start]; exact HS3.out)
   go_loopw [6] (fun j_ wr => ∃ j : Nat, j <= n /\ j_ = .int .i64 j /\ Hid (St w [⟨w.heap.size, rowE (.int .i64) n (c2I M n i j), 3⟩] wr)) (fun j_ _ => n - (intOf j_).toNat)
   case atStart => exact ⟨0, Nat.zero_le _, rfl, HS2.out⟩
   case round =>
    clear HS3 HS2 HS
    obtain ⟨j, hj, rfl, HV⟩ := hrel
    by_cases hjn : j < n
    ·obtain ⟨b0, o0, gi, rfl, hb0, hgi, h1, h2⟩ := HH.out.at_ hin
     obtain ⟨b1, o1, gj, hA, _, hgj, h3, h4⟩ := HH.out.at_ hjn
     injection hA with hA
     injection hA with hA1 hA2
     subst hA1
     subst hA2
     have HX1 := zh (a3h h1)
     have HX2 := zh (a3h (fun w' hw => h2 w' hw j hjn))
     have HX3 := zh (a3h h3)
     have HX4 := zh (a3h (fun w' hw => h4 w' hw i hin))
     clear h1 h2 h3 h4
     have e4 : (((j : Nat)) : Int) < (n : Int) := by omega
     have e5 : decide (((j : Nat) : Int) < (n : Int)) = true := decide_eq_true e4
     have e6 : (0 : Int) <= ((j : Nat) : Int) := by omega
     have i2 : IntKind.i64.wrap ((j : Int) + 1) = ((j + 1 : Nat) : Int) := by have := LN.out; rw [IntWalk.i64_in _ (by omega)]; rfl
     have HEE := HE.out i j hin hjn
     cases hm : M i j
     ·cases hm2 : M j i
      ·rw [hm] at HX2
       rw [hm2] at HX4
       have x3 := HX1.out _ HV.out.below 0 _ rfl
       rw [Nat.add_zero] at x3
       have x4 := HX2.out _ HV.out.below 0 _ rfl
       rw [Nat.add_zero] at x4
       have x5 := HX3.out _ HV.out.below 0 _ rfl
       rw [Nat.add_zero] at x5
       have x6 := HX4.out _ HV.out.below 0 _ rfl
       rw [Nat.add_zero] at x6
       go_wp2
       go_roundw
       case rel => exact ⟨j + 1, by omega, by go_num, by rw [<- c2_old (M := M) (by first | rw [hm, hm2]; rfl | rw [hm]; rfl)]; exact HV.out⟩
       case measure => simp [intOf]; omega
      rw [hm] at HX2
      rw [hm2] at HX4
      have x3 := HV.out.cellE 0 rfl hin
      have x4 := HV.out.frozen 0 rfl i
      have x5 := HX1.out _ HV.out.below 0 _ rfl
      rw [Nat.add_zero] at x5
      have x6 := HX2.out _ HV.out.below 0 _ rfl
      rw [Nat.add_zero] at x6
      have x7 := HX3.out _ HV.out.below 0 _ rfl
      rw [Nat.add_zero] at x7
      have x8 := HX4.out _ HV.out.below 0 _ rfl
      rw [Nat.add_zero] at x8
      go_wp2
      have HV4 : Hid (St w [⟨w.heap.size, (rowE (.int .i64) n (putA (c2I M n i j) i (i : Nat))), 3⟩] _) := zh (St.setE (HV.out) 0 rfl i ((i : Nat)))
      go_roundw
      case rel => exact ⟨j + 1, by omega, by go_num, by rw [<- c2_new (M := M) (by first | rw [hm, hm2]; rfl | rw [hm]; rfl)]; exact HV4.out⟩
      case measure => simp [intOf]; omega
     rw [hm] at HX2
     have x3 := HV.out.cellE 0 rfl hin
     have x4 := HV.out.frozen 0 rfl i
     have x5 := HX1.out _ HV.out.below 0 _ rfl
     rw [Nat.add_zero] at x5
     have x6 := HX2.out _ HV.out.below 0 _ rfl
     rw [Nat.add_zero] at x6
     go_wp2
     have HV4 : Hid (St w [⟨w.heap.size, (rowE (.int .i64) n (putA (c2I M n i j) i (i : Nat))), 3⟩] _) := zh (St.setE (HV.out) 0 rfl i ((i : Nat)))
     go_roundw
     case rel => exact ⟨j + 1, by omega, by go_num, by rw [<- c2_new (M := M) (by first | rw [hm, hm2]; rfl | rw [hm]; rfl)]; exact HV4.out⟩
     case measure => simp [intOf]; omega
    have hje : j = n := by omega
    rw [hje] at HV ⊢
    have e4 : decide (((n : Nat) : Int) < (n : Int)) = false := decide_eq_false (by omega)
    clear hje hj hjn
    go_wp2
    go_roundw
    case rel => exact ⟨i + 1, by omega, by go_num, by rw [<- c2_done]; exact HV.out⟩
    case measure => simp [intOf]; omega
  have hie : i = n := by omega
  rw [hie] at HS ⊢
  have e1 : decide (((n : Nat) : Int) < (n : Int)) = false := decide_eq_false (by omega)
  clear hie hi hin
  go_wp2
  go_loopg [7, 8, 9] (n * (n + 1) + 1) (fun gk m_ _ _ wr => ∃ (cc : Nat -> Int) (more : Bool), m_ = .bool more /\ Hid (Cmp r n cc) /\ Hid (more = false -> ∀ i j, (r i j \/ r j i) -> cc i <= cc j) /\ (if more = true then sumC cc n + 1 else 0) <= gk /\ Hid (St w [⟨w.heap.size, rowE (.int .i64) n (cc), 3⟩] wr))
  case atStart => exact ⟨c1I M n n, true, rfl, HC1.out, (fun h => by cases h), (by rw [if_pos rfl]; have := c3f (c := c1I M n n) (m := n) (n := n) (fun i hi => by unfold c1I pI; rw [if_pos hi]; split <;> omega); omega), HS.out⟩
  case round =>
   clear HS
   obtain ⟨cc, more, rfl, HC, HT, hgk, HS⟩ := hrel
   obtain ⟨G1, rfl⟩ : ∃ G1, G1 = gk := ⟨_, rfl⟩
   cases more
   ·go_wp2
    go_ret
    have HT2 := (by first | exact HT.out rfl | exact HT.out trivial | exact HT.out : ∀ i j, (r i j \/ r j i) -> cc i <= cc j)
    first | exact ⟨_, cc, rfl, HS.out.blk 0 rfl, HC.out, HT2, Nat.le_refl _, HS.out.below⟩ | exact ⟨_, rfl, cc, HS.out.blk 0 rfl, HC.out, HT2, Nat.le_refl _, HS.out.below⟩
   rw [if_pos rfl] at hgk
   have HGK := zh hgk
   clear hgk HT
   go_wp2
   go_loopg [7, 8, 9] n (fun g2 m_ a_ _ wr => ∃ (a : Nat) (c3 : Nat -> Int) (more : Bool), a <= n /\ n - a <= g2 /\ m_ = .bool more /\ a_ = .int .i64 a /\ Hid (Low r n a 0 cc c3 more) /\ Hid (St w [⟨w.heap.size, rowE (.int .i64) n (c3), 3⟩] wr))
   case atStart => exact ⟨0, cc, false, Nat.zero_le _, Nat.le_refl _, rfl, rfl, Low.start HC.out, HS.out⟩
   case round =>
    clear HS HC
    skip
    obtain ⟨a, c3, mo, ha, hg2, rfl, rfl, HL, HS⟩ := hrel
    by_cases han : a < n
    ·have e1 : (((a : Nat)) : Int) < (n : Int) := by omega
     have e2 : decide (((a : Nat) : Int) < (n : Int)) = true := decide_eq_true e1
     have e3 : (0 : Int) <= ((a : Nat) : Int) := by omega
     have i1 : IntKind.i64.wrap ((a : Int) + 1) = ((a + 1 : Nat) : Int) := by have := LN.out; rw [IntWalk.i64_in _ (by omega)]; rfl
     go_wp2
     go_loopg [7, 9] n (fun g3 m_ b_ wr => ∃ (b : Nat) (c4 : Nat -> Int) (more : Bool), b <= n /\ n - b <= g3 /\ m_ = .bool more /\ b_ = .int .i64 b /\ Hid (Low r n a b cc c4 more) /\ Hid (St w [⟨w.heap.size, rowE (.int .i64) n (c4), 3⟩] wr))
     case atStart => exact ⟨0, c3, mo, Nat.zero_le _, Nat.le_refl _, rfl, rfl, HL.out, HS.out⟩
     case round =>
      clear HS HL
      obtain ⟨b, c4, mo, hb, hg3, rfl, rfl, HL, HV⟩ := hrel
      by_cases hbn : b < n
      ·obtain ⟨b0, o0, gi, rfl, hb0, hgi, h1, h2⟩ := HH.out.at_ han
       obtain ⟨b1, o1, gj, hA, _, hgj, h3, h4⟩ := HH.out.at_ hbn
       injection hA with hA
       injection hA with hA1 hA2
       subst hA1
       subst hA2
       have HX1 := zh (a3h h1)
       have HX2 := zh (a3h (fun w' hw => h2 w' hw b hbn))
       have HX3 := zh (a3h h3)
       have HX4 := zh (a3h (fun w' hw => h4 w' hw a han))
       clear h1 h2 h3 h4
       have e4 : (((b : Nat)) : Int) < (n : Int) := by omega
       have e5 : decide (((b : Nat) : Int) < (n : Int)) = true := decide_eq_true e4
       have e6 : (0 : Int) <= ((b : Nat) : Int) := by omega
       have i2 : IntKind.i64.wrap ((b : Int) + 1) = ((b + 1 : Nat) : Int) := by have := LN.out; rw [IntWalk.i64_in _ (by omega)]; rfl
       have HEE := zh (HE.out a b han hbn)
       cases hm : M a b
       ·cases hm2 : M b a
        ·rw [hm] at HX2
         rw [hm2] at HX4
         go_wp2
         refine a0g 26 [.slice (some ⟨b0, o0, none⟩) n c', .int .i64 (a : Nat), .pointer (some ⟨b0, o0 + a, none⟩), .slice (some ⟨gi, 0, none⟩) n n, .int .i64 (b : Nat), .pointer (some ⟨gi, b, none⟩), .bool false, .bool false, .slice (some ⟨b0, o0, none⟩) n c', .int .i64 (b : Nat), .pointer (some ⟨b0, o0 + b, none⟩), .slice (some ⟨gj, 0, none⟩) n n, .int .i64 (a : Nat), .pointer (some ⟨gj, a, none⟩), .bool false, .bool false, .bool false, undef, undef, undef, undef, undef, undef, undef, undef, undef] rfl (by kernel_rfl) (by kernel_rfl) (by kernel_rfl) ?_ ?_
         refine ⟨?_, ?_, ?_, ?_, ?_, ?_, ?_, ?_, ?_, ?_, ?_, ?_, ?_, ?_, ?_, ?_, ?_, ?_, ?_, ?_, ?_, ?_, ?_, ?_, ?_, ?_, trivial⟩ <;> (intro xx af wv hbx hev hev0 hd; have H := SH.mk hev hev0 hd; clear hev hev0 hd)
         ·have e0 := H.i 0; clear H; go_wp2; exact sQ rfl
         ·have e8 := H.i 8; clear H; go_wp2; exact sQ rfl
         ·have e58 := H.r 0 58; have e59 := H.r 1 59; clear H; go_wp2; exact sQ rfl
         ·have e60 := H.r 2 60; clear H; have hs1 := zh (HV.out.call hbx); have y0 := HX1.out _ hs1.out.below 0 _ rfl; rw [Nat.add_zero] at y0; go_wp2; exact sQ rfl
         ·have e9 := H.i 9; clear H; go_wp2; exact sQ rfl
         ·have e61 := H.r 3 61; have e62 := H.r 4 62; clear H; go_wp2; exact sQ rfl
         ·have e63 := H.r 5 63; clear H; have hs1 := zh (HV.out.call hbx); have y0 := HX2.out _ hs1.out.below 0 _ rfl; rw [Nat.add_zero] at y0; go_wp2; exact sQ rfl
         ·have e64 := H.r 6 64; clear H; go_wp2; exact sQ rfl
         ·have e65 := H.g 7 65; have e0 := H.i 0; have q65 := a0a e65; clear H; go_wp2; exact sQ rfl
         ·have e65 := H.g 7 65; have e9 := H.i 9; have q65 := a0a e65; clear H; go_wp2; exact sQ rfl
         ·have e65 := H.g 7 65; have e66 := H.r 8 66; have e67 := H.r 9 67; have q65 := a0a e65; clear H; go_wp2; exact sQ rfl
         ·have e65 := H.g 7 65; have e68 := H.r 10 68; have q65 := a0a e65; clear H; have hs1 := zh (HV.out.call hbx); have y0 := HX3.out _ hs1.out.below 0 _ rfl; rw [Nat.add_zero] at y0; go_wp2; exact sQ rfl
         ·have e65 := H.g 7 65; have e8 := H.i 8; have q65 := a0a e65; clear H; go_wp2; exact sQ rfl
         ·have e65 := H.g 7 65; have e69 := H.r 11 69; have e70 := H.r 12 70; have q65 := a0a e65; clear H; go_wp2; exact sQ rfl
         ·have e65 := H.g 7 65; have e71 := H.r 13 71; have q65 := a0a e65; clear H; have hs1 := zh (HV.out.call hbx); have y0 := HX4.out _ hs1.out.below 0 _ rfl; rw [Nat.add_zero] at y0; go_wp2; exact sQ rfl
         ·have e65 := H.r 7 65; have e72 := H.r 14 72; clear H; go_wp2; exact sQ rfl
         ·have e73 := H.r 15 73; clear H; go_wp2; exact sQ rfl
         ·have e74 := H.g 16 74; have q74 := a0a e74; clear H; go_wp2; exact sQ rfl
         ·have e74 := H.g 16 74; have q74 := a0a e74; clear H; go_wp2; exact sQ rfl
         ·have e74 := H.g 16 74; have q74 := a0a e74; clear H; go_wp2; exact sQ rfl
         ·have e74 := H.g 16 74; have q74 := a0a e74; clear H; go_wp2; exact sQ rfl
         ·have e74 := H.g 16 74; have q74 := a0a e74; clear H; go_wp2; exact sQ rfl
         ·have e74 := H.g 16 74; have q74 := a0a e74; clear H; go_wp2; exact sQ rfl
         ·have e74 := H.g 16 74; have q74 := a0a e74; clear H; go_wp2; exact sQ rfl
         ·have e74 := H.g 16 74; have q74 := a0a e74; clear H; go_wp2; exact sQ rfl
         ·have e74 := H.g 16 74; have q74 := a0a e74; clear H; go_wp2; exact sQ rfl
         intro xx w3 hb9 hv
         simp only [List.take, List.drop, a0h, Act.put]
         simp only [vQ hv 0, vQ hv 1, vQ hv 2, vQ hv 3, vQ hv 4, vQ hv 5, vQ hv 6, vQ hv 7, vQ hv 8, vQ hv 9, vQ hv 10, vQ hv 11, vQ hv 12, vQ hv 13, vQ hv 14, vQ hv 15, vQ hv 16, vQ hv 17, vQ hv 18, vQ hv 19, vQ hv 20, vQ hv 21, vQ hv 22, vQ hv 23, vQ hv 24, vQ hv 25]
         clear hv
         have HV3 := zh (HV.out.call hb9)
         clear hb9 HV
         go_wp2
         go_roundg (n - (b + 1))
         case measure => omega
         case rel => exact ⟨b + 1, c4, mo, by omega, by omega, rfl, by go_num, HL.out.old (fun h => by have := HEE.out.2 h; rw [hm, hm2] at this; cases this), HV3.out⟩
        by_cases hlt : c4 b < c4 a
        ·rw [hm] at HX2
         rw [hm2] at HX4
         have d1 : decide (c4 b < c4 a) = true := decide_eq_true hlt
         have HLT := zh hlt
         clear hlt
         go_wp2
         refine a0g 26 [.slice (some ⟨b0, o0, none⟩) n c', .int .i64 (a : Nat), .pointer (some ⟨b0, o0 + a, none⟩), .slice (some ⟨gi, 0, none⟩) n n, .int .i64 (b : Nat), .pointer (some ⟨gi, b, none⟩), .bool false, .bool false, .slice (some ⟨b0, o0, none⟩) n c', .int .i64 (b : Nat), .pointer (some ⟨b0, o0 + b, none⟩), .slice (some ⟨gj, 0, none⟩) n n, .int .i64 (a : Nat), .pointer (some ⟨gj, a, none⟩), .bool true, .bool true, .bool true, .slice (some ⟨w.heap.size, 0, none⟩) n n, .int .i64 (b : Nat), .pointer (some ⟨w.heap.size, b, none⟩), .int .i64 (c4 b), .slice (some ⟨w.heap.size, 0, none⟩) n n, .int .i64 (a : Nat), .pointer (some ⟨w.heap.size, a, none⟩), .int .i64 (c4 a), .bool true] rfl (by kernel_rfl) (by kernel_rfl) (by kernel_rfl) ?_ ?_
         refine ⟨?_, ?_, ?_, ?_, ?_, ?_, ?_, ?_, ?_, ?_, ?_, ?_, ?_, ?_, ?_, ?_, ?_, ?_, ?_, ?_, ?_, ?_, ?_, ?_, ?_, ?_, trivial⟩ <;> (intro xx af wv hbx hev hev0 hd; have H := SH.mk hev hev0 hd; clear hev hev0 hd)
         ·have e0 := H.i 0; clear H; go_wp2; exact sQ rfl
         ·have e8 := H.i 8; clear H; go_wp2; exact sQ rfl
         ·have e58 := H.r 0 58; have e59 := H.r 1 59; clear H; go_wp2; exact sQ rfl
         ·have e60 := H.r 2 60; clear H; have hs1 := zh (HV.out.call hbx); have y0 := HX1.out _ hs1.out.below 0 _ rfl; rw [Nat.add_zero] at y0; go_wp2; exact sQ rfl
         ·have e9 := H.i 9; clear H; go_wp2; exact sQ rfl
         ·have e61 := H.r 3 61; have e62 := H.r 4 62; clear H; go_wp2; exact sQ rfl
         ·have e63 := H.r 5 63; clear H; have hs1 := zh (HV.out.call hbx); have y0 := HX2.out _ hs1.out.below 0 _ rfl; rw [Nat.add_zero] at y0; go_wp2; exact sQ rfl
         ·have e64 := H.r 6 64; clear H; go_wp2; exact sQ rfl
         ·have e65 := H.g 7 65; have e0 := H.i 0; have q65 := a0a e65; clear H; go_wp2; exact sQ rfl
         ·have e65 := H.g 7 65; have e9 := H.i 9; have q65 := a0a e65; clear H; go_wp2; exact sQ rfl
         ·have e65 := H.g 7 65; have e66 := H.r 8 66; have e67 := H.r 9 67; have q65 := a0a e65; clear H; go_wp2; exact sQ rfl
         ·have e65 := H.g 7 65; have e68 := H.r 10 68; have q65 := a0a e65; clear H; have hs1 := zh (HV.out.call hbx); have y0 := HX3.out _ hs1.out.below 0 _ rfl; rw [Nat.add_zero] at y0; go_wp2; exact sQ rfl
         ·have e65 := H.g 7 65; have e8 := H.i 8; have q65 := a0a e65; clear H; go_wp2; exact sQ rfl
         ·have e65 := H.g 7 65; have e69 := H.r 11 69; have e70 := H.r 12 70; have q65 := a0a e65; clear H; go_wp2; exact sQ rfl
         ·have e65 := H.g 7 65; have e71 := H.r 13 71; have q65 := a0a e65; clear H; have hs1 := zh (HV.out.call hbx); have y0 := HX4.out _ hs1.out.below 0 _ rfl; rw [Nat.add_zero] at y0; go_wp2; exact sQ rfl
         ·have e65 := H.r 7 65; have e72 := H.r 14 72; clear H; go_wp2; exact sQ rfl
         ·have e73 := H.r 15 73; clear H; go_wp2; exact sQ rfl
         ·have e74 := H.g 16 74; have e4 := H.i 4; have q74 := a0a e74; clear H; go_wp2; exact sQ rfl
         ·have e74 := H.g 16 74; have e9 := H.i 9; have q74 := a0a e74; clear H; go_wp2; exact sQ rfl
         ·have e74 := H.g 16 74; have e75 := H.r 17 75; have e76 := H.r 18 76; have q74 := a0a e74; clear H; go_wp2; exact sQ rfl
         ·have e74 := H.g 16 74; have e77 := H.r 19 77; have q74 := a0a e74; clear H; have hs1 := zh (HV.out.call hbx); have yf0 := hs1.out.cellE 0 rfl hbn; go_wp2; exact sQ rfl
         ·have e74 := H.g 16 74; have e4 := H.i 4; have q74 := a0a e74; clear H; go_wp2; exact sQ rfl
         ·have e74 := H.g 16 74; have e8 := H.i 8; have q74 := a0a e74; clear H; go_wp2; exact sQ rfl
         ·have e74 := H.g 16 74; have e79 := H.r 21 79; have e80 := H.r 22 80; have q74 := a0a e74; clear H; go_wp2; exact sQ rfl
         ·have e74 := H.g 16 74; have e81 := H.r 23 81; have q74 := a0a e74; clear H; have hs1 := zh (HV.out.call hbx); have yf0 := hs1.out.cellE 0 rfl han; go_wp2; exact sQ rfl
         ·have e74 := H.g 16 74; have e78 := H.r 20 78; have e82 := H.r 24 82; have q74 := a0a e74; clear H; go_wp2; exact sQ rfl
         intro xx w3 hb9 hv
         simp only [List.take, List.drop, a0h, Act.put]
         simp only [vQ hv 0, vQ hv 1, vQ hv 2, vQ hv 3, vQ hv 4, vQ hv 5, vQ hv 6, vQ hv 7, vQ hv 8, vQ hv 9, vQ hv 10, vQ hv 11, vQ hv 12, vQ hv 13, vQ hv 14, vQ hv 15, vQ hv 16, vQ hv 17, vQ hv 18, vQ hv 19, vQ hv 20, vQ hv 21, vQ hv 22, vQ hv 23, vQ hv 24, vQ hv 25]
         clear hv
         have HV3 := zh (HV.out.call hb9)
         clear hb9 HV
         have x1 := HV3.out.cellE 0 rfl hbn
         have x2 := HV3.out.cellE 0 rfl han
         have x3 := HV3.out.frozen 0 rfl a
         go_wp2
         have HV4 : Hid (St w [⟨w.heap.size, (rowE (.int .i64) n (putA c4 a (c4 b))), 3⟩] _) := zh (St.setE (HV3.out) 0 rfl a ((c4 b)))
         go_roundg (n - (b + 1))
         case measure => omega
         case rel => exact ⟨b + 1, putA c4 a (c4 b), true, by omega, by omega, rfl, by go_num, HL.out.new han hbn (HEE.out.1 (by first | rw [hm, hm2]; rfl | rw [hm]; rfl)) HLT.out, HV4.out⟩
        rw [hm] at HX2
        rw [hm2] at HX4
        have d1 : decide (c4 b < c4 a) = false := decide_eq_false hlt
        have HLT : Hid (c4 a <= c4 b) := zh (Int.not_lt.1 hlt)
        clear hlt
        go_wp2
        refine a0g 26 [.slice (some ⟨b0, o0, none⟩) n c', .int .i64 (a : Nat), .pointer (some ⟨b0, o0 + a, none⟩), .slice (some ⟨gi, 0, none⟩) n n, .int .i64 (b : Nat), .pointer (some ⟨gi, b, none⟩), .bool false, .bool false, .slice (some ⟨b0, o0, none⟩) n c', .int .i64 (b : Nat), .pointer (some ⟨b0, o0 + b, none⟩), .slice (some ⟨gj, 0, none⟩) n n, .int .i64 (a : Nat), .pointer (some ⟨gj, a, none⟩), .bool true, .bool true, .bool true, .slice (some ⟨w.heap.size, 0, none⟩) n n, .int .i64 (b : Nat), .pointer (some ⟨w.heap.size, b, none⟩), .int .i64 (c4 b), .slice (some ⟨w.heap.size, 0, none⟩) n n, .int .i64 (a : Nat), .pointer (some ⟨w.heap.size, a, none⟩), .int .i64 (c4 a), .bool false] rfl (by kernel_rfl) (by kernel_rfl) (by kernel_rfl) ?_ ?_
        refine ⟨?_, ?_, ?_, ?_, ?_, ?_, ?_, ?_, ?_, ?_, ?_, ?_, ?_, ?_, ?_, ?_, ?_, ?_, ?_, ?_, ?_, ?_, ?_, ?_, ?_, ?_, trivial⟩ <;> (intro xx af wv hbx hev hev0 hd; have H := SH.mk hev hev0 hd; clear hev hev0 hd)
        ·have e0 := H.i 0; clear H; go_wp2; exact sQ rfl
        ·have e8 := H.i 8; clear H; go_wp2; exact sQ rfl
        ·have e58 := H.r 0 58; have e59 := H.r 1 59; clear H; go_wp2; exact sQ rfl
        ·have e60 := H.r 2 60; clear H; have hs1 := zh (HV.out.call hbx); have y0 := HX1.out _ hs1.out.below 0 _ rfl; rw [Nat.add_zero] at y0; go_wp2; exact sQ rfl
        ·have e9 := H.i 9; clear H; go_wp2; exact sQ rfl
        ·have e61 := H.r 3 61; have e62 := H.r 4 62; clear H; go_wp2; exact sQ rfl
        ·have e63 := H.r 5 63; clear H; have hs1 := zh (HV.out.call hbx); have y0 := HX2.out _ hs1.out.below 0 _ rfl; rw [Nat.add_zero] at y0; go_wp2; exact sQ rfl
        ·have e64 := H.r 6 64; clear H; go_wp2; exact sQ rfl
        ·have e65 := H.g 7 65; have e0 := H.i 0; have q65 := a0a e65; clear H; go_wp2; exact sQ rfl
        ·have e65 := H.g 7 65; have e9 := H.i 9; have q65 := a0a e65; clear H; go_wp2; exact sQ rfl
        ·have e65 := H.g 7 65; have e66 := H.r 8 66; have e67 := H.r 9 67; have q65 := a0a e65; clear H; go_wp2; exact sQ rfl
        ·have e65 := H.g 7 65; have e68 := H.r 10 68; have q65 := a0a e65; clear H; have hs1 := zh (HV.out.call hbx); have y0 := HX3.out _ hs1.out.below 0 _ rfl; rw [Nat.add_zero] at y0; go_wp2; exact sQ rfl
        ·have e65 := H.g 7 65; have e8 := H.i 8; have q65 := a0a e65; clear H; go_wp2; exact sQ rfl
        ·have e65 := H.g 7 65; have e69 := H.r 11 69; have e70 := H.r 12 70; have q65 := a0a e65; clear H; go_wp2; exact sQ rfl
        ·have e65 := H.g 7 65; have e71 := H.r 13 71; have q65 := a0a e65; clear H; have hs1 := zh (HV.out.call hbx); have y0 := HX4.out _ hs1.out.below 0 _ rfl; rw [Nat.add_zero] at y0; go_wp2; exact sQ rfl
        ·have e65 := H.r 7 65; have e72 := H.r 14 72; clear H; go_wp2; exact sQ rfl
        ·have e73 := H.r 15 73; clear H; go_wp2; exact sQ rfl
        ·have e74 := H.g 16 74; have e4 := H.i 4; have q74 := a0a e74; clear H; go_wp2; exact sQ rfl
        ·have e74 := H.g 16 74; have e9 := H.i 9; have q74 := a0a e74; clear H; go_wp2; exact sQ rfl
        ·have e74 := H.g 16 74; have e75 := H.r 17 75; have e76 := H.r 18 76; have q74 := a0a e74; clear H; go_wp2; exact sQ rfl
        ·have e74 := H.g 16 74; have e77 := H.r 19 77; have q74 := a0a e74; clear H; have hs1 := zh (HV.out.call hbx); have yf0 := hs1.out.cellE 0 rfl hbn; go_wp2; exact sQ rfl
        ·have e74 := H.g 16 74; have e4 := H.i 4; have q74 := a0a e74; clear H; go_wp2; exact sQ rfl
        ·have e74 := H.g 16 74; have e8 := H.i 8; have q74 := a0a e74; clear H; go_wp2; exact sQ rfl
        ·have e74 := H.g 16 74; have e79 := H.r 21 79; have e80 := H.r 22 80; have q74 := a0a e74; clear H; go_wp2; exact sQ rfl
        ·have e74 := H.g 16 74; have e81 := H.r 23 81; have q74 := a0a e74; clear H; have hs1 := zh (HV.out.call hbx); have yf0 := hs1.out.cellE 0 rfl han; go_wp2; exact sQ rfl
        ·have e74 := H.g 16 74; have e78 := H.r 20 78; have e82 := H.r 24 82; have q74 := a0a e74; clear H; go_wp2; exact sQ rfl
        intro xx w3 hb9 hv
        simp only [List.take, List.drop, a0h, Act.put]
        simp only [vQ hv 0, vQ hv 1, vQ hv 2, vQ hv 3, vQ hv 4, vQ hv 5, vQ hv 6, vQ hv 7, vQ hv 8, vQ hv 9, vQ hv 10, vQ hv 11, vQ hv 12, vQ hv 13, vQ hv 14, vQ hv 15, vQ hv 16, vQ hv 17, vQ hv 18, vQ hv 19, vQ hv 20, vQ hv 21, vQ hv 22, vQ hv 23, vQ hv 24, vQ hv 25]
        clear hv
        have HV3 := zh (HV.out.call hb9)
        clear hb9 HV
        go_wp2
        go_roundg (n - (b + 1))
        case measure => omega
        case rel => exact ⟨b + 1, c4, mo, by omega, by omega, rfl, by go_num, HL.out.old (fun _ => HLT.out), HV3.out⟩
       by_cases hlt : c4 b < c4 a
       ·rw [hm] at HX2
        have d1 : decide (c4 b < c4 a) = true := decide_eq_true hlt
        have HLT := zh hlt
        clear hlt
        go_wp2
        refine a0g 26 [.slice (some ⟨b0, o0, none⟩) n c', .int .i64 (a : Nat), .pointer (some ⟨b0, o0 + a, none⟩), .slice (some ⟨gi, 0, none⟩) n n, .int .i64 (b : Nat), .pointer (some ⟨gi, b, none⟩), .bool true, .bool true, undef, undef, undef, undef, undef, undef, undef, .bool true, .bool true, .slice (some ⟨w.heap.size, 0, none⟩) n n, .int .i64 (b : Nat), .pointer (some ⟨w.heap.size, b, none⟩), .int .i64 (c4 b), .slice (some ⟨w.heap.size, 0, none⟩) n n, .int .i64 (a : Nat), .pointer (some ⟨w.heap.size, a, none⟩), .int .i64 (c4 a), .bool true] rfl (by kernel_rfl) (by kernel_rfl) (by kernel_rfl) ?_ ?_
        refine ⟨?_, ?_, ?_, ?_, ?_, ?_, ?_, ?_, ?_, ?_, ?_, ?_, ?_, ?_, ?_, ?_, ?_, ?_, ?_, ?_, ?_, ?_, ?_, ?_, ?_, ?_, trivial⟩ <;> (intro xx af wv hbx hev hev0 hd; have H := SH.mk hev hev0 hd; clear hev hev0 hd)
        ·have e0 := H.i 0; clear H; go_wp2; exact sQ rfl
        ·have e8 := H.i 8; clear H; go_wp2; exact sQ rfl
        ·have e58 := H.r 0 58; have e59 := H.r 1 59; clear H; go_wp2; exact sQ rfl
        ·have e60 := H.r 2 60; clear H; have hs1 := zh (HV.out.call hbx); have y0 := HX1.out _ hs1.out.below 0 _ rfl; rw [Nat.add_zero] at y0; go_wp2; exact sQ rfl
        ·have e9 := H.i 9; clear H; go_wp2; exact sQ rfl
        ·have e61 := H.r 3 61; have e62 := H.r 4 62; clear H; go_wp2; exact sQ rfl
        ·have e63 := H.r 5 63; clear H; have hs1 := zh (HV.out.call hbx); have y0 := HX2.out _ hs1.out.below 0 _ rfl; rw [Nat.add_zero] at y0; go_wp2; exact sQ rfl
        ·have e64 := H.r 6 64; clear H; go_wp2; exact sQ rfl
        ·have e65 := H.g 7 65; have q65 := a0a e65; clear H; go_wp2; exact sQ rfl
        ·have e65 := H.g 7 65; have q65 := a0a e65; clear H; go_wp2; exact sQ rfl
        ·have e65 := H.g 7 65; have q65 := a0a e65; clear H; go_wp2; exact sQ rfl
        ·have e65 := H.g 7 65; have q65 := a0a e65; clear H; go_wp2; exact sQ rfl
        ·have e65 := H.g 7 65; have q65 := a0a e65; clear H; go_wp2; exact sQ rfl
        ·have e65 := H.g 7 65; have q65 := a0a e65; clear H; go_wp2; exact sQ rfl
        ·have e65 := H.g 7 65; have q65 := a0a e65; clear H; go_wp2; exact sQ rfl
        ·have e65 := H.r 7 65; have e72 := H.r 14 72; clear H; go_wp2; exact sQ rfl
        ·have e73 := H.r 15 73; clear H; go_wp2; exact sQ rfl
        ·have e74 := H.g 16 74; have e4 := H.i 4; have q74 := a0a e74; clear H; go_wp2; exact sQ rfl
        ·have e74 := H.g 16 74; have e9 := H.i 9; have q74 := a0a e74; clear H; go_wp2; exact sQ rfl
        ·have e74 := H.g 16 74; have e75 := H.r 17 75; have e76 := H.r 18 76; have q74 := a0a e74; clear H; go_wp2; exact sQ rfl
        ·have e74 := H.g 16 74; have e77 := H.r 19 77; have q74 := a0a e74; clear H; have hs1 := zh (HV.out.call hbx); have yf0 := hs1.out.cellE 0 rfl hbn; go_wp2; exact sQ rfl
        ·have e74 := H.g 16 74; have e4 := H.i 4; have q74 := a0a e74; clear H; go_wp2; exact sQ rfl
        ·have e74 := H.g 16 74; have e8 := H.i 8; have q74 := a0a e74; clear H; go_wp2; exact sQ rfl
        ·have e74 := H.g 16 74; have e79 := H.r 21 79; have e80 := H.r 22 80; have q74 := a0a e74; clear H; go_wp2; exact sQ rfl
        ·have e74 := H.g 16 74; have e81 := H.r 23 81; have q74 := a0a e74; clear H; have hs1 := zh (HV.out.call hbx); have yf0 := hs1.out.cellE 0 rfl han; go_wp2; exact sQ rfl
        ·have e74 := H.g 16 74; have e78 := H.r 20 78; have e82 := H.r 24 82; have q74 := a0a e74; clear H; go_wp2; exact sQ rfl
        intro xx w3 hb9 hv
        simp only [List.take, List.drop, a0h, Act.put]
        simp only [vQ hv 0, vQ hv 1, vQ hv 2, vQ hv 3, vQ hv 4, vQ hv 5, vQ hv 6, vQ hv 7, vQ hv 8, vQ hv 9, vQ hv 10, vQ hv 11, vQ hv 12, vQ hv 13, vQ hv 14, vQ hv 15, vQ hv 16, vQ hv 17, vQ hv 18, vQ hv 19, vQ hv 20, vQ hv 21, vQ hv 22, vQ hv 23, vQ hv 24, vQ hv 25]
        clear hv
        have HV3 := zh (HV.out.call hb9)
        clear hb9 HV
        have x1 := HV3.out.cellE 0 rfl hbn
        have x2 := HV3.out.cellE 0 rfl han
        have x3 := HV3.out.frozen 0 rfl a
        go_wp2
        have HV4 : Hid (St w [⟨w.heap.size, (rowE (.int .i64) n (putA c4 a (c4 b))), 3⟩] _) := zh (St.setE (HV3.out) 0 rfl a ((c4 b)))
        go_roundg (n - (b + 1))
        case measure => omega
        case rel => exact ⟨b + 1, putA c4 a (c4 b), true, by omega, by omega, rfl, by go_num, HL.out.new han hbn (HEE.out.1 (by first | rw [hm, hm2]; rfl | rw [hm]; rfl)) HLT.out, HV4.out⟩
       rw [hm] at HX2
       have d1 : decide (c4 b < c4 a) = false := decide_eq_false hlt
       have HLT : Hid (c4 a <= c4 b) := zh (Int.not_lt.1 hlt)
       clear hlt
       go_wp2
       refine a0g 26 [.slice (some ⟨b0, o0, none⟩) n c', .int .i64 (a : Nat), .pointer (some ⟨b0, o0 + a, none⟩), .slice (some ⟨gi, 0, none⟩) n n, .int .i64 (b : Nat), .pointer (some ⟨gi, b, none⟩), .bool true, .bool true, undef, undef, undef, undef, undef, undef, undef, .bool true, .bool true, .slice (some ⟨w.heap.size, 0, none⟩) n n, .int .i64 (b : Nat), .pointer (some ⟨w.heap.size, b, none⟩), .int .i64 (c4 b), .slice (some ⟨w.heap.size, 0, none⟩) n n, .int .i64 (a : Nat), .pointer (some ⟨w.heap.size, a, none⟩), .int .i64 (c4 a), .bool false] rfl (by kernel_rfl) (by kernel_rfl) (by kernel_rfl) ?_ ?_
       refine ⟨?_, ?_, ?_, ?_, ?_, ?_, ?_, ?_, ?_, ?_, ?_, ?_, ?_, ?_, ?_, ?_, ?_, ?_, ?_, ?_, ?_, ?_, ?_, ?_, ?_, ?_, trivial⟩ <;> (intro xx af wv hbx hev hev0 hd; have H := SH.mk hev hev0 hd; clear hev hev0 hd)
       ·have e0 := H.i 0; clear H; go_wp2; exact sQ rfl
       ·have e8 := H.i 8; clear H; go_wp2; exact sQ rfl
       ·have e58 := H.r 0 58; have e59 := H.r 1 59; clear H; go_wp2; exact sQ rfl
       ·have e60 := H.r 2 60; clear H; have hs1 := zh (HV.out.call hbx); have y0 := HX1.out _ hs1.out.below 0 _ rfl; rw [Nat.add_zero] at y0; go_wp2; exact sQ rfl
       ·have e9 := H.i 9; clear H; go_wp2; exact sQ rfl
       ·have e61 := H.r 3 61; have e62 := H.r 4 62; clear H; go_wp2; exact sQ rfl
       ·have e63 := H.r 5 63; clear H; have hs1 := zh (HV.out.call hbx); have y0 := HX2.out _ hs1.out.below 0 _ rfl; rw [Nat.add_zero] at y0; go_wp2; exact sQ rfl
       ·have e64 := H.r 6 64; clear H; go_wp2; exact sQ rfl
       ·have e65 := H.g 7 65; have q65 := a0a e65; clear H; go_wp2; exact sQ rfl
       ·have e65 := H.g 7 65; have q65 := a0a e65; clear H; go_wp2; exact sQ rfl
       ·have e65 := H.g 7 65; have q65 := a0a e65; clear H; go_wp2; exact sQ rfl
       ·have e65 := H.g 7 65; have q65 := a0a e65; clear H; go_wp2; exact sQ rfl
       ·have e65 := H.g 7 65; have q65 := a0a e65; clear H; go_wp2; exact sQ rfl
       ·have e65 := H.g 7 65; have q65 := a0a e65; clear H; go_wp2; exact sQ rfl
       ·have e65 := H.g 7 65; have q65 := a0a e65; clear H; go_wp2; exact sQ rfl
       ·have e65 := H.r 7 65; have e72 := H.r 14 72; clear H; go_wp2; exact sQ rfl
       ·have e73 := H.r 15 73; clear H; go_wp2; exact sQ rfl
       ·have e74 := H.g 16 74; have e4 := H.i 4; have q74 := a0a e74; clear H; go_wp2; exact sQ rfl
       ·have e74 := H.g 16 74; have e9 := H.i 9; have q74 := a0a e74; clear H; go_wp2; exact sQ rfl
       ·have e74 := H.g 16 74; have e75 := H.r 17 75; have e76 := H.r 18 76; have q74 := a0a e74; clear H; go_wp2; exact sQ rfl
       ·have e74 := H.g 16 74; have e77 := H.r 19 77; have q74 := a0a e74; clear H; have hs1 := zh (HV.out.call hbx); have yf0 := hs1.out.cellE 0 rfl hbn; go_wp2; exact sQ rfl
       ·have e74 := H.g 16 74; have e4 := H.i 4; have q74 := a0a e74; clear H; go_wp2; exact sQ rfl
       ·have e74 := H.g 16 74; have e8 := H.i 8; have q74 := a0a e74; clear H; go_wp2; exact sQ rfl
       ·have e74 := H.g 16 74; have e79 := H.r 21 79; have e80 := H.r 22 80; have q74 := a0a e74; clear H; go_wp2; exact sQ rfl
       ·have e74 := H.g 16 74; have e81 := H.r 23 81; have q74 := a0a e74; clear H; have hs1 := zh (HV.out.call hbx); have yf0 := hs1.out.cellE 0 rfl han; go_wp2; exact sQ rfl
       ·have e74 := H.g 16 74; have e78 := H.r 20 78; have e82 := H.r 24 82; have q74 := a0a e74; clear H; go_wp2; exact sQ rfl
       intro xx w3 hb9 hv
       simp only [List.take, List.drop, a0h, Act.put]
       simp only [vQ hv 0, vQ hv 1, vQ hv 2, vQ hv 3, vQ hv 4, vQ hv 5, vQ hv 6, vQ hv 7, vQ hv 8, vQ hv 9, vQ hv 10, vQ hv 11, vQ hv 12, vQ hv 13, vQ hv 14, vQ hv 15, vQ hv 16, vQ hv 17, vQ hv 18, vQ hv 19, vQ hv 20, vQ hv 21, vQ hv 22, vQ hv 23, vQ hv 24, vQ hv 25]
       clear hv
       have HV3 := zh (HV.out.call hb9)
       clear hb9 HV
       go_wp2
       go_roundg (n - (b + 1))
       case measure => omega
       case rel => exact ⟨b + 1, c4, mo, by omega, by omega, rfl, by go_num, HL.out.old (fun _ => HLT.out), HV3.out⟩
      have hbe : b = n := by omega
      rw [hbe] at HL ⊢
      have e4 : decide (((n : Nat) : Int) < (n : Int)) = false := decide_eq_false (by omega)
      clear hbe hb hbn
      go_wp2
      go_roundg (n - (a + 1))
      case measure => omega
      case rel => exact ⟨a + 1, c4, mo, by omega, by omega, rfl, by go_num, HL.out.row HB.out, HV.out⟩
    have hae : a = n := by omega
    rw [hae] at HL ⊢
    have e1 : decide (((n : Nat) : Int) < (n : Int)) = false := decide_eq_false (by omega)
    clear hae ha han
    go_wp2
    have hGK := HGK.out
    have hys := HL.out.yes
    go_roundg (G1 - 1)
    case measure => omega
    case rel => exact ⟨c3, mo, rfl, HL.out.cmp, (fun h => by subst h; exact HL.out.still HB.out), (by cases mo with | true => rw [if_pos rfl]; have := hys rfl; omega | false => rw [if_neg (by decide)]; exact Nat.zero_le _), HS.out⟩
theorem info_cls : (Tryz.prog.info? 61).map (fun i => (i.zero, i.size, i.bytes)) = some (some (.agg #[.int .i64 0, .string (bs []), .string (bs []), .slice none 0 0, .bool false, .string (bs []), .string (bs []), .int .i64 0]), 8, 112) := by kernel_rfl
theorem c1q : ∃ i, Tryz.prog.info? 61 = some i /\ i.zero = some (.agg #[.int .i64 0, .string (bs []), .string (bs []), .slice none 0 0, .bool false, .string (bs []), .string (bs []), .int .i64 0]) /\ i.size = 8 /\ i.bytes = 112 := by
 obtain ⟨i, hi, hzz⟩ := Option.map_eq_some_iff.1 info_cls
 simp only [Prod.mk.injEq] at hzz
 exact ⟨i, hi, hzz⟩
end Go.Proofs.YtgdhpghfojccaaaGreatDoor
