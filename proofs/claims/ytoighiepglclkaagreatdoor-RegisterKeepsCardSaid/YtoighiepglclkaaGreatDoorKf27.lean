/-
Part 27 of the base.
-/
import Derived.Test.YtoighiepglclkaaGreatDoorKf26
import Derived.Test.YtoighiepglclkaaGreatDoorKf29
namespace Go.Proofs.YtoighiepglclkaaGreatDoor
open Go.RowKit
theorem le_sgnR {a b : Rat} : (sgn (a - b).num <= 0) ↔ a <= b := by
 rcases a4k (a - b).num with h | h | h
 ·have h0 : ¬ 0 <= a - b := fun k => by have := Rat.num_nonneg.2 k; omega
  constructor
  ·intro _; grind
  intro _; omega
 ·have h0 : a - b = 0 := Rat.num_eq_zero.1 h.1
  constructor
  ·intro _; grind
  intro _; omega
 have h0 : ¬ a - b <= 0 := fun k => by
  have k2 : 0 <= -(a - b) := by grind
  have := Rat.num_nonneg.2 k2
  rw [Rat.neg_num] at this
  omega
 constructor
 ·intro _; omega
 intro k; exact absurd (by grind) h0
theorem ge_sgnR {a b : Rat} : (0 <= sgn (a - b).num) ↔ b <= a := by
 constructor
 ·intro h
  have := b2r h
  grind
 intro h
 have := b8n (q := a - b) (by grind)
 omega
theorem inB_iff {r lo hi : Rat} : inB r lo hi = true ↔ lo <= r /\ r <= hi := by
 unfold inB
 rw [Bool.and_eq_true, decide_eq_true_iff, decide_eq_true_iff, le_sgnR, ge_sgnR]
theorem c1b : zero3.val = 0 := b2c
theorem a8r {x : Ent} {e : Evt} (h : (a0f x e).2 = 0) : a1b e.kind x.st = true /\
    ((e.kind = 2 /\ (a0f x e).1 = { x with st := 2, fl := enc3 x.ce.val, ad := enc3 x.ce.val }) \/
     (e.kind = 3 /\ inB e.am.val 0 x.ce.val = true /\ (a0f x e).1 = { x with st := 3, fl := enc3 e.am.val, ad := enc3 e.am.val }) \/
     (e.kind = 4 /\ inB e.am.val x.fl.val x.ce.val = true /\ (a0f x e).1 = { x with st := 4, ad := enc3 e.am.val }) \/
     (e.kind = 5 /\ (a0f x e).1 = { x with st := 5 }) \/
     (e.kind = 6 /\ inB e.am.val x.fl.val x.ce.val = true /\ (a0f x e).1 = { x with st := 6, fl := enc3 e.am.val, ad := enc3 e.am.val, ce := enc3 e.am.val }) \/
     (e.kind = 9 /\ (a0f x e).1 = { x with st := 6, fl := enc3 x.ad.val, ce := enc3 x.ad.val }) \/
     (e.kind = 7 /\ (a0f x e).1 = { x with st := 7, fl := zero3, ad := zero3, ce := zero3 }) \/
     (¬ (e.cre < 0 \/ 32 <= e.cre \/ e.cre = x.p.cre) /\ (a0f x e).1 = { x with p := { x.p with cre := e.cre }, acq := e.day })) := by
  unfold a0f at h ⊢
  by_cases h0 : a1b e.kind x.st = false
  · rw [if_pos h0] at h; exact absurd h (by simp)
  rw [if_neg h0] at h ⊢
  refine ⟨by simpa using h0, ?_⟩
  by_cases h2 : e.kind = 2
  · rw [if_pos h2]; exact .inl ⟨h2, rfl⟩
  rw [if_neg h2] at h ⊢
  by_cases h3 : e.kind = 3
  · rw [if_pos h3] at h ⊢
    by_cases hi : inB e.am.val 0 x.ce.val = true
    · rw [if_pos hi]; exact .inr (.inl ⟨h3, hi, rfl⟩)
    rw [if_neg hi] at h; exact absurd h (by simp)
  rw [if_neg h3] at h ⊢
  by_cases h4 : e.kind = 4
  · rw [if_pos h4] at h ⊢
    by_cases hi : inB e.am.val x.fl.val x.ce.val = true
    · rw [if_pos hi]; exact .inr (.inr (.inl ⟨h4, hi, rfl⟩))
    rw [if_neg hi] at h; exact absurd h (by simp)
  rw [if_neg h4] at h ⊢
  by_cases h5 : e.kind = 5
  · rw [if_pos h5]; exact .inr (.inr (.inr (.inl ⟨h5, rfl⟩)))
  rw [if_neg h5] at h ⊢
  by_cases h6 : e.kind = 6
  · rw [if_pos h6] at h ⊢
    by_cases hi : inB e.am.val x.fl.val x.ce.val = true
    · rw [if_pos hi]; exact .inr (.inr (.inr (.inr (.inl ⟨h6, hi, rfl⟩))))
    rw [if_neg hi] at h; exact absurd h (by simp)
  rw [if_neg h6] at h ⊢
  by_cases h9 : e.kind = 9
  · rw [if_pos h9]; exact .inr (.inr (.inr (.inr (.inr (.inl ⟨h9, rfl⟩)))))
  rw [if_neg h9] at h ⊢
  by_cases h7 : e.kind = 7
  · rw [if_pos h7]; exact .inr (.inr (.inr (.inr (.inr (.inr (.inl ⟨h7, rfl⟩))))))
  rw [if_neg h7] at h ⊢
  by_cases hc : e.cre < 0 \/ 32 <= e.cre \/ e.cre = x.p.cre
  · rw [if_pos hc] at h; exact absurd h (by simp)
  rw [if_neg hc]; exact .inr (.inr (.inr (.inr (.inr (.inr (.inr ⟨hc, rfl⟩))))))

def Ent.fine (x : Ent) (day : Int) : Prop := 0 <= x.fl.val /\ x.fl.val <= x.ad.val /\ x.ad.val <= x.ce.val /\ x.ce.val <= x.cl.val /\ x.chg <= day /\ (x.st = 1 -> x.fl.val = 0)
def Rgs.fine (r : Rgs) : Prop := (∀ x ∈ r.es, x.fine r.day) /\ ∀ (i j : Nat) (x y : Ent), r.es[i]? = some x -> r.es[j]? = some y -> x.p.id = y.p.id -> i = j
theorem allow3 {st : Int} (h : a1b 3 st = true) : st = 1 := by
 unfold a1b at h
 rw [if_pos (by decide)] at h
 exact of_decide_eq_true h
theorem c5c {x : Ent} {e : Evt} {day : Int} (h : x.fine day) (h2 : (a0f x e).2 = 0) :
  Ent.fine { (a0f x e).1 with chg := e.day } e.day /\ ((x.fl.val <= (a0f x e).1.fl.val /\ (a0f x e).1.ce.val <= x.ce.val) \/ (a0f x e).1.st = 7) /\ (a0f x e).1.p.id = x.p.id := by
 obtain ⟨ha, hb, hc, hd, _, hf⟩ := h
 obtain ⟨hal, hw⟩ := a8r h2
 rcases hw with ⟨hk, hq⟩ | ⟨hk, hi, hq⟩ | ⟨hk, hi, hq⟩ | ⟨hk, hq⟩ | ⟨hk, hi, hq⟩ | ⟨hk, hq⟩ | ⟨hk, hq⟩ | ⟨hk, hq⟩
 all_goals (rw [hq]; unfold Ent.fine; dsimp only; try simp only [b4x, c1b])
 ·exact ⟨⟨by grind, Rat.le_refl, Rat.le_refl, hd, Int.le_refl _, fun h => absurd h (by decide)⟩, .inl ⟨by grind, Rat.le_refl⟩, by first | rfl | trivial⟩
 ·obtain ⟨i1, i2⟩ := inB_iff.1 hi
  have h1 := hf (allow3 (by rw [<- hk]; exact hal))
  exact ⟨⟨i1, Rat.le_refl, i2, hd, Int.le_refl _, fun h => absurd h (by decide)⟩, .inl ⟨by rw [h1]; exact i1, Rat.le_refl⟩, by first | rfl | trivial⟩
 ·obtain ⟨i1, i2⟩ := inB_iff.1 hi
  exact ⟨⟨ha, i1, i2, hd, Int.le_refl _, fun h => absurd h (by decide)⟩, .inl ⟨Rat.le_refl, Rat.le_refl⟩, by first | rfl | trivial⟩
 ·exact ⟨⟨ha, hb, hc, hd, Int.le_refl _, fun h => absurd h (by decide)⟩, .inl ⟨Rat.le_refl, Rat.le_refl⟩, by first | rfl | trivial⟩
 ·obtain ⟨i1, i2⟩ := inB_iff.1 hi
  exact ⟨⟨by grind, Rat.le_refl, Rat.le_refl, by grind, Int.le_refl _, fun h => absurd h (by decide)⟩, .inl ⟨i1, i2⟩, by first | rfl | trivial⟩
 ·exact ⟨⟨by grind, Rat.le_refl, Rat.le_refl, by grind, Int.le_refl _, fun h => absurd h (by decide)⟩, .inl ⟨hb, hc⟩, by first | rfl | trivial⟩
 ·exact ⟨⟨Rat.le_refl, Rat.le_refl, Rat.le_refl, by grind, Int.le_refl _, fun h => absurd h (by decide)⟩, .inr (by first | rfl | trivial), by first | rfl | trivial⟩
 exact ⟨⟨ha, hb, hc, hd, Int.le_refl _, hf⟩, .inl ⟨Rat.le_refl, Rat.le_refl⟩, by first | rfl | trivial⟩
theorem c1g {a : Rat} {p : Prf} {cut : Int} (ha : 0 <= a) (h1 : dayB p.rf = true) (h2 : ¬ sgn p.rate.num < 0) : 0 <= (a5z a [p.step] p.rf cut 365).1 := by
 unfold a5z
 split
 ·exact Rat.le_refl
 exact Rat.mul_nonneg ha (c1h (a4h (a9s (s := p.step) h1 h2)) (by decide))
theorem c1c (p : Prf) (cut : Int) (qs : List Quo) : 0 <= (a0u p cut qs).1 := by
 unfold a0u
 split
 ·exact Rat.le_refl
 rename_i h1
 obtain ⟨_, _, z3, _, z5, z6⟩ := a6e (Classical.not_not.1 h1)
 have hc : 0 <= (a2m qs p.amount p.code eur cut).1 := b1e (b2r z3)
 split
 ·exact Rat.le_refl
 split
 ·exact Rat.le_refl
 split
 ·exact Rat.le_refl
 split
 ·exact hc
 have := c1g (cut := cut) hc z6 (show ¬ sgn p.rate.num < 0 by omega)
 show 0 <= (a2m qs p.amount p.code eur cut).1 + _
 grind
theorem c9z (p : Prf) (day bar : Int) {v : Rat} (hv : 0 <= v) : (newE p day bar v).fine day := by
 unfold newE Ent.fine
 simp only [b4x, c1b]
 exact ⟨Rat.le_refl, Rat.le_refl, hv, Rat.le_refl, Int.le_refl _, fun _ => by first | rfl | trivial⟩
theorem find_id {l : List Ent} {id : List UInt8} {i : Nat} (h : a3k l id = some i) : ∃ x, l[i]? = some x /\ x.p.id = id := by
 unfold a3k at h
 rw [List.findIdx?_eq_some_iff_getElem] at h
 obtain ⟨hl, he, _⟩ := h
 exact ⟨l[i], List.getElem?_eq_getElem hl, by simpa using he⟩
theorem find_not {l : List Ent} {id : List UInt8} (h : (a3k l id).isSome = false) : ∀ (i : Nat) (x : Ent), l[i]? = some x -> x.p.id ≠ id := by
 intro i x hx
 unfold a3k at h
 have h1 : List.findIdx? (fun e : Ent => e.p.id == id) l = none := by
  cases hf : List.findIdx? (fun e : Ent => e.p.id == id) l with
  | none => rfl
  | some k => rw [hf] at h; simp at h
 rw [List.findIdx?_eq_none_iff] at h1
 have := h1 x (List.mem_of_getElem? hx)
 simpa using this
theorem a7m {r : Rgs} {e : Evt} {qs : List Quo} (h : (a0q r e qs).2 = 0) : (r.day <= e.day /\ dayB e.day = true /\ 1 <= e.kind /\ e.kind <= 9) /\
    ((e.kind = 1 /\ (a0u e.p r.cut qs).2 = 0 /\ (a3k r.es e.p.id).isSome = false /\ r.es.length < 64 /\ (a0q r e qs).1 = ⟨r.cut, r.bar, e.day, r.es ++ [newE e.p e.day r.bar (a0u e.p r.cut qs).1]⟩) \/
     (∃ i x, 2 <= e.kind /\ a3k r.es e.id = some i /\ r.es[i]? = some x /\ (a0f x e).2 = 0 /\ (a0q r e qs).1 = ⟨r.cut, r.bar, e.day, r.es.set i { (a0f x e).1 with chg := e.day }⟩)) := by
  unfold a0q at h ⊢
  by_cases h1 : e.kind < 1 \/ 9 < e.kind \/ dayB e.day = false
  · rw [if_pos h1] at h; exact absurd h (by simp)
  rw [if_neg h1] at h ⊢
  by_cases h2 : e.day < r.day
  · rw [if_pos h2] at h; exact absurd h (by simp)
  rw [if_neg h2] at h ⊢
  have hd : dayB e.day = true := by
    cases hb : dayB e.day
    · exact absurd (.inr (.inr hb)) h1
    rfl
  refine ⟨⟨by omega, hd, by omega, by omega⟩, ?_⟩
  by_cases h3 : e.kind = 1
  · rw [if_pos h3] at h ⊢
    by_cases h4 : (a0u e.p r.cut qs).2 ≠ 0
    · rw [if_pos h4] at h; exact absurd h h4
    rw [if_neg h4] at h ⊢
    by_cases h5 : (a3k r.es e.p.id).isSome = true
    · rw [if_pos h5] at h; exact absurd h (by simp)
    rw [if_neg h5] at h ⊢
    by_cases h6 : 64 <= r.es.length
    · rw [if_pos h6] at h; exact absurd h (by simp)
    rw [if_neg h6]
    exact .inl ⟨h3, Classical.not_not.1 h4, by simpa using h5, by omega, rfl⟩
  rw [if_neg h3] at h ⊢
  right
  cases hf : a3k r.es e.id with
  | none => rw [hf] at h; exact absurd h (by simp)
  | some i =>
    obtain ⟨x, hx, _⟩ := find_id hf
    rw [hf] at h
    dsimp only at h ⊢
    rw [hx] at h ⊢
    dsimp only at h ⊢
    by_cases h7 : (a0f x e).2 ≠ 0
    · rw [if_pos h7] at h; exact absurd h h7
    rw [if_neg h7]
    exact ⟨i, x, by omega, rfl, hx, Classical.not_not.1 h7, rfl⟩
theorem b3j {r : Rgs} {e : Evt} {qs : List Quo} (h : (a0q r e qs).2 ≠ 0) : (a0q r e qs).1 = rgs0 := by
 unfold a0q at h ⊢
 split
 ·rfl
 split
 ·rfl
 split
 ·split
  ·rfl
  split
  ·rfl
  split
  ·rfl
  rename_i h1 h2 h3 h4 h5 h6
  rw [if_neg h1, if_neg h2, if_pos h3, if_neg h4, if_neg h5, if_neg h6] at h
  exact absurd rfl h
 rename_i h1 h2 h3
 rw [if_neg h1, if_neg h2, if_neg h3] at h
 cases hf : a3k r.es e.id with
 | none => rfl
 | some i =>
  rw [hf] at h
  dsimp only at h ⊢
  cases hx : r.es[i]? with
  | none => rfl
  | some x =>
   rw [hx] at h
   dsimp only at h ⊢
   split
   ·rfl
   rename_i h7
   rw [if_neg h7] at h
   exact absurd rfl h
theorem c8g {r : Rgs} {e : Evt} {qs : List Quo} (hr : r.fine) (h : (a0q r e qs).2 = 0) : (a0q r e qs).1.fine := by
 obtain ⟨⟨hd, _⟩, hw⟩ := a7m h
 rcases hw with ⟨_, _, hf, _, hq⟩ | ⟨i, x, _, hf, hx, hc, hq⟩
 ·rw [hq]
  refine ⟨fun y hy => ?_, fun a b y z hy hz hyz => ?_⟩
  ·rcases List.mem_append.1 hy with hy | hy
   ·obtain ⟨a1, a2, a3, a4, a5, a6⟩ := hr.1 y hy
    exact ⟨a1, a2, a3, a4, Int.le_trans a5 hd, a6⟩
   obtain rfl : y = _ := by simpa using hy
   exact c9z _ _ _ (c1c _ _ _)
  dsimp only at hy hz
  have hn := find_not hf
  have key : ∀ (c : Nat) (y : Ent), (r.es ++ [newE e.p e.day r.bar (a0u e.p r.cut qs).1])[c]? = some y -> r.es[c]? = some y \/ (c = r.es.length /\ y.p.id = e.p.id) := by
   intro c y hy
   rw [List.getElem?_append] at hy
   split at hy
   ·exact .inl hy
   rename_i hc
   have h0 := (List.getElem?_eq_some_iff.1 hy).1
   have : c = r.es.length := by simp at h0; omega
   subst this
   rw [Nat.sub_self] at hy
   obtain rfl : _ = y := Option.some.inj hy
   exact .inr ⟨rfl, rfl⟩
  rcases key a y hy with h1 | ⟨h1, h1'⟩ <;> rcases key b z hz with h2 | ⟨h2, h2'⟩
  ·exact hr.2 a b y z h1 h2 hyz
  ·exact absurd (hyz.trans h2') (hn a y h1)
  ·exact absurd (hyz.symm.trans h1') (hn b z h2)
  omega
 rw [hq]
 obtain ⟨f1, _, f3⟩ := c5c (hr.1 x (List.mem_of_getElem? hx)) hc
 refine ⟨fun y hy => ?_, fun a b y z hy hz hyz => ?_⟩
 ·rcases List.mem_or_eq_of_mem_set hy with hy | rfl
  ·obtain ⟨a1, a2, a3, a4, a5, a6⟩ := hr.1 y hy
   exact ⟨a1, a2, a3, a4, Int.le_trans a5 hd, a6⟩
  exact f1
 dsimp only at hy hz
 have key : ∀ (c : Nat) (y : Ent), (r.es.set i { (a0f x e).1 with chg := e.day })[c]? = some y -> ∃ y', r.es[c]? = some y' /\ y'.p.id = y.p.id := by
  intro c y hy
  rw [List.getElem?_set] at hy
  split at hy
  ·rename_i hic
   subst hic
   split at hy
   ·obtain rfl : _ = y := Option.some.inj hy
    exact ⟨x, hx, f3.symm⟩
   cases hy
  exact ⟨y, hy, rfl⟩
 obtain ⟨y', h1, e1⟩ := key a y hy
 obtain ⟨z', h2, e2⟩ := key b z hz
 exact hr.2 a b y' z' h1 h2 (by rw [e1, e2, hyz])
theorem new_fine (cut bar : Int) : (newR cut bar).1.fine := by
 unfold newR
 split <;> exact ⟨by simp [rgs0], by simp [rgs0]⟩
structure Six where
 a : Nat
 b : Nat
 c : Nat
 d : Nat
 e : Nat
 f : Nat
def Six.enc (x : Six) : List Value := [.int .u16 (x.a : Nat), .int .u16 (x.b : Nat), .int .u16 (x.c : Nat), .int .u16 (x.d : Nat), .int .u16 (x.e : Nat), .int .u16 (x.f : Nat)]
def Six.ok (x : Six) : Prop := x.a <= 65535 /\ x.b <= 65535 /\ x.c <= 65535 /\ x.d <= 65535 /\ x.e <= 65535 /\ x.f <= 65535
structure ActN where
 kind : Nat
 pass : Nat
 claim : Nat
 am : Nat
 p : Six
def ActN.enc (a : ActN) : List Value := [.int .u8 (a.kind : Nat), .int .u8 (a.pass : Nat), .int .u8 (a.claim : Nat), .int .u16 (a.am : Nat)] ++ a.p.enc
def ActN.ok (a : ActN) : Prop := (a.kind <= 255 /\ a.pass <= 255 /\ a.claim <= 255 /\ a.am <= 65535) /\ a.p.ok
theorem act_len (a : ActN) : a.enc.length = 10 := rfl
abbrev ActsL (w : World) (v : Value) (l : List ActN) : Prop := Slc ActN.enc 10 w v l
def b1w (k : Nat) : List UInt8 := if k = 0 then [97] else if k = 1 then [98] else if k = 2 then [99] else if k = 3 then [100] else if k = 4 then [101] else if k = 5 then [102] else if k = 6 then [103] else if k = 7 then [104] else if k = 8 then [115, 49] else if k = 9 then [115, 45, 50] else if k = 10 then [116, 95, 51] else [117]
theorem c2k (k : Nat) : (b1w k).length <= 3 := by
 unfold b1w
 repeat' (split <;> try decide)
def c5a (k : Nat) : List UInt8 := if k <= 1 then eurL else if k = 2 then usdL else gbpL
theorem d1a (k : Nat) : (c5a k).length = 3 := by
 unfold c5a
 repeat' (split <;> try rfl)
def b0z (x : Six) : Rat := if x.c % 3 = 0 then mkRat (1 + (x.c : Int) / 4 % 9) 100 else 0
def a2x (x : Six) : Prf := ⟨b1w (x.a % 12), (x.b % 4 : Nat), (x.b / 4 % 9 : Nat), c5a (x.c % 4), negB (a2c x.d), numB (a2c x.d), a0a (a2c x.d), (x.e % 50 : Nat), (x.f % 5 : Nat), negB (b0z x), numB (b0z x), a0a (b0z x), if x.c % 3 = 0 then ((x.e / 50 % 60 : Nat) : Int) else 0, ((x.f / 5 % 4 : Nat) : Int) - 1⟩
def prf0 : Prf := ⟨[], 0, 0, [], false, [], [], 0, 0, false, [], [], 0, 0⟩
def evOf (a : ActN) (day : Int) : Evt := ⟨(a.kind % 11 : Nat), day, b1w (a.claim % 12), enc3 (a2c a.am), (a.am % 10 : Nat), if a.kind % 11 = 1 then { a2x a.p with id := b1w (a.claim % 12) } else prf0⟩
def chfQ : Quo := ⟨[67, 72, 70], 1, negB 1, numB 1, a0a 1⟩
def a2g (ts : List Tri) : List Quo := a7d ts ++ [chfQ]
def b0p (qs : List Quo) (s : Rgs × Int) (a : ActN) : Rgs × Int :=
 if (a0q s.1 (evOf a (s.2 + (a.pass % 4 : Nat))) qs).2 ≠ 0 then (s.1, s.2 + (a.pass % 4 : Nat)) else ((a0q s.1 (evOf a (s.2 + (a.pass % 4 : Nat))) qs).1, s.2 + (a.pass % 4 : Nat))
def runA (cut bar : Nat) (acts : List ActN) (qs : List Quo) : Rgs := ((acts.take 40).foldl (b0p qs) ((newR (cut % 60 : Nat) (bar % 90 : Nat)).1, 0)).1
theorem fold_at {α β : Type} {f : β -> α -> β} {s : β} {l : List α} {k : Nat} {x : α} (h : l[k]? = some x) : (l.take (k + 1)).foldl f s = f ((l.take k).foldl f s) x := by
 rw [b2p h, List.foldl_append]; rfl
def Raw3.le (t : Raw3) (n : Nat) : Prop := t.a.length <= n /\ t.b.length <= n
def Prf.mid (p : Prf) : Prop := p.fit /\ (p.aa.length <= 100 /\ p.ab.length <= 100) /\ p.ra.length <= 100 /\ p.rb.length <= 100
def Ent.mid (x : Ent) : Prop := x.fit /\ x.fl.le 10000 /\ x.ad.le 10000 /\ x.ce.le 10000
def Evt.mid (e : Evt) : Prop := e.am.le 10000 /\ e.p.mid
def Quo.low (q : Quo) : Prop := q.num.length <= 100 /\ q.den.length <= 100
theorem b3e {q : Rat} {n : Nat} (h : Sized n q) : (enc3 q).le n := ⟨h.num, h.denom⟩
theorem Raw3.sized {t : Raw3} {n : Nat} (h : t.le n) (hn : 1 <= n) : Sized n t.val := a1f h.1 h.2 hn
theorem Raw3.le.fit {t : Raw3} {n : Nat} (h : t.le n) (hn : n <= 9223372036854775807) : t.fit := ⟨Nat.le_trans h.1 hn, Nat.le_trans h.2 hn⟩
theorem zero3_le {n : Nat} : zero3.le n := ⟨Nat.zero_le _, Nat.zero_le _⟩
theorem b9w {a : Int} (h : -9223372036854775808 <= a /\ a <= 9223372036854775807) : (Lit.int .i64 a).wf = true := WalkArith.wf_i64 h
theorem wf_day {d : Int} (h : dayB d = true) : (Lit.int .i64 d).wf = true := by
 have := a5n h
 exact b9w (by omega)
theorem newE_mid {p : Prf} {day bar : Int} {v : Rat} (hp : p.mid) (hv : Sized 10000 v) (hd : dayB day = true) : (newE p day bar v).mid := by
 have h1 := b3e hv
 exact ⟨⟨hp.1, ⟨h1.fit (by decide), zero3_le.fit (n := 1) (by decide), zero3_le.fit (n := 1) (by decide), h1.fit (by decide)⟩, (show (Lit.int .i64 1).wf = true from by decide), hp.1.2.2.2.1, wf_day hd⟩, zero3_le, zero3_le, h1⟩
theorem c8d {x : Ent} {e : Evt} (hx : x.mid) (he : e.mid) (hd : dayB e.day = true) (h : (a0f x e).2 = 0) : Ent.mid { (a0f x e).1 with chg := e.day } := by
 obtain ⟨⟨f1, ⟨c1, c2, c3, c4⟩, w1, w2, w3⟩, s1, s2, s3⟩ := hx
 have a1 := b3e (Raw3.sized he.1 (by decide))
 have a2 := b3e (Raw3.sized s2 (by decide))
 have a3 := b3e (Raw3.sized s3 (by decide))
 have b1 := a1.fit (by decide)
 have b2 := a2.fit (by decide)
 have b3 := a3.fit (by decide)
 have z := zero3_le.fit (n := 1) (by decide)
 have wd := wf_day hd
 have k2 : (Lit.int .i64 2).wf = true := by decide
 have k3 : (Lit.int .i64 3).wf = true := by decide
 have k4 : (Lit.int .i64 4).wf = true := by decide
 have k5 : (Lit.int .i64 5).wf = true := by decide
 have k6 : (Lit.int .i64 6).wf = true := by decide
 have k7 : (Lit.int .i64 7).wf = true := by decide
 obtain ⟨hal, hw⟩ := a8r h
 rcases hw with ⟨hk, hq⟩ | ⟨hk, hi, hq⟩ | ⟨hk, hi, hq⟩ | ⟨hk, hq⟩ | ⟨hk, hi, hq⟩ | ⟨hk, hq⟩ | ⟨hk, hq⟩ | ⟨hk, hq⟩
 all_goals rw [hq]
 ·exact ⟨⟨f1, ⟨c1, b3, b3, c4⟩, k2, w2, wd⟩, a3, a3, s3⟩
 ·exact ⟨⟨f1, ⟨c1, b1, b1, c4⟩, k3, w2, wd⟩, a1, a1, s3⟩
 ·exact ⟨⟨f1, ⟨c1, c2, b1, c4⟩, k4, w2, wd⟩, s1, a1, s3⟩
 ·exact ⟨⟨f1, ⟨c1, c2, c3, c4⟩, k5, w2, wd⟩, s1, s2, s3⟩
 ·exact ⟨⟨f1, ⟨c1, b1, b1, b1⟩, k6, w2, wd⟩, a1, a1, a1⟩
 ·exact ⟨⟨f1, ⟨c1, b2, c3, b2⟩, k6, w2, wd⟩, a2, s2, a2⟩
 ·exact ⟨⟨f1, ⟨c1, z, z, z⟩, k7, w2, wd⟩, zero3_le, zero3_le, zero3_le⟩
 have hc : -9223372036854775808 <= e.cre /\ e.cre <= 9223372036854775807 := by omega
 exact ⟨⟨⟨f1.1, f1.2.1, b9w hc, f1.2.2.2⟩, ⟨c1, c2, c3, c4⟩, w1, wd, wd⟩, s1, s2, s3⟩
theorem d1j {r : Rgs} {e : Evt} {qs : List Quo} (hr : ∀ x ∈ r.es, x.mid) (he : e.mid) (hq : ∀ q ∈ qs, q.low) : ∀ x ∈ (a0q r e qs).1.es, x.mid := by
 by_cases h : (a0q r e qs).2 = 0
 ·obtain ⟨⟨_, hd, _⟩, hw⟩ := a7m h
  rcases hw with ⟨_, _, hf, _, hq'⟩ | ⟨i, x, _, hf, hx, hc, hq'⟩
  ·rw [hq']
   intro y hy
   rcases List.mem_append.1 hy with hy | hy
   ·exact hr y hy
   obtain rfl : y = _ := by simpa using hy
   exact newE_mid he.2 (b0t he.2.2 hq) hd
  rw [hq']
  intro y hy
  rcases List.mem_or_eq_of_mem_set hy with hy | rfl
  ·exact hr y hy
  exact c8d (hr x (List.mem_of_getElem? hx)) he hd hc
 rw [b3j h]
 intro x hx
 exact absurd hx (by simp [rgs0])
theorem d1k {r : Rgs} {e : Evt} {qs : List Quo} : (a0q r e qs).1.es.length <= r.es.length + 1 := by
 by_cases h : (a0q r e qs).2 = 0
 ·obtain ⟨_, hw⟩ := a7m h
  rcases hw with ⟨_, _, hf, _, hq'⟩ | ⟨i, x, _, hf, hx, hc, hq'⟩
  ·rw [hq']; simp
  rw [hq']; simp
 rw [b3j h]; simp [rgs0]
theorem b7c {x : Nat} (h : x <= 65535) : Sized 8 (a2c x) := c0z h
theorem c3w {x : Six} (h : x.ok) : Sized 8 (b0z x) := by
 have hp : (256 : Nat) ^ 8 = 18446744073709551616 := by decide
 unfold b0z
 split
 ·exact a6s (by omega) (a0s _ _ (by have := h.2.2.1; omega)) (a0s _ _ (by omega))
 exact sized_zero.mono (by decide)
theorem c4b {x : Six} (h : x.ok) : (a2x x).mid := by
 have ha := b7c h.2.2.2.1
 have hr := c3w h
 have n1 := c2k (x.a % 12)
 have n2 := d1a (x.c % 4)
 obtain ⟨a1, a2⟩ : (numB (a2c x.d)).length <= 8 /\ (a0a (a2c x.d)).length <= 8 := ⟨ha.num, ha.denom⟩
 obtain ⟨r1, r2⟩ : (numB (b0z x)).length <= 8 /\ (a0a (b0z x)).length <= 8 := ⟨hr.num, hr.denom⟩
 unfold Prf.mid Prf.fit a2x
 dsimp only
 refine ⟨⟨⟨by omega, by omega, by omega, by omega, by omega, by omega⟩, b9w (by omega), b9w (by omega), b9w (by omega), b9w (by omega), b9w ?_, b9w (by omega)⟩, ⟨by omega, by omega⟩, by omega, by omega⟩
 split <;> omega
theorem prf0_mid : prf0.mid := by
 unfold Prf.mid Prf.fit prf0
 refine ⟨⟨⟨?_, ?_, ?_, ?_, ?_, ?_⟩, ?_, ?_, ?_, ?_, ?_, ?_⟩, ⟨?_, ?_⟩, ?_, ?_⟩ <;> first | decide | exact b9w (by omega)
theorem b4w {a : ActN} (h : a.ok) (day : Int) : (evOf a day).mid := by
 obtain ⟨⟨_, _, _, hm⟩, hp⟩ := h
 refine ⟨b3e ((b7c hm).mono (by decide)), ?_⟩
 unfold evOf
 dsimp only
 split
 ·have := c4b hp
  obtain ⟨⟨⟨q1, q2⟩, q3⟩, q4⟩ := this
  have n1 := c2k (a.claim % 12)
  exact ⟨⟨⟨by show (b1w _).length <= _; omega, q2⟩, q3⟩, q4⟩
 exact prf0_mid
theorem c1y (ts : List Tri) : (a7d ts).length <= 8 := Nat.le_trans (fold_len _) (by rw [List.length_take]; omega)
theorem chf_low : chfQ.low := by unfold Quo.low; decide +kernel
theorem chf_ok : chfQ.ok := by
 unfold Quo.ok
 refine ⟨?_, ?_, ?_, ?_, ?_⟩ <;> decide +kernel
theorem fold_mem : ∀ (ts : List Tri), (∀ t ∈ ts, t.ok) -> ∀ q ∈ ts.foldl addQ [], ∃ t, t.ok /\ q = triQ t := by
 intro ts
 suffices H : ∀ (l : List Tri) (out : List Quo), (∀ t ∈ l, t.ok) -> (∀ q ∈ out, ∃ t, t.ok /\ q = triQ t) -> ∀ q ∈ l.foldl addQ out, ∃ t, t.ok /\ q = triQ t from fun h => H ts [] h (by simp)
 intro l
 induction l with
 | nil => intro out _ h; exact h
 | cons a t ih =>
  intro out h1 h2
  rw [List.foldl_cons]
  refine ih _ (fun b hb => h1 b (List.mem_cons_of_mem _ hb)) ?_
  unfold addQ
  split
  ·exact h2
  intro q hq
  rcases List.mem_append.1 hq with hq | hq
  ·exact h2 q hq
  exact ⟨a, h1 a (List.mem_cons_self ..), by simpa using hq⟩
theorem c3y {ts : List Tri} (h : ∀ t ∈ ts, t.ok) : ∀ q ∈ a2g ts, q.low := by
 intro q hq
 rcases List.mem_append.1 hq with hq | hq
 ·obtain ⟨_, _, h3⟩ := d0u (ts.take 8) (fun t ht => h t (List.mem_of_mem_take ht))
  have hm : ∀ q ∈ (ts.take 8).foldl addQ [], ∃ t, t.ok /\ q = triQ t := fold_mem _ (fun t ht => h t (List.mem_of_mem_take ht))
  obtain ⟨t, ht, rfl⟩ := hm q hq
  have hs := b8f ht
  exact ⟨Nat.le_trans hs.num (by decide), Nat.le_trans hs.denom (by decide)⟩
 obtain rfl : q = chfQ := by simpa using hq
 exact chf_low
theorem c7s {ts : List Tri} (h : ∀ t ∈ ts, t.ok) : ∀ q ∈ a2g ts, q.ok := by
 intro q hq
 rcases List.mem_append.1 hq with hq | hq
 ·exact (d0u (ts.take 8) (fun t ht => h t (List.mem_of_mem_take ht))).1 q hq
 obtain rfl : q = chfQ := by simpa using hq
 exact chf_ok
def Rgs.good (r : Rgs) : Prop := r.fine /\ ∀ x ∈ r.es, x.mid
theorem c8f {r : Rgs} {e : Evt} {qs : List Quo} (hr : r.good) (he : e.mid) (hq : ∀ q ∈ qs, q.low) (h : (a0q r e qs).2 = 0) : (a0q r e qs).1.good := ⟨c8g hr.1 h, d1j hr.2 he hq⟩
theorem new_good (cut bar : Int) : (newR cut bar).1.good := by
 refine ⟨new_fine cut bar, fun x hx => ?_⟩
 unfold newR at hx
 split at hx <;> exact absurd hx (by simp [rgs0])
theorem b9f {qs : List Quo} (hq : ∀ q ∈ qs, q.low) : ∀ (acts : List ActN), (∀ a ∈ acts, a.ok) -> ∀ (s : Rgs × Int), s.1.good -> (acts.foldl (b0p qs) s).1.good /\ (acts.foldl (b0p qs) s).1.es.length <= s.1.es.length + acts.length /\ s.2 <= (acts.foldl (b0p qs) s).2 /\ (acts.foldl (b0p qs) s).2 <= s.2 + 3 * acts.length
 | [], _, s, hs => ⟨hs, by simp, by simp, by simp⟩
 | a :: t, ha, s, hs => by
  rw [List.foldl_cons]
  have hk : (b0p qs s a).1.good /\ (b0p qs s a).1.es.length <= s.1.es.length + 1 /\ (b0p qs s a).2 = s.2 + (a.pass % 4 : Nat) := by
   unfold b0p
   split
   ·exact ⟨hs, by dsimp only; omega, rfl⟩
   rename_i h
   exact ⟨c8f hs (b4w (ha a (List.mem_cons_self ..)) _) hq (Classical.not_not.1 h), d1k, rfl⟩
  obtain ⟨h1, h2, h3, h4⟩ := b9f hq t (fun b hb => ha b (List.mem_cons_of_mem _ hb)) (b0p qs s a) hk.1
  refine ⟨h1, ?_, ?_, ?_⟩
  ·rw [List.length_cons]; omega
  ·omega
  rw [List.length_cons]; omega
end Go.Proofs.YtoighiepglclkaaGreatDoor
