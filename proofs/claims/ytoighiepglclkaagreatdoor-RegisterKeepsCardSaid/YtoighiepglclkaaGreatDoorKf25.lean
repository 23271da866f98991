/-
Part 25 of the base.
-/
import Derived.Test.YtoighiepglclkaaGreatDoorKf19
import Derived.Test.YtoighiepglclkaaGreatDoorKf24
import Derived.DeepKeys
import Derived.DeepKeys4
namespace Go.Proofs.YtoighiepglclkaaGreatDoor
open Go.RowKit
structure Prf where
 id : List UInt8
 est : Int
 cre : Int
 code : List UInt8
 an : Bool
 aa : List UInt8
 ab : List UInt8
 inc : Int
 rank : Int
 rn : Bool
 ra : List UInt8
 rb : List UInt8
 rf : Int
 sec : Int
deriving DecidableEq
def Prf.enc (p : Prf) : List Value := [.string (bs p.id), .int .i64 p.est, .int .i64 p.cre, .string (bs p.code), .bool p.an, .string (bs p.aa), .string (bs p.ab), .int .i64 p.inc, .int .i64 p.rank, .bool p.rn, .string (bs p.ra), .string (bs p.rb), .int .i64 p.rf, .int .i64 p.sec]
def Prf.amount (p : Prf) : Rat := decR p.an p.aa p.ab
def Prf.rate (p : Prf) : Rat := decR p.rn p.ra p.rb
structure Raw3 where
 n : Bool
 a : List UInt8
 b : List UInt8
deriving DecidableEq
def Raw3.val (t : Raw3) : Rat := decR t.n t.a t.b
def enc3 (q : Rat) : Raw3 := ⟨negB q, numB q, a0a q⟩
def zero3 : Raw3 := ⟨false, [], []⟩
theorem b4x (q : Rat) : (enc3 q).val = q := a6y q
structure Ent where
 p : Prf
 st : Int
 late : Bool
 cl : Raw3
 fl : Raw3
 ad : Raw3
 ce : Raw3
 acq : Int
 chg : Int
deriving DecidableEq
def Ent.enc (e : Ent) : List Value := e.p.enc ++ [.int .i64 e.st, .bool e.late, .bool e.cl.n, .string (bs e.cl.a), .string (bs e.cl.b), .bool e.fl.n, .string (bs e.fl.a), .string (bs e.fl.b), .bool e.ad.n, .string (bs e.ad.a), .string (bs e.ad.b), .bool e.ce.n, .string (bs e.ce.a), .string (bs e.ce.b), .int .i64 e.acq, .int .i64 e.chg]
theorem a1g (e : Ent) : e.enc.length = 30 := rfl
abbrev a5d (w : World) (v : Value) (l : List Ent) : Prop := Slc Ent.enc 30 w v l
structure Evt where
 kind : Int
 day : Int
 id : List UInt8
 am : Raw3
 cre : Int
 p : Prf
deriving DecidableEq
def Evt.enc (e : Evt) : List Value := [.int .i64 e.kind, .int .i64 e.day, .string (bs e.id), .bool e.am.n, .string (bs e.am.a), .string (bs e.am.b), .int .i64 e.cre] ++ e.p.enc
structure Rgs where
 cut : Int
 bar : Int
 day : Int
 es : List Ent
deriving DecidableEq
def b1b (c : UInt8) : Bool := (decide (97 <= c.toNat) && decide (c.toNat <= 122)) || (decide (65 <= c.toNat) && decide (c.toNat <= 90))
def digitB (c : UInt8) : Bool := decide (48 <= c.toNat) && decide (c.toNat <= 57)
def a3q (c : UInt8) : Bool := b1b c || (digitB c || (decide (c.toNat = 45) || decide (c.toNat = 95)))
def a6v (s : List UInt8) : Bool := decide (1 <= s.length) && (decide (s.length <= 32) && (b1b (s.getD 0 0) && s.all a3q))
def a1m (p : Prf) : Int :=
 if a6v p.id = false then 11
 else if ¬ ((0 <= p.est /\ p.est <= 7) /\ 0 <= p.cre /\ p.cre <= 31) then 1
 else if a1u p.code = false then 8
 else if sgn p.amount.num < 0 then 7
 else if ¬ (dayB p.inc = true /\ 0 <= p.rank /\ p.rank <= 7) then 1
 else if sgn p.rate.num < 0 then 7
 else if dayB p.rf = false \/ (sgn p.rate.num = 0 /\ p.rf ≠ 0) \/ ¬ (-1 <= p.sec /\ p.sec < 8) then 1
 else 0
theorem a6e {p : Prf} (h : a1m p = 0) : a6v p.id = true /\ a1u p.code = true /\ 0 <= sgn p.amount.num /\ dayB p.inc = true /\ 0 <= sgn p.rate.num /\ dayB p.rf = true := by
 unfold a1m at h
 split at h
 ·cases h
 split at h
 ·cases h
 split at h
 ·cases h
 split at h
 ·cases h
 split at h
 ·cases h
 split at h
 ·cases h
 split at h
 ·cases h
 rename_i h1 h2 h3 h4 h5 h6 h7
 refine ⟨by simpa using h1, by simpa using h3, by omega, (Classical.not_not.1 h5).1, by omega, ?_⟩
 cases hd : dayB p.rf
 ·exact absurd (.inl hd) h7
 rfl
def Prf.step (p : Prf) : Stp := ⟨p.rf, p.rn, p.ra, p.rb⟩
def a0u (p : Prf) (cut : Int) (qs : List Quo) : Rat × Int :=
 if a1m p ≠ 0 then (0, a1m p) else if dayB cut = false then (0, 1) else if cut < p.inc then (0, 16)
 else if (a2m qs p.amount p.code eur cut).2 ≠ 0 then (0, (a2m qs p.amount p.code eur cut).2)
 else if sgn p.rate.num = 0 \/ cut < p.rf then ((a2m qs p.amount p.code eur cut).1, 0)
 else ((a2m qs p.amount p.code eur cut).1 + (a5z (a2m qs p.amount p.code eur cut).1 [p.step] p.rf cut 365).1, 0)
def a3k (l : List Ent) (id : List UInt8) : Option Nat := l.findIdx? fun e => e.p.id == id
def a1b (kind st : Int) : Bool :=
 if kind = 2 \/ kind = 3 then decide (st = 1) else if kind = 4 then decide (st = 3) else if kind = 5 \/ kind = 9 then decide (st = 4) else if kind = 6 then decide (st = 5)
 else if kind = 7 then decide (1 <= st) && decide (st < 6) else decide (1 <= st) && decide (st < 7)
def inB (r low high : Rat) : Bool := decide (0 <= sgn (r - low).num) && decide (sgn (r - high).num <= 0)
def a0f (x : Ent) (e : Evt) : Ent × Int :=
 if a1b e.kind x.st = false then (x, 13)
 else if e.kind = 2 then ({ x with st := 2, fl := enc3 x.ce.val, ad := enc3 x.ce.val }, 0)
 else if e.kind = 3 then (if inB e.am.val 0 x.ce.val then ({ x with st := 3, fl := enc3 e.am.val, ad := enc3 e.am.val }, 0) else (x, 1))
 else if e.kind = 4 then (if inB e.am.val x.fl.val x.ce.val then ({ x with st := 4, ad := enc3 e.am.val }, 0) else (x, 1))
 else if e.kind = 5 then ({ x with st := 5 }, 0)
 else if e.kind = 6 then (if inB e.am.val x.fl.val x.ce.val then ({ x with st := 6, fl := enc3 e.am.val, ad := enc3 e.am.val, ce := enc3 e.am.val }, 0) else (x, 1))
 else if e.kind = 9 then ({ x with st := 6, fl := enc3 x.ad.val, ce := enc3 x.ad.val }, 0)
 else if e.kind = 7 then ({ x with st := 7, fl := zero3, ad := zero3, ce := zero3 }, 0)
 else if e.cre < 0 \/ 32 <= e.cre \/ e.cre = x.p.cre then (x, 14)
 else ({ x with p := { x.p with cre := e.cre }, acq := e.day }, 0)
def newE (p : Prf) (day bar : Int) (v : Rat) : Ent := ⟨p, 1, decide (bar < day), enc3 v, zero3, zero3, enc3 v, p.inc, day⟩
def rgs0 : Rgs := ⟨0, 0, 0, []⟩
def a0q (r : Rgs) (e : Evt) (qs : List Quo) : Rgs × Int :=
  if e.kind < 1 \/ 9 < e.kind \/ dayB e.day = false then (rgs0, 1)
  else if e.day < r.day then (rgs0, 15)
  else if e.kind = 1 then
    (if (a0u e.p r.cut qs).2 ≠ 0 then (rgs0, (a0u e.p r.cut qs).2) else if (a3k r.es e.p.id).isSome = true then (rgs0, 12) else if 64 <= r.es.length then (rgs0, 2)
     else (⟨r.cut, r.bar, e.day, r.es ++ [newE e.p e.day r.bar (a0u e.p r.cut qs).1]⟩, 0))
  else match a3k r.es e.id with
    | none => (rgs0, 11)
    | some i => match r.es[i]? with
      | none => (rgs0, 11)
      | some x => if (a0f x e).2 ≠ 0 then (rgs0, (a0f x e).2) else (⟨r.cut, r.bar, e.day, r.es.set i { (a0f x e).1 with chg := e.day }⟩, 0)
def newR (cut bar : Int) : Rgs × Int := if dayB cut = false \/ dayB bar = false then (rgs0, 1) else (⟨cut, bar, 0, []⟩, 0)
set_option maxRecDepth 100000
theorem a5s (d : Int) (w : World) : Calls Tryz.prog 15 #[.int .i64 d] w fun e w' => e = .returned (.bool (dayB d)) /\ w = w' := by
 unfold dayB
 obtain ⟨x, hx⟩ : ∃ x, x = decide (0 <= d) := ⟨_, rfl⟩
 obtain ⟨y, hy⟩ : ∃ y, y = decide (d <= 1048576) := ⟨_, rfl⟩
 rw [<- hx, <- hy]
 have hx' := hx.symm
 have hy' := hy.symm
 clear hx hy
 cases x <;> cases y
 all_goals
  go_enter Tryz.func15, Tryz.ntmps15
  go_wp2
  go_ret
  exact ⟨rfl, rfl⟩
theorem a3y (n m : Int) (w : World) : Calls Tryz.prog 68 #[.int .i64 n, .int .i64 m] w fun e w' => e = .returned (.bool (decide (0 <= n) && decide (n <= m))) /\ w = w' := by
 obtain ⟨x, hx⟩ : ∃ x, x = decide (0 <= n) := ⟨_, rfl⟩
 obtain ⟨y, hy⟩ : ∃ y, y = decide (n <= m) := ⟨_, rfl⟩
 rw [<- hx, <- hy]
 have hx' := hx.symm
 have hy' := hy.symm
 clear hx hy
 cases x <;> cases y
 all_goals
  go_enter Tryz.func68, Tryz.ntmps68
  go_wp2
  go_ret
  exact ⟨rfl, rfl⟩
def letN (b : Nat) : Bool := (decide (97 <= b) && decide (b <= 122)) || (decide (65 <= b) && decide (b <= 90))
def digN (b : Nat) : Bool := decide (48 <= b) && decide (b <= 57)
def c4h (b : Nat) : Bool := letN b || (digN b || (decide (b = 45) || decide (b = 95)))
theorem d0j (c : UInt8) : b1b c = letN c.toNat := rfl
theorem c6h (c : UInt8) : a3q c = c4h c.toNat := rfl
theorem b0u (b : Nat) (w : World) : Calls Tryz.prog 111 #[.int .u8 (b : Nat)] w fun e w' => e = .returned (.bool (letN b)) /\ w = w' := by
 unfold letN
 obtain ⟨x, hx⟩ : ∃ y, y = decide (97 <= b) := ⟨_, rfl⟩
 obtain ⟨y, hy⟩ : ∃ y, y = decide (b <= 122) := ⟨_, rfl⟩
 obtain ⟨z, hz⟩ : ∃ y, y = decide (65 <= b) := ⟨_, rfl⟩
 obtain ⟨u, hu⟩ : ∃ y, y = decide (b <= 90) := ⟨_, rfl⟩
 rw [<- hx, <- hy, <- hz, <- hu]
 have x1 : decide ((97 : Int) <= (b : Int)) = x := by rw [hx]; exact decide_eq_decide.2 (by omega)
 have x2 : decide (97 <= b) = x := hx.symm
 have y1 : decide ((b : Int) <= 122) = y := by rw [hy]; exact decide_eq_decide.2 (by omega)
 have y2 : decide (b <= 122) = y := hy.symm
 have z1 : decide ((65 : Int) <= (b : Int)) = z := by rw [hz]; exact decide_eq_decide.2 (by omega)
 have z2 : decide (65 <= b) = z := hz.symm
 have u1 : decide ((b : Int) <= 90) = u := by rw [hu]; exact decide_eq_decide.2 (by omega)
 have u2 : decide (b <= 90) = u := hu.symm
 clear hx hy hz hu
 cases x <;> cases y <;> cases z <;> cases u
 all_goals
  go_enter Tryz.func111, Tryz.ntmps111
  go_wp2
  go_ret
  exact ⟨rfl, rfl⟩
theorem c0k (b : Nat) (w : World) : Calls Tryz.prog 112 #[.int .u8 (b : Nat)] w fun e w' => e = .returned (.bool (digN b)) /\ w = w' := by
 unfold digN
 obtain ⟨x, hx⟩ : ∃ y, y = decide (48 <= b) := ⟨_, rfl⟩
 obtain ⟨y, hy⟩ : ∃ y, y = decide (b <= 57) := ⟨_, rfl⟩
 rw [<- hx, <- hy]
 have x1 : decide ((48 : Int) <= (b : Int)) = x := by rw [hx]; exact decide_eq_decide.2 (by omega)
 have x2 : decide (48 <= b) = x := hx.symm
 have y1 : decide ((b : Int) <= 57) = y := by rw [hy]; exact decide_eq_decide.2 (by omega)
 have y2 : decide (b <= 57) = y := hy.symm
 clear hx hy
 cases x <;> cases y
 all_goals
  go_enter Tryz.func112, Tryz.ntmps112
  go_wp2
  go_ret
  exact ⟨rfl, rfl⟩
theorem b5v (b : Nat) (w : World) : Calls Tryz.prog 123 #[.int .u8 (b : Nat)] w fun e w' => e = .returned (.bool (letN b)) /\ w = w' := by
 unfold letN
 obtain ⟨x, hx⟩ : ∃ y, y = decide (97 <= b) := ⟨_, rfl⟩
 obtain ⟨y, hy⟩ : ∃ y, y = decide (b <= 122) := ⟨_, rfl⟩
 obtain ⟨z, hz⟩ : ∃ y, y = decide (65 <= b) := ⟨_, rfl⟩
 obtain ⟨u, hu⟩ : ∃ y, y = decide (b <= 90) := ⟨_, rfl⟩
 rw [<- hx, <- hy, <- hz, <- hu]
 have x1 : decide ((97 : Int) <= (b : Int)) = x := by rw [hx]; exact decide_eq_decide.2 (by omega)
 have x2 : decide (97 <= b) = x := hx.symm
 have y1 : decide ((b : Int) <= 122) = y := by rw [hy]; exact decide_eq_decide.2 (by omega)
 have y2 : decide (b <= 122) = y := hy.symm
 have z1 : decide ((65 : Int) <= (b : Int)) = z := by rw [hz]; exact decide_eq_decide.2 (by omega)
 have z2 : decide (65 <= b) = z := hz.symm
 have u1 : decide ((b : Int) <= 90) = u := by rw [hu]; exact decide_eq_decide.2 (by omega)
 have u2 : decide (b <= 90) = u := hu.symm
 clear hx hy hz hu
 cases x <;> cases y <;> cases z <;> cases u
 all_goals
  go_enter Tryz.func123, Tryz.ntmps123
  go_wp2
  go_ret
  exact ⟨rfl, rfl⟩
theorem c7k (b : Nat) (w : World) : Calls Tryz.prog 142 #[.int .u8 (b : Nat)] w fun e w' => e = .returned (.bool (digN b)) /\ w = w' := by
 unfold digN
 obtain ⟨x, hx⟩ : ∃ y, y = decide (48 <= b) := ⟨_, rfl⟩
 obtain ⟨y, hy⟩ : ∃ y, y = decide (b <= 57) := ⟨_, rfl⟩
 rw [<- hx, <- hy]
 have x1 : decide ((48 : Int) <= (b : Int)) = x := by rw [hx]; exact decide_eq_decide.2 (by omega)
 have x2 : decide (48 <= b) = x := hx.symm
 have y1 : decide ((b : Int) <= 57) = y := by rw [hy]; exact decide_eq_decide.2 (by omega)
 have y2 : decide (b <= 57) = y := hy.symm
 clear hx hy
 cases x <;> cases y
 all_goals
  go_enter Tryz.func142, Tryz.ntmps142
  go_wp2
  go_ret
  exact ⟨rfl, rfl⟩
theorem nm_at {l : List UInt8} {i : Nat} (hi : i < l.length) : l[i]? = some (l.getD i 0) := by rw [List.getD_eq_getElem?_getD, List.getElem?_eq_getElem hi]; rfl
theorem c9w {l : List UInt8} {i : Nat} (hi : i < l.length) : (l.take (i + 1)).all a3q = ((l.take i).all a3q && a3q (l.getD i 0)) := c5k (nm_at hi)
theorem c6f {l : List UInt8} {i : Nat} (hi : i < l.length) (h : a3q (l.getD i 0) = false) : a6v l = false := by
 unfold a6v
 have : l.all a3q = false := by
  rw [List.all_eq_false]
  exact ⟨l.getD i 0, List.mem_of_getElem? (nm_at hi), by rw [h]; decide⟩
 rw [this]; simp
theorem c9y {l : List UInt8} (h : b1b (l.getD 0 0) = false) : a6v l = false := by unfold a6v; rw [h]; simp
theorem c6g {l : List UInt8} (h : l.length = 0) : a6v l = false := by unfold a6v; rw [h]; rfl
theorem c9x {l : List UInt8} (h : 32 < l.length) : a6v l = false := by unfold a6v; rw [decide_eq_false (show ¬ l.length <= 32 by omega)]; simp
theorem c9v {l : List UInt8} (h1 : 1 <= l.length) (h2 : l.length <= 32) (h3 : b1b (l.getD 0 0) = true) (h4 : (l.take l.length).all a3q = true) : a6v l = true := by
 rw [List.take_length] at h4
 unfold a6v; rw [decide_eq_true h1, decide_eq_true h2, h3, h4]; rfl
theorem c9p {p : Prf} (h : a6v p.id = false) : a1m p = 11 := by unfold a1m; rw [if_pos h]
theorem c6b {p : Prf} (h : a6v p.id = true) (h2 : ¬ ((0 <= p.est /\ p.est <= 7) /\ 0 <= p.cre /\ p.cre <= 31)) : a1m p = 1 := by unfold a1m; rw [h, if_neg (by decide), if_pos h2]
theorem c9r {p : Prf} (h : a6v p.id = true) (h2 : (0 <= p.est /\ p.est <= 7) /\ 0 <= p.cre /\ p.cre <= 31) (h3 : a1u p.code = false) : a1m p = 8 := by
 unfold a1m; rw [h, if_neg (by decide), if_neg (fun k => k h2), if_pos h3]
theorem pe_neg {p : Prf} (h : a6v p.id = true) (h2 : (0 <= p.est /\ p.est <= 7) /\ 0 <= p.cre /\ p.cre <= 31) (h3 : a1u p.code = true) (h4 : sgn p.amount.num < 0) : a1m p = 7 := by
 unfold a1m; rw [h, if_neg (by decide), if_neg (fun k => k h2), h3, if_neg (by decide), if_pos h4]
theorem pe_day {p : Prf} (h : a6v p.id = true) (h2 : (0 <= p.est /\ p.est <= 7) /\ 0 <= p.cre /\ p.cre <= 31) (h3 : a1u p.code = true) (h4 : ¬ sgn p.amount.num < 0) (h5 : ¬ (dayB p.inc = true /\ 0 <= p.rank /\ p.rank <= 7)) : a1m p = 1 := by
 unfold a1m; rw [h, if_neg (by decide), if_neg (fun k => k h2), h3, if_neg (by decide), if_neg h4, if_pos h5]
theorem c9n {p : Prf} (h : a6v p.id = true) (h2 : (0 <= p.est /\ p.est <= 7) /\ 0 <= p.cre /\ p.cre <= 31) (h3 : a1u p.code = true) (h4 : ¬ sgn p.amount.num < 0) (h5 : dayB p.inc = true /\ 0 <= p.rank /\ p.rank <= 7) (h6 : sgn p.rate.num < 0) : a1m p = 7 := by
 unfold a1m; rw [h, if_neg (by decide), if_neg (fun k => k h2), h3, if_neg (by decide), if_neg h4, if_neg (fun k => k h5), if_pos h6]
theorem c9q {p : Prf} (h : a6v p.id = true) (h2 : (0 <= p.est /\ p.est <= 7) /\ 0 <= p.cre /\ p.cre <= 31) (h3 : a1u p.code = true) (h4 : ¬ sgn p.amount.num < 0) (h5 : dayB p.inc = true /\ 0 <= p.rank /\ p.rank <= 7) (h6 : ¬ sgn p.rate.num < 0) :
  a1m p = if dayB p.rf = false \/ (sgn p.rate.num = 0 /\ p.rf ≠ 0) \/ ¬ (-1 <= p.sec /\ p.sec < 8) then 1 else 0 := by
 unfold a1m; rw [h, if_neg (by decide), if_neg (fun k => k h2), h3, if_neg (by decide), if_neg h4, if_neg (fun k => k h5), if_neg h6]
theorem b1d {qs : List Quo} {N : Nat} (hN : 1 <= N) (h : ∀ q ∈ qs, q.num.length <= N /\ q.den.length <= N) {p : Rat} (hp : Sized N p) (src dst : List UInt8) (day : Int) : Sized (N + N + N) (a2m qs p src dst day).1 := by
 have ha := a5h hN h src day
 have hb := a5h hN h dst day
 unfold a2m
 split
 ·exact sized_zero.mono (by omega)
 split
 ·exact sized_zero.mono (by omega)
 exact (hp.mul (a1f ha.1 ha.2 hN)).div (a1f hb.1 hb.2 hN)
theorem b1e {qs : List Quo} {p : Rat} {src dst : List UInt8} {day : Int} (hp : 0 <= p) : 0 <= (a2m qs p src dst day).1 := by
 unfold a2m
 split
 ·exact Rat.le_refl
 rename_i h1
 split
 ·exact Rat.le_refl
 rename_i h2
 have r1 := c0h (Classical.not_not.1 h1)
 have r2 := c0h (Classical.not_not.1 h2)
 have q1 : 0 < (a2z qs src day).1.rat := by
  have h0 : 0 <= (a2z qs src day).1.rat := Rat.num_nonneg.1 (by omega)
  have hn := b2x (Classical.not_not.1 h1)
  grind
 have q2 : 0 < (a2z qs dst day).1.rat := by
  have h0 : 0 <= (a2z qs dst day).1.rat := Rat.num_nonneg.1 (by omega)
  have hn := b2x (Classical.not_not.1 h2)
  grind
 show 0 <= p * (a2z qs src day).1.rat / (a2z qs dst day).1.rat
 rw [Rat.div_def]
 exact Rat.mul_nonneg (Rat.mul_nonneg hp (Rat.le_of_lt q1)) (Rat.le_of_lt (Rat.inv_pos.2 q2))
theorem a9s {s : Stp} (h1 : dayB s.frm = true) (h2 : ¬ sgn s.rate.num < 0) : a3s [s] = 0 := by
 unfold a3s
 rw [if_neg (by simp)]
 show a3d [s] (0 + 1) = 0
 have h0 : a3d [s] 0 = 0 := rfl
 rw [a3d, if_pos h0]
 show a3w [s] 0 s = 0
 unfold a3w
 rw [h1, if_neg (by decide), if_neg (by omega), if_neg h2]
theorem c5p {a : Rat} {p : Prf} {cut : Int} (ha : 0 <= a) (h1 : dayB p.rf = true) (h2 : ¬ sgn p.rate.num < 0) (h3 : dayB cut = true) (h4 : ¬ cut < p.rf) : (a5z a [p.step] p.rf cut 365).2 = 0 := by
 have hc : a3s [p.step] = 0 := a9s h1 h2
 have he : a2s a [p.step] p.rf cut 365 1 = 0 := by
  unfold a2s
  rw [hc, if_neg (by decide), if_neg (c5g h1 h3 (.inr rfl) (by decide)), if_neg h4, if_neg (b8n ha)]
 rw [b9z he]
theorem c5h {p : Prf} {cut : Int} {qs : List Quo} (h : a1m p ≠ 0) : a0u p cut qs = (0, a1m p) := by unfold a0u; rw [if_pos h]
theorem va_cut {p : Prf} {cut : Int} {qs : List Quo} (h : a1m p = 0) (h2 : dayB cut = false) : a0u p cut qs = (0, 1) := by unfold a0u; rw [h, if_neg (by decide), if_pos h2]
theorem c8k {p : Prf} {cut : Int} {qs : List Quo} (h : a1m p = 0) (h2 : dayB cut = true) (h3 : cut < p.inc) : a0u p cut qs = (0, 16) := by unfold a0u; rw [h, if_neg (by decide), h2, if_neg (by decide), if_pos h3]
theorem c8n {p : Prf} {cut : Int} {qs : List Quo} (h : a1m p = 0) (h2 : dayB cut = true) (h3 : ¬ cut < p.inc) (h4 : (a2m qs p.amount p.code eur cut).2 ≠ 0) : a0u p cut qs = (0, (a2m qs p.amount p.code eur cut).2) := by
 unfold a0u; rw [h, if_neg (by decide), h2, if_neg (by decide), if_neg h3, if_pos h4]
theorem c8m {p : Prf} {cut : Int} {qs : List Quo} (h : a1m p = 0) (h2 : dayB cut = true) (h3 : ¬ cut < p.inc) (h4 : (a2m qs p.amount p.code eur cut).2 = 0) (h5 : sgn p.rate.num = 0 \/ cut < p.rf) : a0u p cut qs = ((a2m qs p.amount p.code eur cut).1, 0) := by
 unfold a0u; rw [h, if_neg (by decide), h2, if_neg (by decide), if_neg h3, if_neg (fun k => k h4), if_pos h5]
theorem c8j {p : Prf} {cut : Int} {qs : List Quo} (h : a1m p = 0) (h2 : dayB cut = true) (h3 : ¬ cut < p.inc) (h4 : (a2m qs p.amount p.code eur cut).2 = 0) (h5 : ¬ (sgn p.rate.num = 0 \/ cut < p.rf)) :
  a0u p cut qs = ((a2m qs p.amount p.code eur cut).1 + (a5z (a2m qs p.amount p.code eur cut).1 [p.step] p.rf cut 365).1, 0) := by
 unfold a0u; rw [h, if_neg (by decide), h2, if_neg (by decide), if_neg h3, if_neg (fun k => k h4), if_neg h5]
set_option maxHeartbeats 2000000
def entV (e : Ent) : Value := .agg #[.string (bs e.p.id), .int .i64 e.p.est, .int .i64 e.p.cre, .string (bs e.p.code), .bool e.p.an, .string (bs e.p.aa), .string (bs e.p.ab), .int .i64 e.p.inc, .int .i64 e.p.rank, .bool e.p.rn, .string (bs e.p.ra), .string (bs e.p.rb), .int .i64 e.p.rf, .int .i64 e.p.sec, .int .i64 e.st, .bool e.late, .bool e.cl.n, .string (bs e.cl.a), .string (bs e.cl.b), .bool e.fl.n, .string (bs e.fl.a), .string (bs e.fl.b), .bool e.ad.n, .string (bs e.ad.a), .string (bs e.ad.b), .bool e.ce.n, .string (bs e.ce.a), .string (bs e.ce.b), .int .i64 e.acq, .int .i64 e.chg]
def Prf.fit (p : Prf) : Prop := (p.id.length <= 9223372036854775807 /\ p.code.length <= 9223372036854775807 /\ p.aa.length <= 9223372036854775807 /\ p.ab.length <= 9223372036854775807 /\ p.ra.length <= 9223372036854775807 /\ p.rb.length <= 9223372036854775807) /\ (Lit.int .i64 p.est).wf = true /\ (Lit.int .i64 p.cre).wf = true /\ (Lit.int .i64 p.inc).wf = true /\ (Lit.int .i64 p.rank).wf = true /\ (Lit.int .i64 p.rf).wf = true /\ (Lit.int .i64 p.sec).wf = true
def Raw3.fit (t : Raw3) : Prop := t.a.length <= 9223372036854775807 /\ t.b.length <= 9223372036854775807
def Ent.fit (e : Ent) : Prop := e.p.fit /\ (e.cl.fit /\ e.fl.fit /\ e.ad.fit /\ e.ce.fit) /\ (Lit.int .i64 e.st).wf = true /\ (Lit.int .i64 e.acq).wf = true /\ (Lit.int .i64 e.chg).wf = true
theorem ent_wide : (match Tryz.prog.underlying 57 with | some (.array _ _) | some (.struct _) => true | _ => false) = true := by kernel_rfl
theorem ent_deep : Tryz.prog.keyTypeAt 5 57 = true := by kernel_rfl
theorem ent_key (e : Ent) (h : e.fit) : ∃ k, keyOf Tryz.prog 57 (entV e) = some k := by
 obtain ⟨⟨⟨h1, h2, h3, h4, h5, h6⟩, w1, w2, w3, w4, w5, w6⟩, ⟨⟨a1, a2⟩, ⟨b1, b2⟩, ⟨c1, c2'⟩, ⟨d1, d2⟩⟩, v1, v2, v3⟩ := h
 have hu := Tryz.underlying57
 have hp := Tryz.underlying42
 have hr := Tryz.underlying40
 obtain ⟨n, hs⟩ : ∃ n, Tryz.prog.types.size = n + 1 + 1 + 1 + 1 := ⟨Tryz.prog.types.size - 4, by have h : 4 <= Tryz.prog.types.size := of_decide_eq_true (by kernel_rfl); omega⟩
 have hkt : Tryz.prog.keyType 57 = true := by kernel_rfl
 have c30 : Tryz.prog.cellsOf 57 = 30 := by kernel_rfl
 have c14 : Tryz.prog.cellsOf 42 = 14 := by kernel_rfl
 have c2 : Tryz.prog.cellsOf 40 = 3 := by kernel_rfl
 have c9 : Tryz.prog.cellsOf 9 = 1 := by kernel_rfl
 have c4 : Tryz.prog.cellsOf 4 = 1 := by kernel_rfl
 have c3 : Tryz.prog.cellsOf 3 = 1 := by kernel_rfl
 have u9 := Tryz.underlying9
 have u4 := Tryz.underlying4
 have u3 := Tryz.underlying3
 have sz : ∀ l : List UInt8, l.length <= 9223372036854775807 -> (bs l).size <= maxLen := fun l hl => by rw [a2b]; unfold maxLen; omega
 unfold keyOf entV
 rw [hu]
 have hf : (Value.agg #[Value.string (bs e.p.id), Value.int .i64 e.p.est, Value.int .i64 e.p.cre, Value.string (bs e.p.code), Value.bool e.p.an, Value.string (bs e.p.aa), Value.string (bs e.p.ab), Value.int .i64 e.p.inc, Value.int .i64 e.p.rank, Value.bool e.p.rn, Value.string (bs e.p.ra), Value.string (bs e.p.rb), Value.int .i64 e.p.rf, Value.int .i64 e.p.sec, Value.int .i64 e.st, Value.bool e.late, Value.bool e.cl.n, Value.string (bs e.cl.a), Value.string (bs e.cl.b), Value.bool e.fl.n, Value.string (bs e.fl.a), Value.string (bs e.fl.b), Value.bool e.ad.n, Value.string (bs e.ad.a), Value.string (bs e.ad.b), Value.bool e.ce.n, Value.string (bs e.ce.a), Value.string (bs e.ce.b), Value.int .i64 e.acq, Value.int .i64 e.chg]).formed Tryz.prog 57 = true := by
  simp [Value.formed, hu, c30]
 rw [hkt, hf, hs]
 have ks : ∀ (k : Nat) (a : List UInt8), (bs a).size <= maxLen -> Tryz.prog.keyLits (k + 1) 9 [.string (bs a)] = some [.string a] := by
  intro k a ha
  simp [Program.keyLits, u9, ha, a2n]
 have kb : ∀ (k : Nat) (a : Bool), Tryz.prog.keyLits (k + 1) 4 [.bool a] = some [.bool a] := by
  intro k a
  simp [Program.keyLits, u4]
 have kr : ∀ (k : Nat) (ng : Bool) (a b : List UInt8), (bs a).size <= maxLen -> (bs b).size <= maxLen -> Tryz.prog.keyLits (k + 1 + 1) 40 [.bool ng, .string (bs a), .string (bs b)] = some [.bool ng, .string a, .string b] := by
  intro k ng a b ha hb
  simp [Program.keyLits, hr, c2, c9, c4, u9, u4, ha, hb, a2n]
 have ki : ∀ (k : Nat) (z : Int), (Lit.int .i64 z).wf = true -> Tryz.prog.keyLits (k + 1) 3 [.int .i64 z] = some [.int .i64 z] := by
  intro k z hz
  simp [Program.keyLits, u3, hz]
 have kp : Tryz.prog.keyLits (n + 4) 42 [.string (bs e.p.id), .int .i64 e.p.est, .int .i64 e.p.cre, .string (bs e.p.code), .bool e.p.an, .string (bs e.p.aa), .string (bs e.p.ab), .int .i64 e.p.inc, .int .i64 e.p.rank, .bool e.p.rn, .string (bs e.p.ra), .string (bs e.p.rb), .int .i64 e.p.rf, .int .i64 e.p.sec] = some [.string e.p.id, .int .i64 e.p.est, .int .i64 e.p.cre, .string e.p.code, .bool e.p.an, .string e.p.aa, .string e.p.ab, .int .i64 e.p.inc, .int .i64 e.p.rank, .bool e.p.rn, .string e.p.ra, .string e.p.rb, .int .i64 e.p.rf, .int .i64 e.p.sec] := by
  have k1 := ks (n + 2) e.p.id (sz _ h1)
  have k2 := ki (n + 2) e.p.est w1
  have k3 := ki (n + 2) e.p.cre w2
  have k4 := ks (n + 2) e.p.code (sz _ h2)
  have k5 := kr (n + 1) e.p.an e.p.aa e.p.ab (sz _ h3) (sz _ h4)
  have k6 := ki (n + 2) e.p.inc w3
  have k7 := ki (n + 2) e.p.rank w4
  have k8 := kr (n + 1) e.p.rn e.p.ra e.p.rb (sz _ h5) (sz _ h6)
  have k9 := ki (n + 2) e.p.rf w5
  have kA := ki (n + 2) e.p.sec w6
  unfold Program.keyLits
  rw [hp]
  simp [c14, c2, c3, c9, k1, k2, k3, k4, k5, k6, k7, k8, k9, kA]
 have hl : Tryz.prog.keyLits (n + 1 + 1 + 1 + 1 + 1) 57 [.string (bs e.p.id), .int .i64 e.p.est, .int .i64 e.p.cre, .string (bs e.p.code), .bool e.p.an, .string (bs e.p.aa), .string (bs e.p.ab), .int .i64 e.p.inc, .int .i64 e.p.rank, .bool e.p.rn, .string (bs e.p.ra), .string (bs e.p.rb), .int .i64 e.p.rf, .int .i64 e.p.sec, .int .i64 e.st, .bool e.late, .bool e.cl.n, .string (bs e.cl.a), .string (bs e.cl.b), .bool e.fl.n, .string (bs e.fl.a), .string (bs e.fl.b), .bool e.ad.n, .string (bs e.ad.a), .string (bs e.ad.b), .bool e.ce.n, .string (bs e.ce.a), .string (bs e.ce.b), .int .i64 e.acq, .int .i64 e.chg] = some [.string e.p.id, .int .i64 e.p.est, .int .i64 e.p.cre, .string e.p.code, .bool e.p.an, .string e.p.aa, .string e.p.ab, .int .i64 e.p.inc, .int .i64 e.p.rank, .bool e.p.rn, .string e.p.ra, .string e.p.rb, .int .i64 e.p.rf, .int .i64 e.p.sec, .int .i64 e.st, .bool e.late, .bool e.cl.n, .string e.cl.a, .string e.cl.b, .bool e.fl.n, .string e.fl.a, .string e.fl.b, .bool e.ad.n, .string e.ad.a, .string e.ad.b, .bool e.ce.n, .string e.ce.a, .string e.ce.b, .int .i64 e.acq, .int .i64 e.chg] := by
  have k1 := ki (n + 3) e.st v1
  have k2 := kb (n + 3) e.late
  have k3 := kr (n + 2) e.cl.n e.cl.a e.cl.b (sz _ a1) (sz _ a2)
  have k4 := kr (n + 2) e.fl.n e.fl.a e.fl.b (sz _ b1) (sz _ b2)
  have k5 := kr (n + 2) e.ad.n e.ad.a e.ad.b (sz _ c1) (sz _ c2')
  have k6 := kr (n + 2) e.ce.n e.ce.a e.ce.b (sz _ d1) (sz _ d2)
  have k7 := ki (n + 3) e.acq v2
  have k8 := ki (n + 3) e.chg v3
  unfold Program.keyLits
  rw [hu]
  simp [c30, c14, c2, c3, c4, kp, k1, k2, k3, k4, k5, k6, k7, k8]
 simp [Value.cells, hl]
theorem ent_neq (e : Ent) (h : e.fit) (w : World) : (binOp .neq 57 (entV e) (entV e)).run Tryz.prog w = .ok (.bool false) w := by
 obtain ⟨k, hk⟩ := ent_key e h
 obtain ⟨r, hr, hiff⟩ := run_equal_deep w (m := 5) (by omega) ent_deep ent_wide hk hk
 have hry : r = true := hiff.2 rfl
 subst hry
 unfold entV at hr ⊢
 simp only [binOp]
 simp [hr, Result.andThen]
theorem sgnR_dec (q : Rat) : sgnR (negB q) (numB q) = sgn q.num := c5s q
theorem c9e (p q : Rat) (w : World) (sp : Sized 17179869184 p) (sq : Sized 17179869184 q) :
  Calls Tryz.prog 98 #[rat p, rat q] w fun e w' => e = .returned (rat (p - q)) /\ Below w.heap.size w w' := by
 rw [Rat.sub_eq_add_neg]
 have ng := fun W => c1p q W
 have ad := fun W => c0f p (-q) W sp sq.neg
 clear sp sq
 generalize p + -q = r at *
 generalize hm : -q = m at *
 unfold rat raw at *
 generalize negB p = np at *
 generalize numB p = bp at *
 generalize a0a p = dp at *
 generalize negB q = nq at *
 generalize numB q = bq at *
 generalize a0a q = dq at *
 generalize negB r = nr at *
 generalize numB r = br at *
 generalize a0a r = dr at *
 generalize negB m = nm at *
 generalize numB m = bm at *
 generalize a0a m = dm at *
 clear hm
 have AD := zh ad
 have NG := zh ng
 clear ad ng
 go_enter Tryz.func98, Tryz.ntmps98
 have HS := zh (St.start w)
 go_wp2
 have HS2 := aL (aL (aL HS #[.bool np, .string (bs bp), .string (bs dp)] 40 w.heap.size) #[.bool nq, .string (bs bq), .string (bs dq)] 40 (w.heap.size + 1)) #[.bool false, .string (bs []), .string (bs [])] 40 (w.heap.size + 1 + 1)
 clear HS
 refine a0d 4 [fun _ vv => vv = .agg #[.bool np, .string (bs bp), .string (bs dp)], fun _ vv => vv = .agg #[.bool nq, .string (bs bq), .string (bs dq)], fun _ vv => vv = .agg #[.bool nm, .string (bs bm), .string (bs dm)], fun _ vv => vv = .agg #[.bool nr, .string (bs br), .string (bs dr)]] rfl (by kernel_rfl) (by kernel_rfl) (by kernel_rfl) ⟨pP, pP, pP, pP, trivial⟩ ?_ ?_
 refine ⟨?_, ?_, ?_, ?_, trivial⟩ <;> (intro xx af wv hbx hev hev0 hd; have H := SH.mk hev hev0 hd; clear hev hev0 hd)
 ·have e2 := H.i 2; clear H; have hs1 := zh (HS2.out.call hbx); obtain ⟨y0, y1, y2⟩ := hs1.out.k0 2 rfl rfl rfl rfl; go_wp2; exact sQ rfl
 ·have e3 := H.i 3; clear H; have hs1 := zh (HS2.out.call hbx); obtain ⟨y0, y1, y2⟩ := hs1.out.k0 1 rfl rfl rfl rfl; go_wp2; exact sQ rfl
 ·have e6 := H.r 1 6; clear H
  go_wp2_with fail
  refine (NG.out _).mono ?_
  rintro e w8 ⟨rfl, hb8⟩; go_wp2; exact StepQ.mk _ hb8 rfl
 ·have e5 := H.r 0 5; have e7 := H.r 2 7; clear H
  go_wp2_with fail
  refine (AD.out _).mono ?_
  rintro e w8 ⟨rfl, hb8⟩; go_wp2; exact StepQ.mk _ hb8 rfl
 intro xx w6 hb9 hv
 simp only [List.take, List.drop, a0r, Act.put]
 simp only [vQ hv 0, vQ hv 1, vQ hv 2, vQ hv 3]
 clear hv
 have HS6 := zh (HS2.out.call hb9)
 clear hb9 HS2
 obtain ⟨x1, x2, x3⟩ := HS6.out.k0 0 rfl rfl rfl rfl
 obtain ⟨x4, x5, x6⟩ := HS6.out.f0 0 rfl
 have x7 := cN HS6 0 1
 have x8 := cN HS6 1 0
 have x9 := cN HS6 0 2
 have x10 := cN HS6 2 0
 go_wp2
 have HS7 : Hid (St w [⟨w.heap.size + 1 + 1, #[.bool nr, .string (bs br), .string (bs dr)], 40⟩, _, _] _) := zh (St.set (St.set (St.set (HS6.out) 0 rfl 0 _) 0 rfl 1 _) 0 rfl 2 _)
 refine bodyPost_ret (a0j rfl _ _ _ _ _ _ rfl (HS7.out.blk 0 rfl)) rfl ?_
 exact ⟨rfl, HS7.out.below⟩
theorem b5t (n1 : Bool) (a1 b1 : List UInt8) (n2 : Bool) (a2 b2 : List UInt8) (w : World) (la1 : a1.length <= 17179869184) (lb1 : b1.length <= 17179869184) (la2 : a2.length <= 17179869184) (lb2 : b2.length <= 17179869184) :
  Calls Tryz.prog 59 #[raw n1 a1 b1, raw n2 a2 b2] w fun e w' => e = .returned (.int .i64 (sgn (decR n1 a1 b1 - decR n2 a2 b2).num)) /\ Below w.heap.size w w' := by
 have c1 := fun W => a8f n1 a1 b1 W (by omega) (by omega)
 have c2 := fun W => a8f n2 a2 b2 W (by omega) (by omega)
 have sp := a1f (neg := n1) la1 lb1 (by decide)
 have sq := a1f (neg := n2) la2 lb2 (by decide)
 generalize decR n1 a1 b1 = p at *
 generalize decR n2 a2 b2 = q at *
 clear la1 lb1 la2 lb2
 have mi := fun W => c9e p q W sp sq
 have sg := fun W => b8s (negB (p - q)) (numB (p - q)) (a0a (p - q)) W
 rw [sgnR_dec] at sg
 clear sp sq
 generalize sgn (p - q).num = s at *
 generalize p - q = r at *
 unfold rat raw at *
 generalize negB p = np at *
 generalize numB p = bp at *
 generalize a0a p = dp at *
 generalize negB q = nq at *
 generalize numB q = bq at *
 generalize a0a q = dq at *
 generalize negB r = nr at *
 generalize numB r = br at *
 generalize a0a r = dr at *
 have C1 := zh c1
 have C2 := zh c2
 have MI := zh mi
 have SG := zh sg
 clear c1 c2 mi sg
 go_enter Tryz.func59, Tryz.ntmps59
 have HS := zh (St.start w)
 go_wp2
 have HS2 := aL (aL HS #[.bool n1, .string (bs a1), .string (bs b1)] 40 w.heap.size) #[.bool n2, .string (bs a2), .string (bs b2)] 40 (w.heap.size + 1)
 clear HS
 refine a0d 6 [fun _ vv => vv = .agg #[.bool n1, .string (bs a1), .string (bs b1)], fun _ vv => vv = .agg #[.bool np, .string (bs bp), .string (bs dp)], fun _ vv => vv = .agg #[.bool n2, .string (bs a2), .string (bs b2)], fun _ vv => vv = .agg #[.bool nq, .string (bs bq), .string (bs dq)], fun _ vv => vv = .agg #[.bool nr, .string (bs br), .string (bs dr)], fun _ vv => vv = .int .i64 s] rfl (by kernel_rfl) (by kernel_rfl) (by kernel_rfl) ⟨pP, pP, pP, pP, pP, pP, trivial⟩ ?_ ?_
 refine ⟨?_, ?_, ?_, ?_, ?_, ?_, trivial⟩ <;> (intro xx af wv hbx hev hev0 hd; have H := SH.mk hev hev0 hd; clear hev hev0 hd)
 ·have e2 := H.i 2; clear H; have hs1 := zh (HS2.out.call hbx); obtain ⟨y0, y1, y2⟩ := hs1.out.k0 1 rfl rfl rfl rfl; go_wp2; exact sQ rfl
 ·have e5 := H.r 0 5; clear H
  go_wp2_with fail
  refine (C1.out _).mono ?_
  rintro e w8 ⟨rfl, hb8⟩; go_wp2; exact StepQ.mk _ hb8 rfl
 ·have e3 := H.i 3; clear H; have hs1 := zh (HS2.out.call hbx); obtain ⟨y0, y1, y2⟩ := hs1.out.k0 0 rfl rfl rfl rfl; go_wp2; exact sQ rfl
 ·have e7 := H.r 2 7; clear H
  go_wp2_with fail
  refine (C2.out _).mono ?_
  rintro e w8 ⟨rfl, hb8⟩; go_wp2; exact StepQ.mk _ hb8 rfl
 ·have e6 := H.r 1 6; have e8 := H.r 3 8; clear H
  go_wp2_with fail
  refine (MI.out _).mono ?_
  rintro e w8 ⟨rfl, hb8⟩; go_wp2; exact StepQ.mk _ hb8 rfl
 ·have e9 := H.r 4 9; clear H
  go_wp2_with fail
  refine (SG.out _).mono ?_
  rintro e w8 ⟨rfl, hb8⟩; go_wp2; exact StepQ.mk _ hb8 rfl
 intro xx w5 hb9 hv
 simp only [List.take, List.drop, a0r, Act.put]
 simp only [vQ hv 0, vQ hv 1, vQ hv 2, vQ hv 3, vQ hv 4, vQ hv 5]
 clear hv
 have HS5 := zh (HS2.out.call hb9)
 clear hb9 HS2
 go_wp2
 go_ret
 have HS6 := zh HS5.out
 exact ⟨rfl, HS6.out.below⟩

abbrev prfC (p : Prf) : Array Value := #[.string (bs p.id), .int .i64 p.est, .int .i64 p.cre, .string (bs p.code), .bool p.an, .string (bs p.aa), .string (bs p.ab), .int .i64 p.inc, .int .i64 p.rank, .bool p.rn, .string (bs p.ra), .string (bs p.rb), .int .i64 p.rf, .int .i64 p.sec]
abbrev entC (x : Ent) : Array Value := #[.string (bs x.p.id), .int .i64 x.p.est, .int .i64 x.p.cre, .string (bs x.p.code), .bool x.p.an, .string (bs x.p.aa), .string (bs x.p.ab), .int .i64 x.p.inc, .int .i64 x.p.rank, .bool x.p.rn, .string (bs x.p.ra), .string (bs x.p.rb), .int .i64 x.p.rf, .int .i64 x.p.sec, .int .i64 x.st, .bool x.late, .bool x.cl.n, .string (bs x.cl.a), .string (bs x.cl.b), .bool x.fl.n, .string (bs x.fl.a), .string (bs x.fl.b), .bool x.ad.n, .string (bs x.ad.a), .string (bs x.ad.b), .bool x.ce.n, .string (bs x.ce.a), .string (bs x.ce.b), .int .i64 x.acq, .int .i64 x.chg]
abbrev evC (k d : Int) (i : List UInt8) (a : Raw3) (c : Int) (p : Prf) : Array Value := #[.int .i64 k, .int .i64 d, .string (bs i), .bool a.n, .string (bs a.a), .string (bs a.b), .int .i64 c, .string (bs p.id), .int .i64 p.est, .int .i64 p.cre, .string (bs p.code), .bool p.an, .string (bs p.aa), .string (bs p.ab), .int .i64 p.inc, .int .i64 p.rank, .bool p.rn, .string (bs p.ra), .string (bs p.rb), .int .i64 p.rf, .int .i64 p.sec]
abbrev prfO : Array Value := #[.string (bs []), .int .i64 0, .int .i64 0, .string (bs []), .bool false, .string (bs []), .string (bs []), .int .i64 0, .int .i64 0, .bool false, .string (bs []), .string (bs []), .int .i64 0, .int .i64 0]
abbrev entO : Array Value := #[.string (bs []), .int .i64 0, .int .i64 0, .string (bs []), .bool false, .string (bs []), .string (bs []), .int .i64 0, .int .i64 0, .bool false, .string (bs []), .string (bs []), .int .i64 0, .int .i64 0, .int .i64 0, .bool false, .bool false, .string (bs []), .string (bs []), .bool false, .string (bs []), .string (bs []), .bool false, .string (bs []), .string (bs []), .bool false, .string (bs []), .string (bs []), .int .i64 0, .int .i64 0]
abbrev entM (p : Prf) (s : Int) (l : Bool) (cl fl ad ce : Raw3) (a c : Int) : List Value := [.string (bs p.id), .int .i64 p.est, .int .i64 p.cre, .string (bs p.code), .bool p.an, .string (bs p.aa), .string (bs p.ab), .int .i64 p.inc, .int .i64 p.rank, .bool p.rn, .string (bs p.ra), .string (bs p.rb), .int .i64 p.rf, .int .i64 p.sec, .int .i64 s, .bool l, .bool cl.n, .string (bs cl.a), .string (bs cl.b), .bool fl.n, .string (bs fl.a), .string (bs fl.b), .bool ad.n, .string (bs ad.a), .string (bs ad.b), .bool ce.n, .string (bs ce.a), .string (bs ce.b), .int .i64 a, .int .i64 c]
end Go.Proofs.YtoighiepglclkaaGreatDoor
