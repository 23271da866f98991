/-
Part 25 of the base.
-/
import Derived.Test.YtlkhoommpkndpaaGreatDoorKj19
import Derived.Test.YtlkhoommpkndpaaGreatDoorKj24
import Derived.DeepKeys
import Derived.DeepKeys4
namespace Go.Proofs.YtlkhoommpkndpaaGreatDoor
open Go.RowKit
structure Prf where
 id : List UInt8
 est : Int
 cre : Int
 code : List UInt8
 an : Bool
 aa : List UInt8
 ab : List UInt8
 inc : Int
 rank : Int
 rn : Bool
 ra : List UInt8
 rb : List UInt8
 rf : Int
 sec : Int
deriving DecidableEq
def Prf.enc (p : Prf) : List Value := [.string (bs p.id), .int .i64 p.est, .int .i64 p.cre, .string (bs p.code), .bool p.an, .string (bs p.aa), .string (bs p.ab), .int .i64 p.inc, .int .i64 p.rank, .bool p.rn, .string (bs p.ra), .string (bs p.rb), .int .i64 p.rf, .int .i64 p.sec]
def Prf.amount (p : Prf) : Rat := decR p.an p.aa p.ab
def Prf.rate (p : Prf) : Rat := decR p.rn p.ra p.rb
structure Raw3 where
 n : Bool
 a : List UInt8
 b : List UInt8
deriving DecidableEq
def Raw3.val (t : Raw3) : Rat := decR t.n t.a t.b
def enc3 (q : Rat) : Raw3 := ⟨negB q, numB q, a0a q⟩
def zero3 : Raw3 := ⟨false, [], []⟩
theorem a7z (q : Rat) : (enc3 q).val = q := a3x q
structure Ent where
 p : Prf
 st : Int
 late : Bool
 cl : Raw3
 fl : Raw3
 ad : Raw3
 ce : Raw3
 acq : Int
 chg : Int
deriving DecidableEq
def Ent.enc (e : Ent) : List Value := e.p.enc ++ [.int .i64 e.st, .bool e.late, .bool e.cl.n, .string (bs e.cl.a), .string (bs e.cl.b), .bool e.fl.n, .string (bs e.fl.a), .string (bs e.fl.b), .bool e.ad.n, .string (bs e.ad.a), .string (bs e.ad.b), .bool e.ce.n, .string (bs e.ce.a), .string (bs e.ce.b), .int .i64 e.acq, .int .i64 e.chg]
theorem a1s (e : Ent) : e.enc.length = 30 := rfl
abbrev b3f (w : World) (v : Value) (l : List Ent) : Prop := Slc Ent.enc 30 w v l
structure Evt where
 kind : Int
 day : Int
 id : List UInt8
 am : Raw3
 cre : Int
 p : Prf
deriving DecidableEq
def Evt.enc (e : Evt) : List Value := [.int .i64 e.kind, .int .i64 e.day, .string (bs e.id), .bool e.am.n, .string (bs e.am.a), .string (bs e.am.b), .int .i64 e.cre] ++ e.p.enc
structure Rgs where
 cut : Int
 bar : Int
 day : Int
 es : List Ent
deriving DecidableEq
def b0d (c : UInt8) : Bool := (decide (97 <= c.toNat) && decide (c.toNat <= 122)) || (decide (65 <= c.toNat) && decide (c.toNat <= 90))
def digitB (c : UInt8) : Bool := decide (48 <= c.toNat) && decide (c.toNat <= 57)
def a3e (c : UInt8) : Bool := b0d c || (digitB c || (decide (c.toNat = 45) || decide (c.toNat = 95)))
def a5j (s : List UInt8) : Bool := decide (1 <= s.length) && (decide (s.length <= 32) && (b0d (s.getD 0 0) && s.all a3e))
def a0z (p : Prf) : Int :=
 if a5j p.id = false then 11
 else if ¬ ((0 <= p.est /\ p.est <= 7) /\ 0 <= p.cre /\ p.cre <= 31) then 1
 else if a1y p.code = false then 8
 else if sgn p.amount.num < 0 then 7
 else if ¬ (dayB p.inc = true /\ 0 <= p.rank /\ p.rank <= 7) then 1
 else if sgn p.rate.num < 0 then 7
 else if dayB p.rf = false \/ (sgn p.rate.num = 0 /\ p.rf ≠ 0) \/ ¬ (-1 <= p.sec /\ p.sec < 8) then 1
 else 0
theorem a6n {p : Prf} (h : a0z p = 0) : a5j p.id = true /\ a1y p.code = true /\ 0 <= sgn p.amount.num /\ dayB p.inc = true /\ 0 <= sgn p.rate.num /\ dayB p.rf = true := by
 unfold a0z at h
 split at h
 ·cases h
 split at h
 ·cases h
 split at h
 ·cases h
 split at h
 ·cases h
 split at h
 ·cases h
 split at h
 ·cases h
 split at h
 ·cases h
 rename_i h1 h2 h3 h4 h5 h6 h7
 refine ⟨by simpa using h1, by simpa using h3, by omega, (Classical.not_not.1 h5).1, by omega, ?_⟩
 cases hd : dayB p.rf
 ·exact absurd (.inl hd) h7
 rfl
def Prf.step (p : Prf) : Stp := ⟨p.rf, p.rn, p.ra, p.rb⟩
def a0w (p : Prf) (cut : Int) (qs : List Quo) : Rat × Int :=
 if a0z p ≠ 0 then (0, a0z p) else if dayB cut = false then (0, 1) else if cut < p.inc then (0, 16)
 else if (a2m qs p.amount p.code eur cut).2 ≠ 0 then (0, (a2m qs p.amount p.code eur cut).2)
 else if sgn p.rate.num = 0 \/ cut < p.rf then ((a2m qs p.amount p.code eur cut).1, 0)
 else ((a2m qs p.amount p.code eur cut).1 + (a6v (a2m qs p.amount p.code eur cut).1 [p.step] p.rf cut 365).1, 0)
def a5f (l : List Ent) (id : List UInt8) : Option Nat := l.findIdx? fun e => e.p.id == id
def a4a (kind st : Int) : Bool :=
 if kind = 2 \/ kind = 3 then decide (st = 1) else if kind = 4 then decide (st = 3) else if kind = 5 \/ kind = 9 then decide (st = 4) else if kind = 6 then decide (st = 5)
 else if kind = 7 then decide (1 <= st) && decide (st < 6) else decide (1 <= st) && decide (st < 7)
def inB (r low high : Rat) : Bool := decide (0 <= sgn (r - low).num) && decide (sgn (r - high).num <= 0)
def a0n (x : Ent) (e : Evt) : Ent × Int :=
 if a4a e.kind x.st = false then (x, 13)
 else if e.kind = 2 then ({ x with st := 2, fl := enc3 x.ce.val, ad := enc3 x.ce.val }, 0)
 else if e.kind = 3 then (if inB e.am.val 0 x.ce.val then ({ x with st := 3, fl := enc3 e.am.val, ad := enc3 e.am.val }, 0) else (x, 1))
 else if e.kind = 4 then (if inB e.am.val x.fl.val x.ce.val then ({ x with st := 4, ad := enc3 e.am.val }, 0) else (x, 1))
 else if e.kind = 5 then ({ x with st := 5 }, 0)
 else if e.kind = 6 then (if inB e.am.val x.fl.val x.ce.val then ({ x with st := 6, fl := enc3 e.am.val, ad := enc3 e.am.val, ce := enc3 e.am.val }, 0) else (x, 1))
 else if e.kind = 9 then ({ x with st := 6, fl := enc3 x.ad.val, ce := enc3 x.ad.val }, 0)
 else if e.kind = 7 then ({ x with st := 7, fl := zero3, ad := zero3, ce := zero3 }, 0)
 else if e.cre < 0 \/ 32 <= e.cre \/ e.cre = x.p.cre then (x, 14)
 else ({ x with p := { x.p with cre := e.cre }, acq := e.day }, 0)
def newE (p : Prf) (day bar : Int) (v : Rat) : Ent := ⟨p, 1, decide (bar < day), enc3 v, zero3, zero3, enc3 v, p.inc, day⟩
def rgs0 : Rgs := ⟨0, 0, 0, []⟩
def a2c (r : Rgs) (e : Evt) (qs : List Quo) : Rgs × Int :=
  if e.kind < 1 \/ 9 < e.kind \/ dayB e.day = false then (rgs0, 1)
  else if e.day < r.day then (rgs0, 15)
  else if e.kind = 1 then
    (if (a0w e.p r.cut qs).2 ≠ 0 then (rgs0, (a0w e.p r.cut qs).2) else if (a5f r.es e.p.id).isSome = true then (rgs0, 12) else if 64 <= r.es.length then (rgs0, 2)
     else (⟨r.cut, r.bar, e.day, r.es ++ [newE e.p e.day r.bar (a0w e.p r.cut qs).1]⟩, 0))
  else match a5f r.es e.id with
    | none => (rgs0, 11)
    | some i => match r.es[i]? with
      | none => (rgs0, 11)
      | some x => if (a0n x e).2 ≠ 0 then (rgs0, (a0n x e).2) else (⟨r.cut, r.bar, e.day, r.es.set i { (a0n x e).1 with chg := e.day }⟩, 0)
def newR (cut bar : Int) : Rgs × Int := if dayB cut = false \/ dayB bar = false then (rgs0, 1) else (⟨cut, bar, 0, []⟩, 0)
set_option maxRecDepth 100000
theorem a4h (d : Int) (w : World) : Calls Tryz.prog 41 #[.int .i64 d] w fun e w' => e = .returned (.bool (dayB d)) /\ w = w' := by
 unfold dayB
 obtain ⟨x, hx⟩ : ∃ x, x = decide (0 <= d) := ⟨_, rfl⟩
 obtain ⟨y, hy⟩ : ∃ y, y = decide (d <= 1048576) := ⟨_, rfl⟩
 rw [<- hx, <- hy]
 have hx' := hx.symm
 have hy' := hy.symm
 clear hx hy
 cases x <;> cases y
 all_goals
  go_enter Tryz.func41, Tryz.ntmps41
  go_wp2
  go_ret
  exact ⟨rfl, rfl⟩
theorem a2u (n m : Int) (w : World) : Calls Tryz.prog 74 #[.int .i64 n, .int .i64 m] w fun e w' => e = .returned (.bool (decide (0 <= n) && decide (n <= m))) /\ w = w' := by
 obtain ⟨x, hx⟩ : ∃ x, x = decide (0 <= n) := ⟨_, rfl⟩
 obtain ⟨y, hy⟩ : ∃ y, y = decide (n <= m) := ⟨_, rfl⟩
 rw [<- hx, <- hy]
 have hx' := hx.symm
 have hy' := hy.symm
 clear hx hy
 cases x <;> cases y
 all_goals
  go_enter Tryz.func74, Tryz.ntmps74
  go_wp2
  go_ret
  exact ⟨rfl, rfl⟩
def letN (b : Nat) : Bool := (decide (97 <= b) && decide (b <= 122)) || (decide (65 <= b) && decide (b <= 90))
def digN (b : Nat) : Bool := decide (48 <= b) && decide (b <= 57)
def nameN (b : Nat) : Bool := letN b || (digN b || (decide (b = 45) || decide (b = 95)))
theorem letN_of (c : UInt8) : b0d c = letN c.toNat := rfl
theorem nameN_of (c : UInt8) : a3e c = nameN c.toNat := rfl
theorem a8c (b : Nat) (w : World) : Calls Tryz.prog 116 #[.int .u8 (b : Nat)] w fun e w' => e = .returned (.bool (letN b)) /\ w = w' := by
 unfold letN
 obtain ⟨x, hx⟩ : ∃ y, y = decide (97 <= b) := ⟨_, rfl⟩
 obtain ⟨y, hy⟩ : ∃ y, y = decide (b <= 122) := ⟨_, rfl⟩
 obtain ⟨z, hz⟩ : ∃ y, y = decide (65 <= b) := ⟨_, rfl⟩
 obtain ⟨u, hu⟩ : ∃ y, y = decide (b <= 90) := ⟨_, rfl⟩
 rw [<- hx, <- hy, <- hz, <- hu]
 have x1 : decide ((97 : Int) <= (b : Int)) = x := by rw [hx]; exact decide_eq_decide.2 (by omega)
 have x2 : decide (97 <= b) = x := hx.symm
 have y1 : decide ((b : Int) <= 122) = y := by rw [hy]; exact decide_eq_decide.2 (by omega)
 have y2 : decide (b <= 122) = y := hy.symm
 have z1 : decide ((65 : Int) <= (b : Int)) = z := by rw [hz]; exact decide_eq_decide.2 (by omega)
 have z2 : decide (65 <= b) = z := hz.symm
 have u1 : decide ((b : Int) <= 90) = u := by rw [hu]; exact decide_eq_decide.2 (by omega)
 have u2 : decide (b <= 90) = u := hu.symm
 clear hx hy hz hu
 cases x <;> cases y <;> cases z <;> cases u
 all_goals
  go_enter Tryz.func116, Tryz.ntmps116
  go_wp2
  go_ret
  exact ⟨rfl, rfl⟩
theorem b5u (b : Nat) (w : World) : Calls Tryz.prog 117 #[.int .u8 (b : Nat)] w fun e w' => e = .returned (.bool (digN b)) /\ w = w' := by
 unfold digN
 obtain ⟨x, hx⟩ : ∃ y, y = decide (48 <= b) := ⟨_, rfl⟩
 obtain ⟨y, hy⟩ : ∃ y, y = decide (b <= 57) := ⟨_, rfl⟩
 rw [<- hx, <- hy]
 have x1 : decide ((48 : Int) <= (b : Int)) = x := by rw [hx]; exact decide_eq_decide.2 (by omega)
 have x2 : decide (48 <= b) = x := hx.symm
 have y1 : decide ((b : Int) <= 57) = y := by rw [hy]; exact decide_eq_decide.2 (by omega)
 have y2 : decide (b <= 57) = y := hy.symm
 clear hx hy
 cases x <;> cases y
 all_goals
  go_enter Tryz.func117, Tryz.ntmps117
  go_wp2
  go_ret
  exact ⟨rfl, rfl⟩
theorem nm_at {l : List UInt8} {i : Nat} (hi : i < l.length) : l[i]? = some (l.getD i 0) := by rw [List.getD_eq_getElem?_getD, List.getElem?_eq_getElem hi]; rfl
theorem nm_step {l : List UInt8} {i : Nat} (hi : i < l.length) : (l.take (i + 1)).all a3e = ((l.take i).all a3e && a3e (l.getD i 0)) := b9u (nm_at hi)
theorem nm_false {l : List UInt8} {i : Nat} (hi : i < l.length) (h : a3e (l.getD i 0) = false) : a5j l = false := by
 unfold a5j
 have : l.all a3e = false := by
  rw [List.all_eq_false]
  exact ⟨l.getD i 0, List.mem_of_getElem? (nm_at hi), by rw [h]; decide⟩
 rw [this]; simp
theorem nm_head {l : List UInt8} (h : b0d (l.getD 0 0) = false) : a5j l = false := by unfold a5j; rw [h]; simp
theorem nm_empty {l : List UInt8} (h : l.length = 0) : a5j l = false := by unfold a5j; rw [h]; rfl
theorem nm_long {l : List UInt8} (h : 32 < l.length) : a5j l = false := by unfold a5j; rw [decide_eq_false (show ¬ l.length <= 32 by omega)]; simp
theorem nm_true {l : List UInt8} (h1 : 1 <= l.length) (h2 : l.length <= 32) (h3 : b0d (l.getD 0 0) = true) (h4 : (l.take l.length).all a3e = true) : a5j l = true := by
 rw [List.take_length] at h4
 unfold a5j; rw [decide_eq_true h1, decide_eq_true h2, h3, h4]; rfl
theorem pe_name {p : Prf} (h : a5j p.id = false) : a0z p = 11 := by unfold a0z; rw [if_pos h]
theorem pe_range {p : Prf} (h : a5j p.id = true) (h2 : ¬ ((0 <= p.est /\ p.est <= 7) /\ 0 <= p.cre /\ p.cre <= 31)) : a0z p = 1 := by unfold a0z; rw [h, if_neg (by decide), if_pos h2]
theorem pe_code {p : Prf} (h : a5j p.id = true) (h2 : (0 <= p.est /\ p.est <= 7) /\ 0 <= p.cre /\ p.cre <= 31) (h3 : a1y p.code = false) : a0z p = 8 := by
 unfold a0z; rw [h, if_neg (by decide), if_neg (fun k => k h2), if_pos h3]
theorem pe_neg {p : Prf} (h : a5j p.id = true) (h2 : (0 <= p.est /\ p.est <= 7) /\ 0 <= p.cre /\ p.cre <= 31) (h3 : a1y p.code = true) (h4 : sgn p.amount.num < 0) : a0z p = 7 := by
 unfold a0z; rw [h, if_neg (by decide), if_neg (fun k => k h2), h3, if_neg (by decide), if_pos h4]
theorem pe_day {p : Prf} (h : a5j p.id = true) (h2 : (0 <= p.est /\ p.est <= 7) /\ 0 <= p.cre /\ p.cre <= 31) (h3 : a1y p.code = true) (h4 : ¬ sgn p.amount.num < 0) (h5 : ¬ (dayB p.inc = true /\ 0 <= p.rank /\ p.rank <= 7)) : a0z p = 1 := by
 unfold a0z; rw [h, if_neg (by decide), if_neg (fun k => k h2), h3, if_neg (by decide), if_neg h4, if_pos h5]
theorem pe_rate {p : Prf} (h : a5j p.id = true) (h2 : (0 <= p.est /\ p.est <= 7) /\ 0 <= p.cre /\ p.cre <= 31) (h3 : a1y p.code = true) (h4 : ¬ sgn p.amount.num < 0) (h5 : dayB p.inc = true /\ 0 <= p.rank /\ p.rank <= 7) (h6 : sgn p.rate.num < 0) : a0z p = 7 := by
 unfold a0z; rw [h, if_neg (by decide), if_neg (fun k => k h2), h3, if_neg (by decide), if_neg h4, if_neg (fun k => k h5), if_pos h6]
theorem c2x {p : Prf} (h : a5j p.id = true) (h2 : (0 <= p.est /\ p.est <= 7) /\ 0 <= p.cre /\ p.cre <= 31) (h3 : a1y p.code = true) (h4 : ¬ sgn p.amount.num < 0) (h5 : dayB p.inc = true /\ 0 <= p.rank /\ p.rank <= 7) (h6 : ¬ sgn p.rate.num < 0) :
  a0z p = if dayB p.rf = false \/ (sgn p.rate.num = 0 /\ p.rf ≠ 0) \/ ¬ (-1 <= p.sec /\ p.sec < 8) then 1 else 0 := by
 unfold a0z; rw [h, if_neg (by decide), if_neg (fun k => k h2), h3, if_neg (by decide), if_neg h4, if_neg (fun k => k h5), if_neg h6]
theorem b2x {qs : List Quo} {N : Nat} (hN : 1 <= N) (h : ∀ q ∈ qs, q.num.length <= N /\ q.den.length <= N) {p : Rat} (hp : Sized N p) (src dst : List UInt8) (day : Int) : Sized (N + N + N) (a2m qs p src dst day).1 := by
 have ha := a6m hN h src day
 have hb := a6m hN h dst day
 unfold a2m
 split
 ·exact sized_zero.mono (by omega)
 split
 ·exact sized_zero.mono (by omega)
 exact (hp.mul (a1a ha.1 ha.2 hN)).div (a1a hb.1 hb.2 hN)
theorem b2y {qs : List Quo} {p : Rat} {src dst : List UInt8} {day : Int} (hp : 0 <= p) : 0 <= (a2m qs p src dst day).1 := by
 unfold a2m
 split
 ·exact Rat.le_refl
 rename_i h1
 split
 ·exact Rat.le_refl
 rename_i h2
 have r1 := b5s (Classical.not_not.1 h1)
 have r2 := b5s (Classical.not_not.1 h2)
 have q1 : 0 < (a2e qs src day).1.rat := by
  have h0 : 0 <= (a2e qs src day).1.rat := Rat.num_nonneg.1 (by omega)
  have hn := b5t (Classical.not_not.1 h1)
  grind
 have q2 : 0 < (a2e qs dst day).1.rat := by
  have h0 : 0 <= (a2e qs dst day).1.rat := Rat.num_nonneg.1 (by omega)
  have hn := b5t (Classical.not_not.1 h2)
  grind
 show 0 <= p * (a2e qs src day).1.rat / (a2e qs dst day).1.rat
 rw [Rat.div_def]
 exact Rat.mul_nonneg (Rat.mul_nonneg hp (Rat.le_of_lt q1)) (Rat.le_of_lt (Rat.inv_pos.2 q2))
theorem a9q {s : Stp} (h1 : dayB s.frm = true) (h2 : ¬ sgn s.rate.num < 0) : a3c [s] = 0 := by
 unfold a3c
 rw [if_neg (by simp)]
 show a2k [s] (0 + 1) = 0
 have h0 : a2k [s] 0 = 0 := rfl
 rw [a2k, if_pos h0]
 show a2t [s] 0 s = 0
 unfold a2t
 rw [h1, if_neg (by decide), if_neg (by omega), if_neg h2]
theorem simp_one {a : Rat} {p : Prf} {cut : Int} (ha : 0 <= a) (h1 : dayB p.rf = true) (h2 : ¬ sgn p.rate.num < 0) (h3 : dayB cut = true) (h4 : ¬ cut < p.rf) : (a6v a [p.step] p.rf cut 365).2 = 0 := by
 have hc : a3c [p.step] = 0 := a9q h1 h2
 have he : a2h a [p.step] p.rf cut 365 1 = 0 := by
  unfold a2h
  rw [hc, if_neg (by decide), if_neg (c4q h1 h3 (.inr rfl) (by decide)), if_neg h4, if_neg (a7t ha)]
 rw [b9y he]
theorem va_check {p : Prf} {cut : Int} {qs : List Quo} (h : a0z p ≠ 0) : a0w p cut qs = (0, a0z p) := by unfold a0w; rw [if_pos h]
theorem va_cut {p : Prf} {cut : Int} {qs : List Quo} (h : a0z p = 0) (h2 : dayB cut = false) : a0w p cut qs = (0, 1) := by unfold a0w; rw [h, if_neg (by decide), if_pos h2]
theorem va_late {p : Prf} {cut : Int} {qs : List Quo} (h : a0z p = 0) (h2 : dayB cut = true) (h3 : cut < p.inc) : a0w p cut qs = (0, 16) := by unfold a0w; rw [h, if_neg (by decide), h2, if_neg (by decide), if_pos h3]
theorem va_conv {p : Prf} {cut : Int} {qs : List Quo} (h : a0z p = 0) (h2 : dayB cut = true) (h3 : ¬ cut < p.inc) (h4 : (a2m qs p.amount p.code eur cut).2 ≠ 0) : a0w p cut qs = (0, (a2m qs p.amount p.code eur cut).2) := by
 unfold a0w; rw [h, if_neg (by decide), h2, if_neg (by decide), if_neg h3, if_pos h4]
theorem c2a {p : Prf} {cut : Int} {qs : List Quo} (h : a0z p = 0) (h2 : dayB cut = true) (h3 : ¬ cut < p.inc) (h4 : (a2m qs p.amount p.code eur cut).2 = 0) (h5 : sgn p.rate.num = 0 \/ cut < p.rf) : a0w p cut qs = ((a2m qs p.amount p.code eur cut).1, 0) := by
 unfold a0w; rw [h, if_neg (by decide), h2, if_neg (by decide), if_neg h3, if_neg (fun k => k h4), if_pos h5]
theorem c1z {p : Prf} {cut : Int} {qs : List Quo} (h : a0z p = 0) (h2 : dayB cut = true) (h3 : ¬ cut < p.inc) (h4 : (a2m qs p.amount p.code eur cut).2 = 0) (h5 : ¬ (sgn p.rate.num = 0 \/ cut < p.rf)) :
  a0w p cut qs = ((a2m qs p.amount p.code eur cut).1 + (a6v (a2m qs p.amount p.code eur cut).1 [p.step] p.rf cut 365).1, 0) := by
 unfold a0w; rw [h, if_neg (by decide), h2, if_neg (by decide), if_neg h3, if_neg (fun k => k h4), if_neg h5]
def Prf.fit (p : Prf) : Prop := (p.id.length <= 9223372036854775807 /\ p.code.length <= 9223372036854775807 /\ p.aa.length <= 9223372036854775807 /\ p.ab.length <= 9223372036854775807 /\ p.ra.length <= 9223372036854775807 /\ p.rb.length <= 9223372036854775807) /\ (Lit.int .i64 p.est).wf = true /\ (Lit.int .i64 p.cre).wf = true /\ (Lit.int .i64 p.inc).wf = true /\ (Lit.int .i64 p.rank).wf = true /\ (Lit.int .i64 p.rf).wf = true /\ (Lit.int .i64 p.sec).wf = true
def Raw3.fit (t : Raw3) : Prop := t.a.length <= 9223372036854775807 /\ t.b.length <= 9223372036854775807
def Ent.fit (e : Ent) : Prop := e.p.fit /\ (e.cl.fit /\ e.fl.fit /\ e.ad.fit /\ e.ce.fit) /\ (Lit.int .i64 e.st).wf = true /\ (Lit.int .i64 e.acq).wf = true /\ (Lit.int .i64 e.chg).wf = true

abbrev prfC (p : Prf) : Array Value := #[.string (bs p.id), .int .i64 p.est, .int .i64 p.cre, .string (bs p.code), .bool p.an, .string (bs p.aa), .string (bs p.ab), .int .i64 p.inc, .int .i64 p.rank, .bool p.rn, .string (bs p.ra), .string (bs p.rb), .int .i64 p.rf, .int .i64 p.sec]
abbrev entC (x : Ent) : Array Value := #[.string (bs x.p.id), .int .i64 x.p.est, .int .i64 x.p.cre, .string (bs x.p.code), .bool x.p.an, .string (bs x.p.aa), .string (bs x.p.ab), .int .i64 x.p.inc, .int .i64 x.p.rank, .bool x.p.rn, .string (bs x.p.ra), .string (bs x.p.rb), .int .i64 x.p.rf, .int .i64 x.p.sec, .int .i64 x.st, .bool x.late, .bool x.cl.n, .string (bs x.cl.a), .string (bs x.cl.b), .bool x.fl.n, .string (bs x.fl.a), .string (bs x.fl.b), .bool x.ad.n, .string (bs x.ad.a), .string (bs x.ad.b), .bool x.ce.n, .string (bs x.ce.a), .string (bs x.ce.b), .int .i64 x.acq, .int .i64 x.chg]
abbrev evC (k d : Int) (i : List UInt8) (a : Raw3) (c : Int) (p : Prf) : Array Value := #[.int .i64 k, .int .i64 d, .string (bs i), .bool a.n, .string (bs a.a), .string (bs a.b), .int .i64 c, .string (bs p.id), .int .i64 p.est, .int .i64 p.cre, .string (bs p.code), .bool p.an, .string (bs p.aa), .string (bs p.ab), .int .i64 p.inc, .int .i64 p.rank, .bool p.rn, .string (bs p.ra), .string (bs p.rb), .int .i64 p.rf, .int .i64 p.sec]
abbrev prfO : Array Value := #[.string (bs []), .int .i64 0, .int .i64 0, .string (bs []), .bool false, .string (bs []), .string (bs []), .int .i64 0, .int .i64 0, .bool false, .string (bs []), .string (bs []), .int .i64 0, .int .i64 0]
abbrev entO : Array Value := #[.string (bs []), .int .i64 0, .int .i64 0, .string (bs []), .bool false, .string (bs []), .string (bs []), .int .i64 0, .int .i64 0, .bool false, .string (bs []), .string (bs []), .int .i64 0, .int .i64 0, .int .i64 0, .bool false, .bool false, .string (bs []), .string (bs []), .bool false, .string (bs []), .string (bs []), .bool false, .string (bs []), .string (bs []), .bool false, .string (bs []), .string (bs []), .int .i64 0, .int .i64 0]
abbrev entM (p : Prf) (s : Int) (l : Bool) (cl fl ad ce : Raw3) (a c : Int) : List Value := [.string (bs p.id), .int .i64 p.est, .int .i64 p.cre, .string (bs p.code), .bool p.an, .string (bs p.aa), .string (bs p.ab), .int .i64 p.inc, .int .i64 p.rank, .bool p.rn, .string (bs p.ra), .string (bs p.rb), .int .i64 p.rf, .int .i64 p.sec, .int .i64 s, .bool l, .bool cl.n, .string (bs cl.a), .string (bs cl.b), .bool fl.n, .string (bs fl.a), .string (bs fl.b), .bool ad.n, .string (bs ad.a), .string (bs ad.b), .bool ce.n, .string (bs ce.a), .string (bs ce.b), .int .i64 a, .int .i64 c]
end Go.Proofs.YtlkhoommpkndpaaGreatDoor
