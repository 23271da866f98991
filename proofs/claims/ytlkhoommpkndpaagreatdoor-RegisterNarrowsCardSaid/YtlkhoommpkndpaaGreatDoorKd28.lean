/-
Part 28 of the base.
-/
import Derived.Test.YtlkhoommpkndpaaGreatDoorKd22
import Derived.Test.YtlkhoommpkndpaaGreatDoorKd27
import Derived.Test.YtlkhoommpkndpaaGreatDoorKd19
import Derived.Test.YtlkhoommpkndpaaGreatDoorKd17
import Derived.DeepKeys
import Derived.DeepKeys4
namespace Go.Proofs.YtlkhoommpkndpaaGreatDoor
open Go.RowKit
structure Prf where
 id : List UInt8
 est : Int
 cre : Int
 code : List UInt8
 an : Bool
 aa : List UInt8
 ab : List UInt8
 inc : Int
 rank : Int
 rn : Bool
 ra : List UInt8
 rb : List UInt8
 rf : Int
 sec : Int
deriving DecidableEq
def Prf.enc (p : Prf) : List Value := [.string (bs p.id), .int .i64 p.est, .int .i64 p.cre, .string (bs p.code), .bool p.an, .string (bs p.aa), .string (bs p.ab), .int .i64 p.inc, .int .i64 p.rank, .bool p.rn, .string (bs p.ra), .string (bs p.rb), .int .i64 p.rf, .int .i64 p.sec]
def Prf.amount (p : Prf) : Rat := decR p.an p.aa p.ab
def Prf.rate (p : Prf) : Rat := decR p.rn p.ra p.rb
structure Raw3 where
 n : Bool
 a : List UInt8
 b : List UInt8
deriving DecidableEq
def Raw3.val (t : Raw3) : Rat := decR t.n t.a t.b
def enc3 (q : Rat) : Raw3 := ⟨negB q, numB q, denomB q⟩
def zero3 : Raw3 := ⟨false, [], []⟩
theorem enc3_val (q : Rat) : (enc3 q).val = q := dec_enc q
structure Ent where
 p : Prf
 st : Int
 late : Bool
 cl : Raw3
 fl : Raw3
 ad : Raw3
 ce : Raw3
 acq : Int
 chg : Int
deriving DecidableEq
def Ent.enc (e : Ent) : List Value := e.p.enc ++ [.int .i64 e.st, .bool e.late, .bool e.cl.n, .string (bs e.cl.a), .string (bs e.cl.b), .bool e.fl.n, .string (bs e.fl.a), .string (bs e.fl.b), .bool e.ad.n, .string (bs e.ad.a), .string (bs e.ad.b), .bool e.ce.n, .string (bs e.ce.a), .string (bs e.ce.b), .int .i64 e.acq, .int .i64 e.chg]
theorem ent_len (e : Ent) : e.enc.length = 30 := rfl
abbrev EntsL (w : World) (v : Value) (l : List Ent) : Prop := Slc Ent.enc 30 w v l
structure Evt where
 kind : Int
 day : Int
 id : List UInt8
 am : Raw3
 cre : Int
 p : Prf
deriving DecidableEq
def Evt.enc (e : Evt) : List Value := [.int .i64 e.kind, .int .i64 e.day, .string (bs e.id), .bool e.am.n, .string (bs e.am.a), .string (bs e.am.b), .int .i64 e.cre] ++ e.p.enc
structure Rgs where
 cut : Int
 bar : Int
 day : Int
 es : List Ent
deriving DecidableEq
def letterB (c : UInt8) : Bool := (decide (97 ≤ c.toNat) && decide (c.toNat ≤ 122)) || (decide (65 ≤ c.toNat) && decide (c.toNat ≤ 90))
def digitB (c : UInt8) : Bool := decide (48 ≤ c.toNat) && decide (c.toNat ≤ 57)
def nameByteB (c : UInt8) : Bool := letterB c || (digitB c || (decide (c.toNat = 45) || decide (c.toNat = 95)))
def nameB (s : List UInt8) : Bool := decide (1 ≤ s.length) && (decide (s.length ≤ 32) && (letterB (s.getD 0 0) && s.all nameByteB))
def proofErr (p : Prf) : Int :=
 if nameB p.id = false then 11
 else if ¬ ((0 ≤ p.est ∧ p.est ≤ 7) ∧ 0 ≤ p.cre ∧ p.cre ≤ 31) then 1
 else if isCodeB p.code = false then 8
 else if sgn p.amount.num < 0 then 7
 else if ¬ (dayB p.inc = true ∧ 0 ≤ p.rank ∧ p.rank ≤ 7) then 1
 else if sgn p.rate.num < 0 then 7
 else if dayB p.rf = false ∨ (sgn p.rate.num = 0 ∧ p.rf ≠ 0) ∨ ¬ (-1 ≤ p.sec ∧ p.sec < 8) then 1
 else 0
theorem proofErr_zero {p : Prf} (h : proofErr p = 0) : nameB p.id = true ∧ isCodeB p.code = true ∧ 0 ≤ sgn p.amount.num ∧ dayB p.inc = true ∧ 0 ≤ sgn p.rate.num ∧ dayB p.rf = true := by
 unfold proofErr at h
 split at h
 ·cases h
 ·split at h
  ·cases h
  ·split at h
   ·cases h
   ·split at h
    ·cases h
    ·split at h
     ·cases h
     ·split at h
      ·cases h
      ·split at h
       ·cases h
       ·rename_i h1 h2 h3 h4 h5 h6 h7
        refine ⟨by simpa using h1, by simpa using h3, by omega, (Classical.not_not.1 h5).1, by omega, ?_⟩
        cases hd : dayB p.rf
        ·exact absurd (.inl hd) h7
        ·rfl
def Prf.step (p : Prf) : Stp := ⟨p.rf, p.rn, p.ra, p.rb⟩
def valueOfP (p : Prf) (cut : Int) (qs : List Quo) : Rat × Int :=
 if proofErr p ≠ 0 then (0, proofErr p) else if dayB cut = false then (0, 1) else if cut < p.inc then (0, 16)
 else if (convQ qs p.amount p.code eur cut).2 ≠ 0 then (0, (convQ qs p.amount p.code eur cut).2)
 else if sgn p.rate.num = 0 ∨ cut < p.rf then ((convQ qs p.amount p.code eur cut).1, 0)
 else ((convQ qs p.amount p.code eur cut).1 + (simpR (convQ qs p.amount p.code eur cut).1 [p.step] p.rf cut 365).1, 0)
def findE (l : List Ent) (id : List UInt8) : Option Nat := l.findIdx? fun e => e.p.id == id
def allowB (kind st : Int) : Bool :=
 if kind = 2 ∨ kind = 3 then decide (st = 1) else if kind = 4 then decide (st = 3) else if kind = 5 ∨ kind = 9 then decide (st = 4) else if kind = 6 then decide (st = 5)
 else if kind = 7 then decide (1 ≤ st) && decide (st < 6) else decide (1 ≤ st) && decide (st < 7)
def inB (r low high : Rat) : Bool := decide (0 ≤ sgn (r - low).num) && decide (sgn (r - high).num ≤ 0)
def changeE (x : Ent) (e : Evt) : Ent × Int :=
 if allowB e.kind x.st = false then (x, 13)
 else if e.kind = 2 then ({ x with st := 2, fl := enc3 x.ce.val, ad := enc3 x.ce.val }, 0)
 else if e.kind = 3 then (if inB e.am.val 0 x.ce.val then ({ x with st := 3, fl := enc3 e.am.val, ad := enc3 e.am.val }, 0) else (x, 1))
 else if e.kind = 4 then (if inB e.am.val x.fl.val x.ce.val then ({ x with st := 4, ad := enc3 e.am.val }, 0) else (x, 1))
 else if e.kind = 5 then ({ x with st := 5 }, 0)
 else if e.kind = 6 then (if inB e.am.val x.fl.val x.ce.val then ({ x with st := 6, fl := enc3 e.am.val, ad := enc3 e.am.val, ce := enc3 e.am.val }, 0) else (x, 1))
 else if e.kind = 9 then ({ x with st := 6, fl := enc3 x.ad.val, ce := enc3 x.ad.val }, 0)
 else if e.kind = 7 then ({ x with st := 7, fl := zero3, ad := zero3, ce := zero3 }, 0)
 else if e.cre < 0 ∨ 32 ≤ e.cre ∨ e.cre = x.p.cre then (x, 14)
 else ({ x with p := { x.p with cre := e.cre }, acq := e.day }, 0)
def newE (p : Prf) (day bar : Int) (v : Rat) : Ent := ⟨p, 1, decide (bar < day), enc3 v, zero3, zero3, enc3 v, p.inc, day⟩
def rgs0 : Rgs := ⟨0, 0, 0, []⟩
def applyR (r : Rgs) (e : Evt) (qs : List Quo) : Rgs × Int :=
  if e.kind < 1 ∨ 9 < e.kind ∨ dayB e.day = false then (rgs0, 1)
  else if e.day < r.day then (rgs0, 15)
  else if e.kind = 1 then
    (if (valueOfP e.p r.cut qs).2 ≠ 0 then (rgs0, (valueOfP e.p r.cut qs).2) else if (findE r.es e.p.id).isSome = true then (rgs0, 12) else if 64 ≤ r.es.length then (rgs0, 2)
     else (⟨r.cut, r.bar, e.day, r.es ++ [newE e.p e.day r.bar (valueOfP e.p r.cut qs).1]⟩, 0))
  else match findE r.es e.id with
    | none => (rgs0, 11)
    | some i => match r.es[i]? with
      | none => (rgs0, 11)
      | some x => if (changeE x e).2 ≠ 0 then (rgs0, (changeE x e).2) else (⟨r.cut, r.bar, e.day, r.es.set i { (changeE x e).1 with chg := e.day }⟩, 0)
def newR (cut bar : Int) : Rgs × Int := if dayB cut = false ∨ dayB bar = false then (rgs0, 1) else (⟨cut, bar, 0, []⟩, 0)
end Go.Proofs.YtlkhoommpkndpaaGreatDoor
set_option maxRecDepth 100000
namespace Go.Proofs.YtlkhoommpkndpaaGreatDoor
open Go.RowKit
theorem register_isDay (d : Int) (w : World) : Calls Tryz.prog 41 #[.int .i64 d] w fun e w' => e = .returned (.bool (dayB d)) ∧ w = w' := by
 unfold dayB
 obtain ⟨x, hx⟩ : ∃ x, x = decide (0 ≤ d) := ⟨_, rfl⟩
 obtain ⟨y, hy⟩ : ∃ y, y = decide (d ≤ 1048576) := ⟨_, rfl⟩
 rw [← hx, ← hy]
 have hx' := hx.symm
 have hy' := hy.symm
 clear hx hy
 cases x <;> cases y
 all_goals
  go_enter Tryz.func41, Tryz.ntmps41
  go_wp2
  go_ret
  exact ⟨rfl, rfl⟩
theorem proof_within (n m : Int) (w : World) : Calls Tryz.prog 74 #[.int .i64 n, .int .i64 m] w fun e w' => e = .returned (.bool (decide (0 ≤ n) && decide (n ≤ m))) ∧ w = w' := by
 obtain ⟨x, hx⟩ : ∃ x, x = decide (0 ≤ n) := ⟨_, rfl⟩
 obtain ⟨y, hy⟩ : ∃ y, y = decide (n ≤ m) := ⟨_, rfl⟩
 rw [← hx, ← hy]
 have hx' := hx.symm
 have hy' := hy.symm
 clear hx hy
 cases x <;> cases y
 all_goals
  go_enter Tryz.func74, Tryz.ntmps74
  go_wp2
  go_ret
  exact ⟨rfl, rfl⟩
def letN (b : Nat) : Bool := (decide (97 ≤ b) && decide (b ≤ 122)) || (decide (65 ≤ b) && decide (b ≤ 90))
def digN (b : Nat) : Bool := decide (48 ≤ b) && decide (b ≤ 57)
def nameN (b : Nat) : Bool := letN b || (digN b || (decide (b = 45) || decide (b = 95)))
theorem letN_of (c : UInt8) : letterB c = letN c.toNat := rfl
theorem nameN_of (c : UInt8) : nameByteB c = nameN c.toNat := rfl
theorem proof_isLetter (b : Nat) (w : World) : Calls Tryz.prog 116 #[.int .u8 (b : Nat)] w fun e w' => e = .returned (.bool (letN b)) ∧ w = w' := by
 unfold letN
 obtain ⟨x, hx⟩ : ∃ y, y = decide (97 ≤ b) := ⟨_, rfl⟩
 obtain ⟨y, hy⟩ : ∃ y, y = decide (b ≤ 122) := ⟨_, rfl⟩
 obtain ⟨z, hz⟩ : ∃ y, y = decide (65 ≤ b) := ⟨_, rfl⟩
 obtain ⟨u, hu⟩ : ∃ y, y = decide (b ≤ 90) := ⟨_, rfl⟩
 rw [← hx, ← hy, ← hz, ← hu]
 have x1 : decide ((97 : Int) ≤ (b : Int)) = x := by rw [hx]; exact decide_eq_decide.2 (by omega)
 have x2 : decide (97 ≤ b) = x := hx.symm
 have y1 : decide ((b : Int) ≤ 122) = y := by rw [hy]; exact decide_eq_decide.2 (by omega)
 have y2 : decide (b ≤ 122) = y := hy.symm
 have z1 : decide ((65 : Int) ≤ (b : Int)) = z := by rw [hz]; exact decide_eq_decide.2 (by omega)
 have z2 : decide (65 ≤ b) = z := hz.symm
 have u1 : decide ((b : Int) ≤ 90) = u := by rw [hu]; exact decide_eq_decide.2 (by omega)
 have u2 : decide (b ≤ 90) = u := hu.symm
 clear hx hy hz hu
 cases x <;> cases y <;> cases z <;> cases u
 all_goals
  go_enter Tryz.func116, Tryz.ntmps116
  go_wp2
  go_ret
  exact ⟨rfl, rfl⟩
theorem proof_isDigit (b : Nat) (w : World) : Calls Tryz.prog 117 #[.int .u8 (b : Nat)] w fun e w' => e = .returned (.bool (digN b)) ∧ w = w' := by
 unfold digN
 obtain ⟨x, hx⟩ : ∃ y, y = decide (48 ≤ b) := ⟨_, rfl⟩
 obtain ⟨y, hy⟩ : ∃ y, y = decide (b ≤ 57) := ⟨_, rfl⟩
 rw [← hx, ← hy]
 have x1 : decide ((48 : Int) ≤ (b : Int)) = x := by rw [hx]; exact decide_eq_decide.2 (by omega)
 have x2 : decide (48 ≤ b) = x := hx.symm
 have y1 : decide ((b : Int) ≤ 57) = y := by rw [hy]; exact decide_eq_decide.2 (by omega)
 have y2 : decide (b ≤ 57) = y := hy.symm
 clear hx hy
 cases x <;> cases y
 all_goals
  go_enter Tryz.func117, Tryz.ntmps117
  go_wp2
  go_ret
  exact ⟨rfl, rfl⟩
end Go.Proofs.YtlkhoommpkndpaaGreatDoor
namespace Go.Proofs.YtlkhoommpkndpaaGreatDoor
open Go.RowKit
theorem nm_at {l : List UInt8} {i : Nat} (hi : i < l.length) : l[i]? = some (l.getD i 0) := by rw [List.getD_eq_getElem?_getD, List.getElem?_eq_getElem hi]; rfl
theorem nm_step {l : List UInt8} {i : Nat} (hi : i < l.length) : (l.take (i + 1)).all nameByteB = ((l.take i).all nameByteB && nameByteB (l.getD i 0)) := take_all (nm_at hi)
theorem nm_false {l : List UInt8} {i : Nat} (hi : i < l.length) (h : nameByteB (l.getD i 0) = false) : nameB l = false := by
 unfold nameB
 have : l.all nameByteB = false := by
  rw [List.all_eq_false]
  exact ⟨l.getD i 0, List.mem_of_getElem? (nm_at hi), by rw [h]; decide⟩
 rw [this]; simp
theorem nm_head {l : List UInt8} (h : letterB (l.getD 0 0) = false) : nameB l = false := by unfold nameB; rw [h]; simp
theorem nm_empty {l : List UInt8} (h : l.length = 0) : nameB l = false := by unfold nameB; rw [h]; rfl
theorem nm_long {l : List UInt8} (h : 32 < l.length) : nameB l = false := by unfold nameB; rw [decide_eq_false (show ¬ l.length ≤ 32 by omega)]; simp
theorem nm_true {l : List UInt8} (h1 : 1 ≤ l.length) (h2 : l.length ≤ 32) (h3 : letterB (l.getD 0 0) = true) (h4 : (l.take l.length).all nameByteB = true) : nameB l = true := by
 rw [List.take_length] at h4
 unfold nameB; rw [decide_eq_true h1, decide_eq_true h2, h3, h4]; rfl
theorem pe_name {p : Prf} (h : nameB p.id = false) : proofErr p = 11 := by unfold proofErr; rw [if_pos h]
theorem pe_range {p : Prf} (h : nameB p.id = true) (h2 : ¬ ((0 ≤ p.est ∧ p.est ≤ 7) ∧ 0 ≤ p.cre ∧ p.cre ≤ 31)) : proofErr p = 1 := by unfold proofErr; rw [h, if_neg (by decide), if_pos h2]
theorem pe_code {p : Prf} (h : nameB p.id = true) (h2 : (0 ≤ p.est ∧ p.est ≤ 7) ∧ 0 ≤ p.cre ∧ p.cre ≤ 31) (h3 : isCodeB p.code = false) : proofErr p = 8 := by
 unfold proofErr; rw [h, if_neg (by decide), if_neg (fun k => k h2), if_pos h3]
theorem pe_neg {p : Prf} (h : nameB p.id = true) (h2 : (0 ≤ p.est ∧ p.est ≤ 7) ∧ 0 ≤ p.cre ∧ p.cre ≤ 31) (h3 : isCodeB p.code = true) (h4 : sgn p.amount.num < 0) : proofErr p = 7 := by
 unfold proofErr; rw [h, if_neg (by decide), if_neg (fun k => k h2), h3, if_neg (by decide), if_pos h4]
theorem pe_day {p : Prf} (h : nameB p.id = true) (h2 : (0 ≤ p.est ∧ p.est ≤ 7) ∧ 0 ≤ p.cre ∧ p.cre ≤ 31) (h3 : isCodeB p.code = true) (h4 : ¬ sgn p.amount.num < 0) (h5 : ¬ (dayB p.inc = true ∧ 0 ≤ p.rank ∧ p.rank ≤ 7)) : proofErr p = 1 := by
 unfold proofErr; rw [h, if_neg (by decide), if_neg (fun k => k h2), h3, if_neg (by decide), if_neg h4, if_pos h5]
theorem pe_rate {p : Prf} (h : nameB p.id = true) (h2 : (0 ≤ p.est ∧ p.est ≤ 7) ∧ 0 ≤ p.cre ∧ p.cre ≤ 31) (h3 : isCodeB p.code = true) (h4 : ¬ sgn p.amount.num < 0) (h5 : dayB p.inc = true ∧ 0 ≤ p.rank ∧ p.rank ≤ 7) (h6 : sgn p.rate.num < 0) : proofErr p = 7 := by
 unfold proofErr; rw [h, if_neg (by decide), if_neg (fun k => k h2), h3, if_neg (by decide), if_neg h4, if_neg (fun k => k h5), if_pos h6]
theorem pe_last {p : Prf} (h : nameB p.id = true) (h2 : (0 ≤ p.est ∧ p.est ≤ 7) ∧ 0 ≤ p.cre ∧ p.cre ≤ 31) (h3 : isCodeB p.code = true) (h4 : ¬ sgn p.amount.num < 0) (h5 : dayB p.inc = true ∧ 0 ≤ p.rank ∧ p.rank ≤ 7) (h6 : ¬ sgn p.rate.num < 0) :
  proofErr p = if dayB p.rf = false ∨ (sgn p.rate.num = 0 ∧ p.rf ≠ 0) ∨ ¬ (-1 ≤ p.sec ∧ p.sec < 8) then 1 else 0 := by
 unfold proofErr; rw [h, if_neg (by decide), if_neg (fun k => k h2), h3, if_neg (by decide), if_neg h4, if_neg (fun k => k h5), if_neg h6]
end Go.Proofs.YtlkhoommpkndpaaGreatDoor
namespace Go.Proofs.YtlkhoommpkndpaaGreatDoor
open Go.RowKit
theorem conv_sizedB {qs : List Quo} {N : Nat} (hN : 1 ≤ N) (h : ∀ q ∈ qs, q.num.length ≤ N ∧ q.den.length ≤ N) {p : Rat} (hp : Sized N p) (src dst : List UInt8) (day : Int) : Sized (N + N + N) (convQ qs p src dst day).1 := by
 have ha := rate_within hN h src day
 have hb := rate_within hN h dst day
 unfold convQ
 split
 ·exact sized_zero.mono (by omega)
 ·split
  ·exact sized_zero.mono (by omega)
  ·exact (hp.mul (sized_dec ha.1 ha.2 hN)).div (sized_dec hb.1 hb.2 hN)
theorem conv_nonneg {qs : List Quo} {p : Rat} {src dst : List UInt8} {day : Int} (hp : 0 ≤ p) : 0 ≤ (convQ qs p src dst day).1 := by
 unfold convQ
 split
 ·exact Rat.le_refl
 ·rename_i h1
  split
  ·exact Rat.le_refl
  ·rename_i h2
   have r1 := rate_pos (Classical.not_not.1 h1)
   have r2 := rate_pos (Classical.not_not.1 h2)
   have q1 : 0 < (rateQ qs src day).1.rat := by
    have h0 : 0 ≤ (rateQ qs src day).1.rat := Rat.num_nonneg.1 (by omega)
    have hn := rate_ne (Classical.not_not.1 h1)
    grind
   have q2 : 0 < (rateQ qs dst day).1.rat := by
    have h0 : 0 ≤ (rateQ qs dst day).1.rat := Rat.num_nonneg.1 (by omega)
    have hn := rate_ne (Classical.not_not.1 h2)
    grind
   show 0 ≤ p * (rateQ qs src day).1.rat / (rateQ qs dst day).1.rat
   rw [Rat.div_def]
   exact Rat.mul_nonneg (Rat.mul_nonneg hp (Rat.le_of_lt q1)) (Rat.le_of_lt (Rat.inv_pos.2 q2))
theorem check_one {s : Stp} (h1 : dayB s.frm = true) (h2 : ¬ sgn s.rate.num < 0) : checkS [s] = 0 := by
 unfold checkS
 rw [if_neg (by simp)]
 show checkTo [s] (0 + 1) = 0
 have h0 : checkTo [s] 0 = 0 := rfl
 rw [checkTo, if_pos h0]
 show stepErr [s] 0 s = 0
 unfold stepErr
 rw [h1, if_neg (by decide), if_neg (by omega), if_neg h2]
theorem simp_one {a : Rat} {p : Prf} {cut : Int} (ha : 0 ≤ a) (h1 : dayB p.rf = true) (h2 : ¬ sgn p.rate.num < 0) (h3 : dayB cut = true) (h4 : ¬ cut < p.rf) : (simpR a [p.step] p.rf cut 365).2 = 0 := by
 have hc : checkS [p.step] = 0 := check_one h1 h2
 have he : argsErr a [p.step] p.rf cut 365 1 = 0 := by
  unfold argsErr
  rw [hc, if_neg (by decide), if_neg (args_no h1 h3 (.inr rfl) (by decide)), if_neg h4, if_neg (sgn_nonneg ha)]
 rw [simpR_ok he]
theorem va_check {p : Prf} {cut : Int} {qs : List Quo} (h : proofErr p ≠ 0) : valueOfP p cut qs = (0, proofErr p) := by unfold valueOfP; rw [if_pos h]
theorem va_cut {p : Prf} {cut : Int} {qs : List Quo} (h : proofErr p = 0) (h2 : dayB cut = false) : valueOfP p cut qs = (0, 1) := by unfold valueOfP; rw [h, if_neg (by decide), if_pos h2]
theorem va_late {p : Prf} {cut : Int} {qs : List Quo} (h : proofErr p = 0) (h2 : dayB cut = true) (h3 : cut < p.inc) : valueOfP p cut qs = (0, 16) := by unfold valueOfP; rw [h, if_neg (by decide), h2, if_neg (by decide), if_pos h3]
theorem va_conv {p : Prf} {cut : Int} {qs : List Quo} (h : proofErr p = 0) (h2 : dayB cut = true) (h3 : ¬ cut < p.inc) (h4 : (convQ qs p.amount p.code eur cut).2 ≠ 0) : valueOfP p cut qs = (0, (convQ qs p.amount p.code eur cut).2) := by
 unfold valueOfP; rw [h, if_neg (by decide), h2, if_neg (by decide), if_neg h3, if_pos h4]
theorem va_flat {p : Prf} {cut : Int} {qs : List Quo} (h : proofErr p = 0) (h2 : dayB cut = true) (h3 : ¬ cut < p.inc) (h4 : (convQ qs p.amount p.code eur cut).2 = 0) (h5 : sgn p.rate.num = 0 ∨ cut < p.rf) : valueOfP p cut qs = ((convQ qs p.amount p.code eur cut).1, 0) := by
 unfold valueOfP; rw [h, if_neg (by decide), h2, if_neg (by decide), if_neg h3, if_neg (fun k => k h4), if_pos h5]
theorem va_more {p : Prf} {cut : Int} {qs : List Quo} (h : proofErr p = 0) (h2 : dayB cut = true) (h3 : ¬ cut < p.inc) (h4 : (convQ qs p.amount p.code eur cut).2 = 0) (h5 : ¬ (sgn p.rate.num = 0 ∨ cut < p.rf)) :
  valueOfP p cut qs = ((convQ qs p.amount p.code eur cut).1 + (simpR (convQ qs p.amount p.code eur cut).1 [p.step] p.rf cut 365).1, 0) := by
 unfold valueOfP; rw [h, if_neg (by decide), h2, if_neg (by decide), if_neg h3, if_neg (fun k => k h4), if_neg h5]
end Go.Proofs.YtlkhoommpkndpaaGreatDoor
set_option maxRecDepth 100000
set_option maxHeartbeats 2000000
namespace Go.Proofs.YtlkhoommpkndpaaGreatDoor
open Go.RowKit
def entV (e : Ent) : Value := .agg #[.string (bs e.p.id), .int .i64 e.p.est, .int .i64 e.p.cre, .string (bs e.p.code), .bool e.p.an, .string (bs e.p.aa), .string (bs e.p.ab), .int .i64 e.p.inc, .int .i64 e.p.rank, .bool e.p.rn, .string (bs e.p.ra), .string (bs e.p.rb), .int .i64 e.p.rf, .int .i64 e.p.sec, .int .i64 e.st, .bool e.late, .bool e.cl.n, .string (bs e.cl.a), .string (bs e.cl.b), .bool e.fl.n, .string (bs e.fl.a), .string (bs e.fl.b), .bool e.ad.n, .string (bs e.ad.a), .string (bs e.ad.b), .bool e.ce.n, .string (bs e.ce.a), .string (bs e.ce.b), .int .i64 e.acq, .int .i64 e.chg]
def Prf.fit (p : Prf) : Prop := (p.id.length ≤ 9223372036854775807 ∧ p.code.length ≤ 9223372036854775807 ∧ p.aa.length ≤ 9223372036854775807 ∧ p.ab.length ≤ 9223372036854775807 ∧ p.ra.length ≤ 9223372036854775807 ∧ p.rb.length ≤ 9223372036854775807) ∧ (Lit.int .i64 p.est).wf = true ∧ (Lit.int .i64 p.cre).wf = true ∧ (Lit.int .i64 p.inc).wf = true ∧ (Lit.int .i64 p.rank).wf = true ∧ (Lit.int .i64 p.rf).wf = true ∧ (Lit.int .i64 p.sec).wf = true
def Raw3.fit (t : Raw3) : Prop := t.a.length ≤ 9223372036854775807 ∧ t.b.length ≤ 9223372036854775807
def Ent.fit (e : Ent) : Prop := e.p.fit ∧ (e.cl.fit ∧ e.fl.fit ∧ e.ad.fit ∧ e.ce.fit) ∧ (Lit.int .i64 e.st).wf = true ∧ (Lit.int .i64 e.acq).wf = true ∧ (Lit.int .i64 e.chg).wf = true
theorem ent_wide : (match Tryz.prog.underlying 63 with | some (.array _ _) | some (.struct _) => true | _ => false) = true := by kernel_rfl
theorem ent_deep : Tryz.prog.keyTypeAt 5 63 = true := by kernel_rfl
theorem ent_key (e : Ent) (h : e.fit) : ∃ k, keyOf Tryz.prog 63 (entV e) = some k := by
 obtain ⟨⟨⟨h1, h2, h3, h4, h5, h6⟩, w1, w2, w3, w4, w5, w6⟩, ⟨⟨a1, a2⟩, ⟨b1, b2⟩, ⟨c1, c2'⟩, ⟨d1, d2⟩⟩, v1, v2, v3⟩ := h
 have hu := Tryz.underlying63
 have hp := Tryz.underlying36
 have hr := Tryz.underlying34
 obtain ⟨n, hs⟩ : ∃ n, Tryz.prog.types.size = n + 1 + 1 + 1 + 1 := ⟨Tryz.prog.types.size - 4, by have h : 4 ≤ Tryz.prog.types.size := of_decide_eq_true (by kernel_rfl); omega⟩
 have hkt : Tryz.prog.keyType 63 = true := by kernel_rfl
 have c30 : Tryz.prog.cellsOf 63 = 30 := by kernel_rfl
 have c14 : Tryz.prog.cellsOf 36 = 14 := by kernel_rfl
 have c2 : Tryz.prog.cellsOf 34 = 3 := by kernel_rfl
 have c9 : Tryz.prog.cellsOf 9 = 1 := by kernel_rfl
 have c4 : Tryz.prog.cellsOf 4 = 1 := by kernel_rfl
 have c3 : Tryz.prog.cellsOf 3 = 1 := by kernel_rfl
 have u9 := Tryz.underlying9
 have u4 := Tryz.underlying4
 have u3 := Tryz.underlying3
 have sz : ∀ l : List UInt8, l.length ≤ 9223372036854775807 → (bs l).size ≤ maxLen := fun l hl => by rw [bs_size]; unfold maxLen; omega
 unfold keyOf entV
 rw [hu]
 have hf : (Value.agg #[Value.string (bs e.p.id), Value.int .i64 e.p.est, Value.int .i64 e.p.cre, Value.string (bs e.p.code), Value.bool e.p.an, Value.string (bs e.p.aa), Value.string (bs e.p.ab), Value.int .i64 e.p.inc, Value.int .i64 e.p.rank, Value.bool e.p.rn, Value.string (bs e.p.ra), Value.string (bs e.p.rb), Value.int .i64 e.p.rf, Value.int .i64 e.p.sec, Value.int .i64 e.st, Value.bool e.late, Value.bool e.cl.n, Value.string (bs e.cl.a), Value.string (bs e.cl.b), Value.bool e.fl.n, Value.string (bs e.fl.a), Value.string (bs e.fl.b), Value.bool e.ad.n, Value.string (bs e.ad.a), Value.string (bs e.ad.b), Value.bool e.ce.n, Value.string (bs e.ce.a), Value.string (bs e.ce.b), Value.int .i64 e.acq, Value.int .i64 e.chg]).formed Tryz.prog 63 = true := by
  simp [Value.formed, hu, c30]
 rw [hkt, hf, hs]
 have ks : ∀ (k : Nat) (a : List UInt8), (bs a).size ≤ maxLen → Tryz.prog.keyLits (k + 1) 9 [.string (bs a)] = some [.string a] := by
  intro k a ha
  simp [Program.keyLits, u9, ha, bs_list]
 have kb : ∀ (k : Nat) (a : Bool), Tryz.prog.keyLits (k + 1) 4 [.bool a] = some [.bool a] := by
  intro k a
  simp [Program.keyLits, u4]
 have kr : ∀ (k : Nat) (ng : Bool) (a b : List UInt8), (bs a).size ≤ maxLen → (bs b).size ≤ maxLen → Tryz.prog.keyLits (k + 1 + 1) 34 [.bool ng, .string (bs a), .string (bs b)] = some [.bool ng, .string a, .string b] := by
  intro k ng a b ha hb
  simp [Program.keyLits, hr, c2, c9, c4, u9, u4, ha, hb, bs_list]
 have ki : ∀ (k : Nat) (z : Int), (Lit.int .i64 z).wf = true → Tryz.prog.keyLits (k + 1) 3 [.int .i64 z] = some [.int .i64 z] := by
  intro k z hz
  simp [Program.keyLits, u3, hz]
 have kp : Tryz.prog.keyLits (n + 4) 36 [.string (bs e.p.id), .int .i64 e.p.est, .int .i64 e.p.cre, .string (bs e.p.code), .bool e.p.an, .string (bs e.p.aa), .string (bs e.p.ab), .int .i64 e.p.inc, .int .i64 e.p.rank, .bool e.p.rn, .string (bs e.p.ra), .string (bs e.p.rb), .int .i64 e.p.rf, .int .i64 e.p.sec] = some [.string e.p.id, .int .i64 e.p.est, .int .i64 e.p.cre, .string e.p.code, .bool e.p.an, .string e.p.aa, .string e.p.ab, .int .i64 e.p.inc, .int .i64 e.p.rank, .bool e.p.rn, .string e.p.ra, .string e.p.rb, .int .i64 e.p.rf, .int .i64 e.p.sec] := by
  have k1 := ks (n + 2) e.p.id (sz _ h1)
  have k2 := ki (n + 2) e.p.est w1
  have k3 := ki (n + 2) e.p.cre w2
  have k4 := ks (n + 2) e.p.code (sz _ h2)
  have k5 := kr (n + 1) e.p.an e.p.aa e.p.ab (sz _ h3) (sz _ h4)
  have k6 := ki (n + 2) e.p.inc w3
  have k7 := ki (n + 2) e.p.rank w4
  have k8 := kr (n + 1) e.p.rn e.p.ra e.p.rb (sz _ h5) (sz _ h6)
  have k9 := ki (n + 2) e.p.rf w5
  have kA := ki (n + 2) e.p.sec w6
  unfold Program.keyLits
  rw [hp]
  simp [c14, c2, c3, c9, k1, k2, k3, k4, k5, k6, k7, k8, k9, kA]
 have hl : Tryz.prog.keyLits (n + 1 + 1 + 1 + 1 + 1) 63 [.string (bs e.p.id), .int .i64 e.p.est, .int .i64 e.p.cre, .string (bs e.p.code), .bool e.p.an, .string (bs e.p.aa), .string (bs e.p.ab), .int .i64 e.p.inc, .int .i64 e.p.rank, .bool e.p.rn, .string (bs e.p.ra), .string (bs e.p.rb), .int .i64 e.p.rf, .int .i64 e.p.sec, .int .i64 e.st, .bool e.late, .bool e.cl.n, .string (bs e.cl.a), .string (bs e.cl.b), .bool e.fl.n, .string (bs e.fl.a), .string (bs e.fl.b), .bool e.ad.n, .string (bs e.ad.a), .string (bs e.ad.b), .bool e.ce.n, .string (bs e.ce.a), .string (bs e.ce.b), .int .i64 e.acq, .int .i64 e.chg] = some [.string e.p.id, .int .i64 e.p.est, .int .i64 e.p.cre, .string e.p.code, .bool e.p.an, .string e.p.aa, .string e.p.ab, .int .i64 e.p.inc, .int .i64 e.p.rank, .bool e.p.rn, .string e.p.ra, .string e.p.rb, .int .i64 e.p.rf, .int .i64 e.p.sec, .int .i64 e.st, .bool e.late, .bool e.cl.n, .string e.cl.a, .string e.cl.b, .bool e.fl.n, .string e.fl.a, .string e.fl.b, .bool e.ad.n, .string e.ad.a, .string e.ad.b, .bool e.ce.n, .string e.ce.a, .string e.ce.b, .int .i64 e.acq, .int .i64 e.chg] := by
  have k1 := ki (n + 3) e.st v1
  have k2 := kb (n + 3) e.late
  have k3 := kr (n + 2) e.cl.n e.cl.a e.cl.b (sz _ a1) (sz _ a2)
  have k4 := kr (n + 2) e.fl.n e.fl.a e.fl.b (sz _ b1) (sz _ b2)
  have k5 := kr (n + 2) e.ad.n e.ad.a e.ad.b (sz _ c1) (sz _ c2')
  have k6 := kr (n + 2) e.ce.n e.ce.a e.ce.b (sz _ d1) (sz _ d2)
  have k7 := ki (n + 3) e.acq v2
  have k8 := ki (n + 3) e.chg v3
  unfold Program.keyLits
  rw [hu]
  simp [c30, c14, c2, c3, c4, kp, k1, k2, k3, k4, k5, k6, k7, k8]
 simp [Value.cells, hl]
theorem ent_neq (e : Ent) (h : e.fit) (w : World) : (binOp .neq 63 (entV e) (entV e)).run Tryz.prog w = .ok (.bool false) w := by
 obtain ⟨k, hk⟩ := ent_key e h
 obtain ⟨r, hr, hiff⟩ := run_equal_deep w (m := 5) (by omega) ent_deep ent_wide hk hk
 have hry : r = true := hiff.2 rfl
 subst hry
 unfold entV at hr ⊢
 simp only [binOp]
 simp [hr, Result.andThen]
end Go.Proofs.YtlkhoommpkndpaaGreatDoor
