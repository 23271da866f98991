/-
Part 1 of the base.
-/
import Derived.Test.YtgdhpghfojccaaaDoorReg
import Derived.Lib.BitFns
namespace Go.Proofs.YtgdhpghfojccaaaDoor
def lv : List Nat -> Nat
 | [] => 0
 | x :: xs => x + 4294967296 * lv xs
def bv (l : List UInt8) : Nat := l.foldl (fun a b => a * 256 + b.toNat) 0
def Small (xs : List Nat) : Prop := ∀ x ∈ xs, x < 4294967296
theorem a3y : lv [] = 0 := rfl
theorem a1r (x : Nat) (xs : List Nat) : lv (x :: xs) = x + 4294967296 * lv xs := rfl
theorem a4n (xs ys : List Nat) : lv (xs ++ ys) = lv xs + 4294967296 ^ xs.length * lv ys := by
 induction xs with
 | nil => simp [lv]
 | cons x xs ih =>
  simp only [List.cons_append, a1r, ih, List.length_cons, Nat.pow_succ, Nat.mul_add]
  rw [Nat.mul_comm (4294967296 ^ xs.length) 4294967296, Nat.mul_assoc, Nat.add_assoc]
theorem lv_snoc (xs : List Nat) (x : Nat) : lv (xs ++ [x]) = lv xs + 4294967296 ^ xs.length * x := by
 rw [a4n]; simp [lv]
theorem a5f (xs : List Nat) (h : Small xs) : lv xs < 4294967296 ^ xs.length := by
 induction xs with
 | nil => simp [lv]
 | cons x xs ih =>
  have hx : x < 4294967296 := h x (by simp)
  have hs := ih (fun y hy => h y (by simp [hy]))
  simp only [a1r, List.length_cons, Nat.pow_succ]
  have : lv xs + 1 <= 4294967296 ^ xs.length := hs
  have := Nat.mul_le_mul_left 4294967296 this
  omega
theorem a6k (n : Nat) : lv (List.replicate n 0) = 0 := by
 induction n with
 | zero => rfl
 | succ n ih => simp [List.replicate_succ, a1r, ih]
theorem a8d : Small [] := by simp [Small]
theorem small_append {xs ys : List Nat} : Small (xs ++ ys) ↔ Small xs /\ Small ys := by
 simp [Small, or_imp, forall_and]
theorem small_cons {x : Nat} {xs : List Nat} : Small (x :: xs) ↔ x < 4294967296 /\ Small xs := by simp [Small]
theorem Small.take {xs : List Nat} (h : Small xs) (k : Nat) : Small (xs.take k) := fun x hx => h x (List.mem_of_mem_take hx)
theorem Small.drop {xs : List Nat} (h : Small xs) (k : Nat) : Small (xs.drop k) := fun x hx => h x (List.mem_of_mem_drop hx)
theorem Small.get {xs : List Nat} (h : Small xs) (k : Nat) : xs.getD k 0 < 4294967296 := by
 rw [List.getD_eq_getElem?_getD]
 rcases Nat.lt_or_ge k xs.length with hk | hk
 ·rw [List.getElem?_eq_getElem hk]; exact h _ (List.getElem_mem hk)
 rw [List.getElem?_eq_none hk]; decide
def limbsOf (n : Nat) : List Nat :=
 if h : n = 0 then [] else n % 4294967296 :: limbsOf (n / 4294967296)
termination_by n
decreasing_by omega
theorem a0x : limbsOf 0 = [] := by rw [limbsOf]; simp
theorem a2b {n : Nat} (h : n ≠ 0) : limbsOf n = n % 4294967296 :: limbsOf (n / 4294967296) := by
 rw [limbsOf]; simp [h]
theorem a0r (n : Nat) : lv (limbsOf n) = n := by
 induction n using limbsOf.induct with
 | case1 => rw [a0x]; rfl
 | case2 n h ih => rw [a2b h, a1r, ih]; omega
theorem b1k (n : Nat) : Small (limbsOf n) := by
 induction n using limbsOf.induct with
 | case1 => rw [a0x]; exact a8d
 | case2 n h ih => rw [a2b h, small_cons]; exact ⟨by omega, ih⟩
def a2t (xs : List Nat) : Prop := xs.getLast? ≠ some 0
theorem a3x : ∀ {xs : List Nat}, xs ≠ [] -> a2t xs -> 0 < lv xs
 | [x], _, h => by
  have : x ≠ 0 := by intro e; subst e; exact h rfl
  simp [lv]; omega
 | x :: y :: ys, _, h => by
  have h' : a2t (y :: ys) := by simpa [a2t] using h
  have := a3x (xs := y :: ys) (by simp) h'
  rw [a1r]; omega
theorem b1b : ∀ {xs : List Nat}, Small xs -> a2t xs -> limbsOf (lv xs) = xs
 | [], _, _ => a0x
 | x :: xs, hs, ht => by
  have hp := a3x (xs := x :: xs) (by simp) ht
  obtain ⟨hx, hxs⟩ := small_cons.1 hs
  have ht' : a2t xs := by
   rcases xs with _ | ⟨y, ys⟩
   ·simp [a2t]
   simpa [a2t] using ht
  rw [a2b (by omega), a1r]
  have e1 : (x + 4294967296 * lv xs) % 4294967296 = x := by omega
  have e2 : (x + 4294967296 * lv xs) / 4294967296 = lv xs := by omega
  rw [e1, e2, b1b hxs ht']
theorem a5m {n : Nat} (h : n ≠ 0) : limbsOf n ≠ [] := by rw [a2b h]; simp
theorem limbsOf_eq_nil {n : Nat} : limbsOf n = [] ↔ n = 0 :=
 ⟨fun h => Decidable.byContradiction fun e => a5m e h, fun h => by subst h; exact a0x⟩
theorem a8b (n : Nat) : a2t (limbsOf n) := by
 induction n using limbsOf.induct with
 | case1 => rw [a0x]; simp [a2t]
 | case2 n h ih =>
  rw [a2b h]
  by_cases h2 : n / 4294967296 = 0
  ·rw [h2, a0x]; simp [a2t]; omega
  rw [a2b h2] at ih ⊢; simpa [a2t] using ih
theorem b1u (xs : List Nat) (n : Nat) (h : ∀ i, n <= i -> xs.getD i 0 = 0) : lv (xs.take n) = lv xs := by
 have h2 : lv (xs.drop n) = 0 := by
  have : xs.drop n = List.replicate (xs.length - n) 0 := by
   refine List.ext_getElem (by simp) fun i h1 h2 => ?_
   rw [List.getElem_drop, List.getElem_replicate]
   have := h (n + i) (by omega)
   rw [List.getD_eq_getElem?_getD, List.getElem?_eq_getElem (by simp at h1; omega)] at this
   simpa using this
  rw [this, a6k]
 have h3 := a4n (xs.take n) (xs.drop n)
 rw [List.take_append_drop, h2] at h3
 omega
theorem b2q (xs : List Nat) (n : Nat) (hs : Small xs) (hn : n <= xs.length) (h : ∀ i, n <= i -> xs.getD i 0 = 0) (h0 : n = 0 \/ xs.getD (n - 1) 0 ≠ 0) :
  xs.take n = limbsOf (lv xs) := by
 rw [<- b1u xs n h, b1b (hs.take n)]
 rcases Nat.eq_zero_or_pos n with rfl | hp
 ·simp [a2t]
 have h1 := h0.resolve_left (by omega)
 rw [a2t, List.getLast?_eq_getElem?, List.getElem?_take]
 simp only [List.length_take]
 rw [if_pos (by omega), show min n xs.length - 1 = n - 1 by omega]
 rw [List.getD_eq_getElem?_getD, List.getElem?_eq_getElem (by omega)] at h1
 rw [List.getElem?_eq_getElem (by omega)]
 simpa using h1
theorem b0y (xs : List Nat) (i x : Nat) (h : i < xs.length) : lv (xs.set i x) + 4294967296 ^ i * xs.getD i 0 = lv xs + 4294967296 ^ i * x := by
 induction xs generalizing i with
 | nil => simp at h
 | cons y ys ih =>
  cases i with
  | zero => simp [a1r]; omega
  | succ i =>
   have := ih i (by simpa using h)
   simp only [List.set_cons_succ, a1r, List.getD_cons_succ, Nat.pow_succ]
   have e : ∀ a b : Nat, a * 4294967296 * b = 4294967296 * (a * b) := fun a b => by rw [Nat.mul_comm a, Nat.mul_assoc]
   rw [e, e]; omega
/-! ### bytes -/
theorem b6m (l : List UInt8) (a : Nat) : l.foldl (fun a b => a * 256 + b.toNat) a = a * 256 ^ l.length + bv l := by
 induction l generalizing a with
 | nil => simp [bv]
 | cons x xs ih =>
  simp only [List.foldl_cons, List.length_cons, bv, Nat.zero_mul, Nat.zero_add]
  rw [ih, ih x.toNat, Nat.pow_succ, Nat.add_mul, Nat.mul_assoc, Nat.mul_comm 256, Nat.add_assoc]
theorem b6k : bv [] = 0 := rfl
theorem a9n (x : UInt8) (xs : List UInt8) : bv (x :: xs) = x.toNat * 256 ^ xs.length + bv xs := by
 show List.foldl _ _ _ = _
 rw [List.foldl_cons, b6m]; simp
theorem b9y (xs ys : List UInt8) : bv (xs ++ ys) = bv xs * 256 ^ ys.length + bv ys := by
 show List.foldl _ _ _ = _
 rw [List.foldl_append, b6m]; rfl
theorem b9x (xs : List UInt8) (x : UInt8) : bv (xs ++ [x]) = bv xs * 256 + x.toNat := by
 rw [b9y]; simp [bv]
theorem b4z (l : List UInt8) : bv l < 256 ^ l.length := by
 induction l with
 | nil => simp [bv]
 | cons x xs ih =>
  rw [a9n, List.length_cons, Nat.pow_succ]
  have hx : x.toNat <= 255 := by have := x.toNat_lt; omega
  have := Nat.mul_le_mul_right (256 ^ xs.length) hx
  omega
def bytesOf (n : Nat) : List UInt8 :=
 if _h : n = 0 then [] else bytesOf (n / 256) ++ [UInt8.ofNat (n % 256)]
termination_by n
decreasing_by omega
theorem a0s : bytesOf 0 = [] := by rw [bytesOf]; simp
theorem a3k {n : Nat} (h : n ≠ 0) : bytesOf n = bytesOf (n / 256) ++ [UInt8.ofNat (n % 256)] := by
 rw [bytesOf]; simp [h]
theorem a0a (n : Nat) : bv (bytesOf n) = n := by
 induction n using bytesOf.induct with
 | case1 => rw [a0s]; rfl
 | case2 n h ih =>
  rw [a3k h, b9x, ih]
  have : (UInt8.ofNat (n % 256)).toNat = n % 256 := by simp
  omega
def norm (l : List UInt8) : List UInt8 := l.dropWhile (· == 0)
theorem b1r : norm [] = [] := rfl
theorem a8r (x : UInt8) (xs : List UInt8) : norm (x :: xs) = if x = 0 then norm xs else x :: xs := by
 unfold norm; rw [List.dropWhile_cons]; by_cases h : x = 0 <;> simp [h]
theorem rev_ind {α : Type} {P : List α -> Prop} (h0 : P []) (h1 : ∀ xs x, P xs -> P (xs ++ [x])) (l : List α) : P l := by
 have : ∀ n, ∀ l : List α, l.length = n -> P l := by
  intro n
  induction n with
  | zero => intro l hl; rw [List.length_eq_zero_iff] at hl; subst hl; exact h0
  | succ n ih =>
   intro l hl
   rcases List.eq_nil_or_concat l with rfl | ⟨xs, x, rfl⟩
   ·exact h0
   rw [List.length_concat] at hl
   rw [List.concat_eq_append]
   exact h1 _ _ (ih _ (by omega))
 exact this _ l rfl
theorem a9m : ∀ (xs : List UInt8) (x : UInt8), x ≠ 0 -> bytesOf (bv (x :: xs)) = x :: xs := by
 refine rev_ind ?_ ?_
 ·intro x hx
  have h0 : x.toNat ≠ 0 := fun e => hx (UInt8.toNat_inj.1 (by simpa using e))
  have hx2 := x.toNat_lt
  rw [a9n]; simp only [List.length_nil, Nat.pow_zero, Nat.mul_one, b6k, Nat.add_zero]
  rw [a3k h0, show x.toNat / 256 = 0 by omega, a0s]
  simp [Nat.mod_eq_of_lt hx2]
 intro xs y ih x hx
 have e : bv (x :: (xs ++ [y])) = bv (x :: xs) * 256 + y.toNat := by rw [<- List.cons_append, b9x]
 have hy := y.toNat_lt
 have hne : bv (x :: xs) ≠ 0 := by
  rw [a9n]
  have h0 : x.toNat ≠ 0 := fun e => hx (UInt8.toNat_inj.1 (by simpa using e))
  have := Nat.mul_pos (Nat.pos_of_ne_zero h0) (Nat.pow_pos (n := xs.length) (show 0 < 256 by decide))
  omega
 rw [e, a3k (by omega), show (bv (x :: xs) * 256 + y.toNat) / 256 = bv (x :: xs) by omega, ih x hx,
  show (bv (x :: xs) * 256 + y.toNat) % 256 = y.toNat by omega]
 simp
theorem a5w (l : List UInt8) : norm l = bytesOf (bv l) := by
 induction l with
 | nil => rw [b1r, b6k, a0s]
 | cons x xs ih =>
  rw [a8r]
  by_cases h : x = 0
  ·subst h; rw [if_pos rfl, ih, a9n]; simp
  rw [if_neg h, a9m xs x h]
theorem bytesOf_eq_nil {n : Nat} : bytesOf n = [] ↔ n = 0 :=
 ⟨fun h => by have := a0a n; rw [h, b6k] at this; omega, fun h => by subst h; exact a0s⟩
theorem a4e {a b : Nat} (h : bytesOf a = bytesOf b) : a = b := by rw [<- a0a a, h, a0a]
theorem b4k {a b : Nat} (h : limbsOf a = limbsOf b) : a = b := by rw [<- a0r a, h, a0r]
theorem a0y (n : Nat) (k : Nat) (h : n < 256 ^ k) : (bytesOf n).length <= k := by
 induction n using bytesOf.induct generalizing k with
 | case1 => rw [a0s]; simp
 | case2 n h0 ih =>
  rw [a3k h0, List.length_append]
  rcases k with _ | k
  ·simp at h; omega
  have := ih k (by rw [Nat.pow_succ] at h; omega)
  simp; omega
theorem a1q (n : Nat) : n < 256 ^ (bytesOf n).length := by have := b4z (bytesOf n); rwa [a0a] at this
theorem a5n (n : Nat) : n < 4294967296 ^ (limbsOf n).length := by have := a5f _ (b1k n); rwa [a0r] at this
theorem a3u (n : Nat) (k : Nat) (h : n < 4294967296 ^ k) : (limbsOf n).length <= k := by
 induction n using limbsOf.induct generalizing k with
 | case1 => rw [a0x]; simp
 | case2 n h0 ih =>
  rw [a2b h0, List.length_cons]
  rcases k with _ | k
  ·simp at h; omega
  have := ih k (by rw [Nat.pow_succ] at h; omega)
  omega
theorem a6z (n : Nat) (h : n ≠ 0) : 4294967296 ^ ((limbsOf n).length - 1) <= n := by
 rcases Nat.lt_or_ge n (4294967296 ^ ((limbsOf n).length - 1)) with h1 | h1
 ·have := a3u n _ h1
  have : (limbsOf n).length ≠ 0 := fun e => a5m h (List.length_eq_zero_iff.1 e)
  omega
 exact h1
theorem a1h {a b : Nat} (h : (limbsOf a).length < (limbsOf b).length) : a < b := by
 have hb : b ≠ 0 := by intro e; subst e; rw [a0x] at h; simp at h
 have h1 := a5n a
 have h2 := a6z b hb
 have h3 : 4294967296 ^ (limbsOf a).length <= 4294967296 ^ ((limbsOf b).length - 1) := Nat.pow_le_pow_right (by decide) (by omega)
 omega
/-! ### Knuth's estimate of a digit. X = B^(n-2); D = (d1*B+d2)*X + D'; U = (top*B+u2)*X + U'. -/
theorem b4s {B X d1 d2 D' top u2 U' D U : Nat} (hX : 0 < X) (hB : 0 < B) (hd1 : 0 < d1)
  (hD : D = (d1 * B + d2) * X + D') (hU : U = (top * B + u2) * X + U') (hu2 : u2 < B) (hU' : U' < X) : U / D <= top / d1 := by
 have hDpos : 0 < D := by
  have := Nat.mul_pos (Nat.mul_pos hd1 hB) hX
  rw [hD, Nat.add_mul]; omega
 rw [Nat.le_div_iff_mul_le hd1]
 have h1 : U / D * D <= U := Nat.div_mul_le_self U D
 have h2 : U / D * d1 * (B * X) <= U / D * D := by
  rw [Nat.mul_assoc]
  apply Nat.mul_le_mul_left
  rw [hD, Nat.add_mul, Nat.mul_assoc]; omega
 have h3 : U < (top + 1) * (B * X) := by
  have : (u2 + 1) * X <= B * X := Nat.mul_le_mul_right X hu2
  rw [hU, Nat.add_mul, Nat.add_mul, Nat.mul_assoc, Nat.one_mul]
  rw [Nat.add_mul, Nat.one_mul] at this
  omega
 have h4 : U / D * d1 * (B * X) < (top + 1) * (B * X) := by omega
 exact Nat.lt_succ_iff.1 (Nat.lt_of_mul_lt_mul_right h4)
theorem b7g {B X d1 d2 D' top u2 U' D U g : Nat} (hD : D = (d1 * B + d2) * X + D') (hU : U = (top * B + u2) * X + U') (hU' : U' < X)
  (hDpos : 0 < D) (h : top * B + u2 < g * (d1 * B + d2)) : U / D < g := by
 rw [Nat.div_lt_iff_lt_mul hDpos]
 have h1 : (top * B + u2 + 1) * X <= g * (d1 * B + d2) * X := Nat.mul_le_mul_right X h
 have h2 : g * (d1 * B + d2) * X <= g * D := by
  rw [Nat.mul_assoc]
  apply Nat.mul_le_mul_left
  omega
 rw [Nat.add_mul, Nat.one_mul] at h1
 omega
theorem b9s {B X d1 d2 D' top u2 U' D U g : Nat} (hD : D = (d1 * B + d2) * X + D') (hU : U = (top * B + u2) * X + U') (hD' : D' < X)
  (hB : 0 < B) (hd1 : 0 < d1) (hg : g <= B) (h : g * (d1 * B + d2) <= top * B + u2) : g * D < U + D := by
 have h1 : g * (d1 * B + d2) * X <= (top * B + u2) * X := Nat.mul_le_mul_right X h
 have h2 : g * D' <= B * X := by
  have := Nat.mul_le_mul hg (Nat.le_of_lt hD')
  exact this
 have h3 : B * X <= d1 * B * X := by
  rw [Nat.mul_assoc]; exact Nat.le_mul_of_pos_left _ hd1
 have h4 : g * D = g * (d1 * B + d2) * X + g * D' := by rw [hD, Nat.mul_add, Nat.mul_assoc]
 have h5 : (d1 * B + d2) * X = d1 * B * X + d2 * X := Nat.add_mul _ _ _
 by_cases hD0 : D' = 0
 ·subst hD0
  simp at h4
  rcases Nat.eq_zero_or_pos X with h0 | h0
  ·omega
  have : 0 < d1 * B * X := Nat.mul_pos (Nat.mul_pos hd1 hB) h0
  omega
 omega
theorem b7h {U D g : Nat} (hD : 0 < D) (h1 : U / D <= g) (h2 : g * D < U + D) : g = U / D \/ g = U / D + 1 := by
 have h3 := Nat.div_add_mod U D
 have h4 := Nat.mod_lt U hD
 by_cases e : g <= U / D + 1
 ·omega
 exfalso
 have : (U / D + 2) * D <= g * D := Nat.mul_le_mul_right D (by omega)
 rw [Nat.add_mul] at this
 rw [Nat.mul_comm] at h3
 omega
/-! ### A rational number as the program holds it: a sign, a numerator, a denominator (none: 1) -/
def denB (n : Nat) : List UInt8 := if n = 1 then [] else bytesOf n
def denN (l : List UInt8) : Nat := if l = [] then 1 else bv l
def negB (q : Rat) : Bool := decide (q < 0)
def numB (q : Rat) : List UInt8 := bytesOf q.num.natAbs
def a0j (q : Rat) : List UInt8 := denB q.den
theorem a0v : bytesOf 1 = [1] := by rw [a3k (by decide), a0s]; rfl
def a2y (neg : Bool) (num den : List UInt8) : Bool :=
 norm num == num && norm den == den && (if num = [] then !neg && den == [] else den == [] || (!(den == [1]) && Nat.gcd (bv num) (bv den) == 1))
def signed (neg : Bool) (n : Nat) : Int := if neg then -(n : Int) else n
def decR (neg : Bool) (num den : List UInt8) : Rat := if a2y neg num den then mkRat (signed neg (bv num)) (denN den) else 0
theorem a8s (q : Rat) : q < 0 ↔ q.num < 0 := by
 have := @Rat.num_nonneg q
 constructor
 ·intro h
  rcases Int.lt_or_le q.num 0 with h1 | h1
  ·exact h1
  exact absurd (this.1 h1) (Rat.not_le.2 h)
 intro h
 exact Rat.not_le.1 (fun h1 => by have := this.2 h1; omega)
theorem a4w (q : Rat) : signed (negB q) q.num.natAbs = q.num := by
 unfold signed negB
 by_cases h : q < 0
 ·have := (a8s q).1 h; simp [h]; omega
 have : ¬ q.num < 0 := fun h1 => h ((a8s q).2 h1)
 simp [h]; omega
theorem a7j {den : List UInt8} (h : norm den = den) : denN den ≠ 0 := by
 unfold denN
 by_cases e : den = []
 ·simp [e]
 rw [if_neg e]
 intro h0
 rw [a5w, h0, a0s] at h
 exact e h.symm
theorem gcd_denN {num den : List UInt8} {neg : Bool} (h : a2y neg num den = true) : Nat.gcd (bv num) (denN den) = 1 := by
 unfold a2y at h
 simp only [Bool.and_eq_true, beq_iff_eq] at h
 obtain ⟨⟨h1, h2⟩, h3⟩ := h
 unfold denN
 by_cases e : num = []
 ·rw [if_pos e] at h3; simp at h3; simp [h3.2, e]
 rw [if_neg e] at h3
 by_cases e2 : den = []
 ·simp [e2]
 rw [if_neg e2]; simp [e2] at h3; exact h3.2
theorem a6x {n : Int} {d : Nat} (hd : d ≠ 0) (h : Nat.gcd n.natAbs d = 1) : (mkRat n d).num = n /\ (mkRat n d).den = d := by
 rw [Rat.num_mkRat, Rat.den_mkRat, if_neg hd, if_neg hd, Nat.gcd_comm, h]; simp
theorem a1x (b : Bool) (n : Nat) : (signed b n).natAbs = n := by unfold signed; cases b <;> simp
theorem enc_dec {neg : Bool} {num den : List UInt8} (h : a2y neg num den = true) :
  negB (decR neg num den) = neg /\ numB (decR neg num den) = num /\ a0j (decR neg num den) = den := by
 have hg := gcd_denN h
 have h' := h
 unfold a2y at h
 simp only [Bool.and_eq_true, beq_iff_eq] at h
 obtain ⟨⟨h1, h2⟩, h3⟩ := h
 have hd := a7j h2
 have e := a6x (n := signed neg (bv num)) (d := denN den) hd (by rw [a1x]; exact hg)
 unfold decR
 rw [if_pos h']
 refine ⟨?_, ?_, ?_⟩
 ·have := a8s (mkRat (signed neg (bv num)) (denN den))
  rw [e.1] at this
  unfold negB
  rw [Bool.eq_iff_iff, decide_eq_true_iff, this]
  unfold signed
  by_cases e0 : num = []
  ·rw [if_pos e0] at h3; simp at h3; simp [h3.1]
  have : bv num ≠ 0 := fun e1 => e0 (by rw [a5w, e1, a0s] at h1; exact h1.symm)
  cases neg <;> simp <;> omega
 ·unfold numB; rw [e.1, a1x, <- a5w]; exact h1
 unfold a0j denB; rw [e.2]
 unfold denN
 by_cases e0 : den = []
 ·simp [e0]
 rw [if_neg e0]
 have : bv den ≠ 1 := by
  intro e1
  have hd1 : den = [1] := by rw [a5w, e1, a0v] at h2; exact h2.symm
  by_cases e2 : num = []
  ·rw [if_pos e2] at h3; simp at h3; exact e0 h3.2
  rw [if_neg e2] at h3; simp [hd1] at h3
 rw [if_neg this, <- a5w]; exact h2
theorem b4x {neg : Bool} {num den : List UInt8} (h : a2y neg num den = false) : decR neg num den = 0 := by
 unfold decR; rw [h]; simp
theorem b6g : negB 0 = false /\ numB 0 = [] /\ a0j 0 = [] := by
 refine ⟨by decide, ?_, ?_⟩
 ·show bytesOf 0 = []; exact a0s
 show denB 1 = []; rfl
theorem b3x {neg : Bool} {n d : Nat} (hd : d ≠ 0) :
  (n = 0 -> mkRat (signed neg n) d = 0) /\
  (n ≠ 0 -> negB (mkRat (signed neg n) d) = neg /\ numB (mkRat (signed neg n) d) = bytesOf (n / Nat.gcd n d) /\ a0j (mkRat (signed neg n) d) = denB (d / Nat.gcd n d)) := by
 refine ⟨fun h => by subst h; simp [signed], fun h => ⟨?_, ?_, ?_⟩⟩
 ·have hq := a8s (mkRat (signed neg n) d)
  unfold negB
  rw [Bool.eq_iff_iff, decide_eq_true_iff, hq, Rat.num_mkRat, if_neg hd, a1x, Nat.gcd_comm]
  have hg : 0 < Nat.gcd n d := Nat.gcd_pos_of_pos_right n (by omega)
  have hle : Nat.gcd n d <= n := Nat.le_of_dvd (by omega) (Nat.gcd_dvd_left n d)
  have h1 : 0 < n / Nat.gcd n d := Nat.div_pos hle hg
  unfold signed
  cases neg
  ·simp; exact Int.ediv_nonneg (by omega) (by omega)
  simp only [if_true, iff_true]
  rw [Int.neg_ediv_of_dvd (by exact_mod_cast Nat.gcd_dvd_left n d)]
  have : ((n / Nat.gcd n d : Nat) : Int) = (n : Int) / (Nat.gcd n d : Int) := by simp
  omega
 ·unfold numB; rw [Rat.num_mkRat, if_neg hd, a1x, Nat.gcd_comm]
  congr 1
  unfold signed
  cases neg
  ·simp only [Bool.false_eq_true, if_false]
   rw [show (n : Int) / (Nat.gcd n d : Int) = ((n / Nat.gcd n d : Nat) : Int) by simp, Int.natAbs_natCast]
  simp only [if_true]
  rw [Int.neg_ediv_of_dvd (by exact_mod_cast Nat.gcd_dvd_left n d), Int.natAbs_neg,
   show (n : Int) / (Nat.gcd n d : Int) = ((n / Nat.gcd n d : Nat) : Int) by simp, Int.natAbs_natCast]
 unfold a0j; rw [Rat.den_mkRat, if_neg hd, a1x, Nat.gcd_comm]
theorem B_pow (n : Nat) : (256 : Nat) ^ n = 4294967296 ^ (n / 4) * 2 ^ (8 * (n % 4)) := by
 have h : n = 4 * (n / 4) + n % 4 := by omega
 have e : (256 : Nat) ^ n = 256 ^ (4 * (n / 4) + n % 4) := congrArg _ h
 rw [e, Nat.pow_add, Nat.pow_mul, Nat.pow_mul]
theorem b0z (xs : List Nat) (j : Nat) : 4294967296 ^ j * xs.getD j 0 <= lv xs := by
 induction xs generalizing j with
 | nil => simp
 | cons x xs ih =>
  cases j with
  | zero => simp [a1r]
  | succ j =>
   have := ih j
   rw [List.getD_cons_succ, a1r, Nat.pow_succ, Nat.mul_comm (4294967296 ^ j), Nat.mul_assoc]
   omega
theorem b8q {x b m : Nat} (hx : x < 2 ^ m) : x ||| b * 2 ^ m = x + b * 2 ^ m := by
 rw [Nat.or_comm, Nat.mul_comm b, <- Nat.two_pow_add_eq_or_of_lt hx, Nat.add_comm]
theorem a3c {a b c : Nat} (h : a * b < a * c) : b < c := Nat.lt_of_mul_lt_mul_left h
theorem b6w {xs : List Nat} {i x b : Nat} (hlt : lv xs < 256 ^ i) (hx : x = xs.getD (i / 4) 0) (hi : i / 4 < xs.length) (hb : b < 256) :
  x + b * 2 ^ (8 * (i % 4)) < 4294967296 /\ x ||| (b % 4294967296 * 2 ^ (8 * (i % 4)) % 4294967296) = x + b * 2 ^ (8 * (i % 4)) /\
  lv (xs.set (i / 4) (x + b * 2 ^ (8 * (i % 4)))) = lv xs + b * 256 ^ i := by
 have h1 := b0z xs (i / 4)
 rw [<- hx] at h1
 have h2 : x < 2 ^ (8 * (i % 4)) := by
  refine a3c (a := 4294967296 ^ (i / 4)) ?_
  rw [<- B_pow]; omega
 have h3 : x + b * 2 ^ (8 * (i % 4)) < 256 * 2 ^ (8 * (i % 4)) := by
  have : b * 2 ^ (8 * (i % 4)) + 2 ^ (8 * (i % 4)) <= 256 * 2 ^ (8 * (i % 4)) := by
   rw [<- Nat.succ_mul]; exact Nat.mul_le_mul_right _ hb
  omega
 have h4 : 256 * 2 ^ (8 * (i % 4)) <= 4294967296 := by
  have : 2 ^ (8 * (i % 4)) <= 2 ^ 24 := Nat.pow_le_pow_right (by decide) (by omega)
  have e : (2 : Nat) ^ 24 = 16777216 := by decide
  omega
 refine ⟨by omega, ?_, ?_⟩
 ·rw [Nat.mod_eq_of_lt (show b < 4294967296 by omega), Nat.mod_eq_of_lt (by omega), b8q h2]
 have := b0y xs (i / 4) (x + b * 2 ^ (8 * (i % 4))) hi
 rw [<- hx, Nat.mul_add] at this
 rw [B_pow i, Nat.mul_left_comm]
 omega
theorem a7k (l : List UInt8) (i : Nat) (hi : i < l.length) : bv (l.drop (l.length - (i + 1))) = bv (l.drop (l.length - i)) + (l.getD (l.length - 1 - i) 0).toNat * 256 ^ i := by
 have h : l.drop (l.length - (i + 1)) = l.getD (l.length - 1 - i) 0 :: l.drop (l.length - i) := by
  rw [show l.length - (i + 1) = l.length - 1 - i by omega, List.drop_eq_getElem_cons (by omega)]
  congr 1
  ·rw [List.getD_eq_getElem?_getD, List.getElem?_eq_getElem (by omega)]; rfl
  rw [show l.length - 1 - i + 1 = l.length - i by omega]
 rw [h, a9n, List.length_drop, show l.length - (l.length - i) = i by omega, Nat.add_comm]
theorem b7n (l : List UInt8) (i : Nat) (hi : i <= l.length) : bv (l.drop (l.length - i)) < 256 ^ i := by
 have := b4z (l.drop (l.length - i))
 rwa [List.length_drop, show l.length - (l.length - i) = i by omega] at this
theorem a7x (xs : List Nat) (hs : Small xs) (j : Nat) : xs.getD j 0 = lv xs / 4294967296 ^ j % 4294967296 := by
 induction xs generalizing j with
 | nil => simp [lv]
 | cons x xs ih =>
  obtain ⟨hx, hxs⟩ := small_cons.1 hs
  cases j with
  | zero => rw [List.getD_cons_zero, a1r]; omega
  | succ j =>
   rw [List.getD_cons_succ, ih hxs, a1r, Nat.pow_succ, Nat.mul_comm (4294967296 ^ j), <- Nat.div_div_eq_div_mul]
   congr 2; omega
theorem b8a (xs : List Nat) (hs : Small xs) (i : Nat) : xs.getD (i / 4) 0 / 2 ^ (8 * (i % 4)) % 256 = lv xs / 256 ^ i % 256 := by
 rw [a7x xs hs, B_pow i, <- Nat.div_div_eq_div_mul]
 have h : (4294967296 : Nat) = 2 ^ (8 * (i % 4)) * (256 * 2 ^ (24 - 8 * (i % 4))) := by
  have : (256 : Nat) = 2 ^ 8 := by decide
  rw [this, <- Nat.pow_add, <- Nat.pow_add, show 8 * (i % 4) + (8 + (24 - 8 * (i % 4))) = 32 by omega]
 have e : ∀ M : Nat, M % 4294967296 / 2 ^ (8 * (i % 4)) % 256 = M / 2 ^ (8 * (i % 4)) % 256 := fun M => by
  rw [h, Nat.mod_mul_right_div_self, Nat.mod_mod_of_dvd _ (Nat.dvd_mul_right _ _)]
 exact e _
theorem b7z (l : List UInt8) (N i : Nat) (b : UInt8) (hi : i < l.length) (h : bv (l.drop (l.length - i)) = N % 256 ^ i) (hb : b.toNat = N / 256 ^ i % 256) :
  bv ((l.set (l.length - 1 - i) b).drop (l.length - (i + 1))) = N % 256 ^ (i + 1) := by
 have e := a7k (l.set (l.length - 1 - i) b) i (by rw [List.length_set]; exact hi)
 rw [List.length_set] at e
 rw [e, List.drop_set_of_lt (by omega), h]
 rw [show (l.set (l.length - 1 - i) b).getD (l.length - 1 - i) 0 = b by rw [List.getD_eq_getElem?_getD, List.getElem?_set_self (by omega)]; rfl, hb, Nat.pow_succ, Nat.mod_mul, Nat.mul_comm]
theorem a0e (l : List Nat) (i : Nat) : lv (l.take (i + 1)) = lv (l.take i) + 4294967296 ^ i * l.getD i 0 := by
 rcases Nat.lt_or_ge i l.length with h | h
 ·rw [List.take_succ_eq_append_getElem h, lv_snoc, List.length_take, Nat.min_eq_left (by omega), List.getD_eq_getElem?_getD, List.getElem?_eq_getElem h]; rfl
 rw [List.take_of_length_le (by omega), List.take_of_length_le (by omega), List.getD_eq_getElem?_getD, List.getElem?_eq_none h]; simp
theorem b1h (l : List Nat) (i x : Nat) : (l.set i x).take i = l.take i := by
 rw [List.take_set_of_le (by omega)]
theorem a6m (l : List Nat) (i x : Nat) (h : i < l.length) : (l.set i x).getD i 0 = x := by
 rw [List.getD_eq_getElem?_getD, List.getElem?_set_self h]; rfl
theorem getD_set_ne {l : List Nat} {i j x : Nat} (h : i ≠ j) : (l.set i x).getD j 0 = l.getD j 0 := by
 rw [List.getD_eq_getElem?_getD, List.getD_eq_getElem?_getD, List.getElem?_set_ne h]
theorem a2a (l : List Nat) (i x : Nat) (h : i < l.length) : lv ((l.set i x).take (i + 1)) = lv (l.take i) + 4294967296 ^ i * x := by
 rw [a0e, b1h, a6m l i x h]
theorem a1d {l : List Nat} {i : Nat} (h : l.length <= i) : l.take i = l := List.take_of_length_le h
theorem a2r (l : List UInt8) : (limbsOf (bv l)).length <= (l.length + 3) / 4 := by
 apply a3u
 have h := b4z l
 have e : (4294967296 : Nat) ^ ((l.length + 3) / 4) = 256 ^ (4 * ((l.length + 3) / 4)) := by rw [Nat.pow_mul]
 have : (256 : Nat) ^ l.length <= 256 ^ (4 * ((l.length + 3) / 4)) := Nat.pow_le_pow_right (by decide) (by omega)
 omega
theorem b2k {outs xs ys : List Nat} {i c o : Nat} (hi : i < outs.length) (h : lv (outs.take i) + 4294967296 ^ i * c = lv (xs.take i) + lv (ys.take i))
  (ho : o = xs.getD i 0 + ys.getD i 0 + c) :
  lv ((outs.set i (o % 4294967296)).take (i + 1)) + 4294967296 ^ (i + 1) * (o / 4294967296) = lv (xs.take (i + 1)) + lv (ys.take (i + 1)) := by
 rw [a2a _ _ _ hi, a0e xs, a0e ys, Nat.pow_succ, Nat.mul_assoc]
 have e : 4294967296 ^ i * (o % 4294967296) + 4294967296 ^ i * (4294967296 * (o / 4294967296)) = 4294967296 ^ i * o := by
  rw [<- Nat.mul_add, Nat.mod_add_div]
 rw [ho, Nat.mul_add, Nat.mul_add, <- ho] at e
 omega
theorem b5k {outs xs ys : List Nat} {i b d b' : Nat} (hi : i < outs.length) (h : lv (outs.take i) + lv (ys.take i) = lv (xs.take i) + 4294967296 ^ i * b)
  (hd : d + ys.getD i 0 + b = xs.getD i 0 + 4294967296 * b') :
  lv ((outs.set i d).take (i + 1)) + lv (ys.take (i + 1)) = lv (xs.take (i + 1)) + 4294967296 ^ (i + 1) * b' := by
 rw [a2a _ _ _ hi, a0e xs, a0e ys, Nat.pow_succ, Nat.mul_assoc]
 have e := congrArg (fun t => 4294967296 ^ i * t) hd
 simp only [Nat.mul_add] at e
 omega
def bor (x y c : Nat) : Nat := if x < y + c then 1 else 0
theorem bor_le (x y c : Nat) : bor x y c <= 1 := by unfold bor; split <;> omega
theorem bor_eq (x y c : Nat) (hx : x < 4294967296) (hy : y < 4294967296) (hc : c <= 1) : (x + 4294967296 - y - c) % 4294967296 + y + c = x + 4294967296 * bor x y c := by
 unfold bor; split <;> omega
theorem top_bit (n : Nat) (h : n < 4294967296) : n / 2147483648 = if n.testBit 31 then 1 else 0 := by
 rw [Nat.testBit_eq_decide_div_mod_eq, show (2 : Nat) ^ 31 = 2147483648 by decide]
 have : n / 2147483648 < 2 := by omega
 by_cases h1 : n / 2147483648 % 2 = 1
 ·simp [h1]; omega
 simp [h1]; omega
theorem b7x (n : Nat) (h : n < 4294967296) : n.testBit 31 = decide (2147483648 <= n) := by
 rw [Nat.testBit_eq_decide_div_mod_eq, show (2 : Nat) ^ 31 = 2147483648 by decide]
 congr 1; simp; omega
theorem b5a (x y c d : Nat) (hx : x < 4294967296) (hy : y < 4294967296) (hc : c <= 1) (hd : d = (x + 4294967296 - y - c) % 4294967296) :
  (((4294967295 ^^^ x) &&& y) ||| ((4294967295 ^^^ (x ^^^ y)) &&& d)) / 2147483648 = bor x y c := by
 have e : (4294967296 : Nat) = 2 ^ 32 := by decide
 have hm : 4294967295 < 2 ^ 32 := by decide
 have hx' : x < 2 ^ 32 := by omega
 have hy' : y < 2 ^ 32 := by omega
 have hd' : d < 2 ^ 32 := by omega
 have h1 : ((4294967295 ^^^ x) &&& y) ||| ((4294967295 ^^^ (x ^^^ y)) &&& d) < 2 ^ 32 :=
  Nat.or_lt_two_pow (Nat.and_lt_two_pow _ hy') (Nat.and_lt_two_pow _ hd')
 rw [top_bit _ (by omega)]
 simp only [Nat.testBit_or, Nat.testBit_and, Nat.testBit_xor]
 rw [b7x x hx, b7x y hy, b7x d (by omega), show (4294967295 : Nat).testBit 31 = true by decide]
 unfold bor
 by_cases a : 2147483648 <= x <;> by_cases b : 2147483648 <= y <;> by_cases f : 2147483648 <= d <;> by_cases g : x < y + c <;> simp [a, b, f, g] <;> omega
theorem a3n (xs : List Nat) (i : Nat) (h : i <= xs.length) : lv xs = lv (xs.take i) + 4294967296 ^ i * lv (xs.drop i) := by
 have := a4n (xs.take i) (xs.drop i)
 rw [List.take_append_drop, List.length_take, Nat.min_eq_left h] at this
 exact this
theorem a4q {xs : List Nat} {i : Nat} (h : i < xs.length) : xs.drop i = xs.getD i 0 :: xs.drop (i + 1) := by
 rw [List.drop_eq_getElem_cons h, List.getD_eq_getElem?_getD, List.getElem?_eq_getElem h]; rfl
theorem a7g {xs ys : List Nat} {i : Nat} (hx : Small xs) (hi : i < xs.length) (hl : xs.length = ys.length) (ht : xs.drop (i + 1) = ys.drop (i + 1)) (h : xs.getD i 0 < ys.getD i 0) :
  lv xs < lv ys := by
 rw [a3n xs i (by omega), a3n ys i (by omega), a4q (xs := xs) hi, a4q (xs := ys) (i := i) (by omega), a1r, a1r, ht]
 have h1 := a5f _ (hx.take i)
 rw [List.length_take, Nat.min_eq_left (by omega)] at h1
 have h2 : 4294967296 ^ i * (xs.getD i 0 + 4294967296 * lv (ys.drop (i + 1)) + 1) <= 4294967296 ^ i * (ys.getD i 0 + 4294967296 * lv (ys.drop (i + 1))) := Nat.mul_le_mul_left _ (by omega)
 rw [Nat.mul_add, Nat.mul_one] at h2
 omega
theorem b3p {xs ys : List Nat} (h : xs.drop 0 = ys.drop 0) : lv xs = lv ys := by
 rw [List.drop_zero, List.drop_zero] at h; rw [h]
theorem b3y {xs ys : List Nat} {i : Nat} (hi : i < xs.length) (hl : xs.length = ys.length) (ht : xs.drop (i + 1) = ys.drop (i + 1)) (h : xs.getD i 0 = ys.getD i 0) : xs.drop i = ys.drop i := by
 rw [a4q (xs := xs) hi, a4q (xs := ys) (i := i) (by omega), ht, h]
theorem mul_step {outs ys : List Nat} {i k u v old c t R : Nat} (hi : i + k < outs.length) (hold : old = outs.getD (i + k) 0) (hv : v = ys.getD k 0) (ht : t = u * v + old + c)
  (h : lv outs + 4294967296 ^ (i + k) * c = R + 4294967296 ^ i * (u * lv (ys.take k))) :
  lv (outs.set (i + k) (t % 4294967296)) + 4294967296 ^ (i + (k + 1)) * (t / 4294967296) = R + 4294967296 ^ i * (u * lv (ys.take (k + 1))) := by
 have h1 := b0y outs (i + k) (t % 4294967296) hi
 rw [<- hold] at h1
 have e : 4294967296 ^ (i + k) * (t % 4294967296) + 4294967296 ^ (i + k) * (4294967296 * (t / 4294967296)) = 4294967296 ^ (i + k) * t := by
  rw [<- Nat.mul_add, Nat.mod_add_div]
 rw [show i + (k + 1) = i + k + 1 by omega, Nat.pow_succ, Nat.mul_assoc, a0e, <- hv, Nat.mul_add u, Nat.mul_add (4294967296 ^ i), <- Nat.mul_assoc u, Nat.mul_comm u (4294967296 ^ k), Nat.mul_assoc (4294967296 ^ k),
  <- Nat.mul_assoc (4294967296 ^ i) (4294967296 ^ k), <- Nat.pow_add]
 rw [ht, Nat.mul_add, Nat.mul_add, <- ht] at e
 omega
theorem mul_end {outs xs ys : List Nat} {i u c : Nat} (hi : i + ys.length < outs.length) (h0 : outs.getD (i + ys.length) 0 = 0) (hu : u = xs.getD i 0)
  (h : lv outs + 4294967296 ^ (i + ys.length) * c = lv (xs.take i) * lv ys + 4294967296 ^ i * (u * lv (ys.take ys.length))) :
  lv (outs.set (i + ys.length) c) = lv (xs.take (i + 1)) * lv ys := by
 have h1 := b0y outs (i + ys.length) c hi
 rw [h0, Nat.mul_zero, Nat.add_zero] at h1
 rw [h1, h, a0e, <- hu, a1d (Nat.le_refl _), Nat.add_mul, Nat.mul_assoc]
theorem b9f {xs : List Nat} (hs : Small xs) {j : Nat} (h : lv xs < 4294967296 ^ j) : xs.getD j 0 = 0 := by
 rw [a7x xs hs, Nat.div_eq_of_lt h]
theorem b6y {a b m n : Nat} (ha : a < 4294967296 ^ m) (hb : b < 4294967296 ^ n) : a * b < 4294967296 ^ (m + n) := by
 rw [Nat.pow_add]
 rcases Nat.eq_zero_or_pos b with h | h
 ·subst h; rw [Nat.mul_zero]; exact Nat.mul_pos (Nat.pow_pos (by decide)) (Nat.pow_pos (by decide))
 exact Nat.lt_of_lt_of_le (Nat.mul_lt_mul_of_pos_right ha h) (Nat.mul_le_mul_left _ (Nat.le_of_lt hb))
theorem a4z {u v o c : Nat} (hu : u < 4294967296) (hv : v < 4294967296) (ho : o < 4294967296) (hc : c < 4294967296) : u * v <= 18446744065119617025 /\ (u * v + o + c) / 4294967296 < 4294967296 := by
 have h : u * v <= 4294967295 * 4294967295 := Nat.mul_le_mul (by omega) (by omega)
 have e : 4294967295 * 4294967295 = 18446744065119617025 := by decide
 rw [e] at h
 refine ⟨h, ?_⟩
 rw [Nat.div_lt_iff_lt_mul (by decide)]
 have e2 : 4294967296 * 4294967296 = 18446744073709551616 := by decide
 rw [e2]; omega
theorem a7h {xs : List Nat} {i : Nat} (h : i < xs.length) : lv (xs.drop i) = xs.getD i 0 + 4294967296 * lv (xs.drop (i + 1)) := by
 rw [a4q h, a1r]
theorem a5p {xs : List Nat} {i x : Nat} : (xs.set i x).drop (i + 1) = xs.drop (i + 1) := by
 rw [List.drop_set_of_lt (by omega)]
theorem b6r {outs xs : List Nat} {i d r x : Nat} (hd : 0 < d) (hi : i < xs.length) (hio : i < outs.length) (hx : x = xs.getD i 0)
  (hq : lv (outs.drop (i + 1)) = lv (xs.drop (i + 1)) / d) (hr : r = lv (xs.drop (i + 1)) % d) :
  lv ((outs.set i ((r * 4294967296 + x) / d)).drop i) = lv (xs.drop i) / d /\ (r * 4294967296 + x) % d = lv (xs.drop i) % d := by
 rw [a7h (by rw [List.length_set]; exact hio), a5p, a6m _ _ _ hio, a7h hi, <- hx, hq]
 have h := Nat.div_add_mod (lv (xs.drop (i + 1))) d
 rw [<- hr] at h
 generalize lv (xs.drop (i + 1)) = M at *
 generalize hQ : M / d = q at *
 have e : x + 4294967296 * M = (r * 4294967296 + x) + d * (4294967296 * q) := by
  rw [<- h, Nat.mul_add, Nat.mul_left_comm]; omega
 rw [e, Nat.add_mul_div_left _ _ hd, Nat.add_mul_mod_self_left]
 exact ⟨rfl, rfl⟩
theorem a7v {r x : Nat} (hx : x < 4294967296) : r * 4294967296 ||| x = r * 4294967296 + x := by
 have := b8q (x := x) (b := r) (m := 32) hx
 rw [Nat.or_comm, Nat.add_comm] at this
 exact this
theorem b6s {r x d : Nat} (hr : r < d) (hx : x < 4294967296) : (r * 4294967296 + x) / d < 4294967296 := by
 rw [Nat.div_lt_iff_lt_mul (by omega)]
 have : (r + 1) * 4294967296 <= d * 4294967296 := Nat.mul_le_mul_right _ hr
 rw [Nat.mul_comm 4294967296 d]; omega
theorem a8p {s : Nat} (h : s <= 32) : (2 : Nat) ^ s ∣ 4294967296 := by
 have : (4294967296 : Nat) = 2 ^ 32 := by decide
 rw [this]; exact Nat.pow_dvd_pow 2 h
theorem shl_step {outs xs : List Nat} {i s u o t : Nat} (hs : s < 32) (hso : Small outs) (hu : u = xs.getD i 0) (hu2 : u < 4294967296) (ho : o = outs.getD i 0) (hi : i < outs.length) (ht : t = u * 2 ^ s)
  (hxs : Small xs) (hix : i < xs.length) (h : lv outs = lv (xs.take i) * 2 ^ s) :
  o ||| t % 4294967296 = o + t % 4294967296 /\ o + t % 4294967296 < 4294967296 /\ outs.getD (i + 1) 0 = 0 /\ t < 4294967296 * 2 ^ s /\ t / 4294967296 < 4294967296 /\
  (i + 1 < outs.length -> lv ((outs.set i (o + t % 4294967296)).set (i + 1) (t / 4294967296)) = lv (xs.take (i + 1)) * 2 ^ s) /\
  (i + 1 = outs.length -> lv xs * 2 ^ s < 4294967296 ^ outs.length -> lv (outs.set i (o + t % 4294967296)) = lv (xs.take (i + 1)) * 2 ^ s) := by
 have h1 : lv (xs.take i) < 4294967296 ^ i := by
  have := a5f _ (hxs.take i)
  rwa [List.length_take, Nat.min_eq_left (by omega)] at this
 have hp : 0 < 2 ^ s := Nat.pow_pos (by decide)
 have h2 : lv outs < 4294967296 ^ i * 2 ^ s := by rw [h]; exact Nat.mul_lt_mul_of_pos_right h1 hp
 have hle : (2 : Nat) ^ s <= 2 ^ 31 := Nat.pow_le_pow_right (by decide) (by omega)
 have e31 : (2 : Nat) ^ 31 = 2147483648 := by decide
 have ho2 : o < 2 ^ s := by
  have := b0z outs i
  rw [<- ho] at this
  exact a3c (a := 4294967296 ^ i) (by omega)
 have h0 : outs.getD (i + 1) 0 = 0 := by
  apply b9f hso
  rw [Nat.pow_succ]
  have : 4294967296 ^ i * 2 ^ s <= 4294967296 ^ i * 4294967296 := Nat.mul_le_mul_left _ (by omega)
  omega
 obtain ⟨b, hb⟩ : 2 ^ s ∣ t % 4294967296 := (Nat.dvd_mod_iff (a8p (by omega))).2 (by rw [ht]; exact Nat.dvd_mul_left _ _)
 have hor : o ||| t % 4294967296 = o + t % 4294967296 := by rw [hb, Nat.mul_comm]; exact b8q ho2
 have hlt : o + t % 4294967296 < 4294967296 := by
  obtain ⟨d, hd⟩ := a8p (s := s) (by omega)
  have hm : t % 4294967296 < 4294967296 := Nat.mod_lt _ (by decide)
  rw [hb] at hm ⊢
  have hbd : b < d := by rw [hd] at hm; exact a3c hm
  have : 2 ^ s * (b + 1) <= 2 ^ s * d := Nat.mul_le_mul_left _ hbd
  rw [<- hd, Nat.mul_add, Nat.mul_one] at this
  omega
 have htb : t < 4294967296 * 2 ^ s := by rw [ht]; exact Nat.mul_lt_mul_of_pos_right hu2 hp
 have hdiv : t / 4294967296 < 4294967296 := by
  rw [Nat.div_lt_iff_lt_mul (by decide)]
  have : 4294967296 * 2 ^ s <= 4294967296 * 4294967296 := Nat.mul_le_mul_left _ (by omega)
  omega
 have e1 := b0y outs i (o + t % 4294967296) hi
 rw [<- ho, Nat.mul_add] at e1
 have hmd : 4294967296 ^ i * (t % 4294967296) + 4294967296 ^ i * (4294967296 * (t / 4294967296)) = 4294967296 ^ i * t := by rw [<- Nat.mul_add, Nat.mod_add_div]
 have hgoal : lv (xs.take (i + 1)) * 2 ^ s = lv outs + 4294967296 ^ i * t := by
  rw [a0e, <- hu, Nat.add_mul, <- h, Nat.mul_assoc, <- ht]
 refine ⟨hor, hlt, h0, htb, hdiv, fun hl => ?_, fun hl hfit => ?_⟩
 ·have e2 := b0y (outs.set i (o + t % 4294967296)) (i + 1) (t / 4294967296) (by rw [List.length_set]; exact hl)
  rw [getD_set_ne (by omega), h0, Nat.mul_zero, Nat.add_zero, Nat.pow_succ, Nat.mul_assoc] at e2
  rw [hgoal]; omega
 have hx : lv (xs.take (i + 1)) <= lv xs := by
  have := a4n (xs.take (i + 1)) (xs.drop (i + 1))
  rw [List.take_append_drop] at this
  omega
 have : t < 4294967296 := by
  have h3 : 4294967296 ^ i * t < 4294967296 ^ i * 4294967296 := by
   have := Nat.mul_le_mul_right (2 ^ s) hx
   rw [<- hl, Nat.pow_succ] at hfit
   omega
  exact a3c h3
 rw [hgoal]
 rw [Nat.mod_eq_of_lt this] at e1 ⊢
 omega
theorem b8d (xs : List Nat) (hs : Small xs) (i s : Nat) (h : s <= 32) : (xs.getD i 0 + 4294967296 * xs.getD (i + 1) 0) / 2 ^ s % 4294967296 = lv xs / 2 ^ s / 4294967296 ^ i % 4294967296 := by
 rw [Nat.div_div_eq_div_mul (lv xs), Nat.mul_comm (2 ^ s), <- Nat.div_div_eq_div_mul, a7x xs hs i, a7x xs hs (i + 1), Nat.pow_succ, <- Nat.div_div_eq_div_mul]
 generalize lv xs / 4294967296 ^ i = M
 obtain ⟨d, hd⟩ := a8p h
 have hp : 0 < 2 ^ s := Nat.pow_pos (by decide)
 have e : M = (M % 4294967296 + 4294967296 * (M / 4294967296 % 4294967296)) + 2 ^ s * (4294967296 * (d * (M / 4294967296 / 4294967296))) := by
  have : 2 ^ s * (4294967296 * (d * (M / 4294967296 / 4294967296))) = 4294967296 * (4294967296 * (M / 4294967296 / 4294967296)) := by
   rw [Nat.mul_left_comm, <- Nat.mul_assoc (2 ^ s), <- hd]
  rw [this]; omega
 have e2 : M / 2 ^ s % 4294967296 = (M % 4294967296 + 4294967296 * (M / 4294967296 % 4294967296)) / 2 ^ s % 4294967296 := by
  have := congrArg (fun t => t / 2 ^ s % 4294967296) e
  rw [this, Nat.add_mul_div_left _ _ hp, Nat.add_mul_mod_self_left]
 exact e2.symm
theorem shr_step {outs xs : List Nat} (hs : Small xs) {i s : Nat} (hsh : s <= 32) (hi : i < outs.length) (h : lv (outs.take i) = lv xs / 2 ^ s % 4294967296 ^ i) :
  lv ((outs.set i ((xs.getD i 0 + 4294967296 * xs.getD (i + 1) 0) / 2 ^ s % 4294967296)).take (i + 1)) = lv xs / 2 ^ s % 4294967296 ^ (i + 1) := by
 rw [a2a _ _ _ hi, h, b8d xs hs i s hsh, Nat.pow_succ, Nat.mod_mul]
theorem b9a {zs z0 ds : List Nat} {k q c b r b' t : Nat} (hk : k < zs.length) (hz : zs.getD k 0 = z0.getD k 0) (ht : t = q * ds.getD k 0 + c) (hr : r + t % 4294967296 + b = zs.getD k 0 + 4294967296 * b')
  (h : lv (zs.take k) + q * lv (ds.take k) = lv (z0.take k) + 4294967296 ^ k * (c + b)) :
  lv ((zs.set k r).take (k + 1)) + q * lv (ds.take (k + 1)) = lv (z0.take (k + 1)) + 4294967296 ^ (k + 1) * (t / 4294967296 + b') := by
 rw [a2a _ _ _ hk, a0e ds, a0e z0, Nat.pow_succ, Nat.mul_assoc, <- hz, Nat.mul_add q, Nat.mul_left_comm q]
 have hm := Nat.mod_add_div t 4294967296
 have e : r + q * ds.getD k 0 + (c + b) = zs.getD k 0 + 4294967296 * (t / 4294967296 + b') := by
  rw [Nat.mul_add]; omega
 have e2 := congrArg (fun y => 4294967296 ^ k * y) e
 simp only [Nat.mul_add] at e2 h ⊢
 omega
theorem b3k {zs z0 ds : List Nat} {n q c b r b' : Nat} (hk : n < zs.length) (hz : zs.getD n 0 = z0.getD n 0) (hr : r + c + b = zs.getD n 0 + 4294967296 * b')
  (h : lv (zs.take n) + q * lv (ds.take n) = lv (z0.take n) + 4294967296 ^ n * (c + b)) :
  lv ((zs.set n r).take (n + 1)) + q * lv (ds.take n) = lv (z0.take (n + 1)) + 4294967296 ^ (n + 1) * b' := by
 rw [a2a _ _ _ hk, a0e z0, Nat.pow_succ, Nat.mul_assoc, <- hz]
 have e2 := congrArg (fun y => 4294967296 ^ n * y) hr
 simp only [Nat.mul_add] at e2 h ⊢
 omega
theorem b6q {U D q L P : Nat} (hD : 0 < D) (hq : U / D <= q) (h : L + q * D = U + P * 0) : q = U / D /\ L = U % D := by
 rw [Nat.mul_zero, Nat.add_zero] at h
 have h1 : q <= U / D := by rw [Nat.le_div_iff_mul_le hD]; omega
 have h2 : q = U / D := by omega
 subst h2
 have := Nat.div_add_mod U D
 rw [Nat.mul_comm] at this
 exact ⟨rfl, by omega⟩
theorem b8c {U D q L P : Nat} (hD : 0 < D) (hq : U / D <= q) (hq2 : q * D < U + D) (hL : L < P) (h : L + q * D = U + P * 1) : q - 1 = U / D /\ 1 <= q /\ L + D = U % D + P := by
 rw [Nat.mul_one] at h
 have h1 : U < q * D := by omega
 have h2 : U / D < q := by rw [Nat.div_lt_iff_lt_mul hD]; exact h1
 have h3 := Nat.div_add_mod U D
 rw [Nat.mul_comm] at h3
 have h4 := b7h hD hq hq2
 generalize U / D = Q at *
 rcases h4 with e | e
 ·omega
 subst e
 refine ⟨rfl, by omega, ?_⟩
 rw [Nat.add_mul, Nat.one_mul] at h
 omega
theorem b4c {zs z1 ds : List Nat} {n c D R : Nat} (hn : n < zs.length) (hz : zs.getD n 0 = z1.getD n 0) (hs : Small (zs.take n)) (hR : R < 4294967296 ^ (n + 1))
  (h : lv (zs.take n) + 4294967296 ^ n * c = lv (z1.take n) + lv (ds.take n)) (hD : lv (ds.take n) = D) (hL : lv (z1.take (n + 1)) + D = R + 4294967296 ^ (n + 1)) :
  lv ((zs.set n ((zs.getD n 0 + c) % 4294967296)).take (n + 1)) = R := by
 rw [a2a _ _ _ hn]
 rw [a0e, <- hz] at hL
 have h1 := a5f _ hs
 rw [List.length_take, Nat.min_eq_left (by omega)] at h1
 have hm := Nat.mod_add_div (zs.getD n 0 + c) 4294967296
 have e := congrArg (fun y => 4294967296 ^ n * y) hm
 simp only [Nat.mul_add] at e
 rw [Nat.pow_succ] at hL hR
 rw [hD] at h
 have hx : (zs.getD n 0 + c) % 4294967296 < 4294967296 := Nat.mod_lt _ (by decide)
 generalize (zs.getD n 0 + c) % 4294967296 = x at *
 generalize (zs.getD n 0 + c) / 4294967296 = y at *
 generalize 4294967296 ^ n = P at *
 have hk : lv (zs.take n) + P * x + P * (4294967296 * y) = R + P * 4294967296 := by omega
 have hlt : lv (zs.take n) + P * x < P * 4294967296 := by
  have : P * (x + 1) <= P * 4294967296 := Nat.mul_le_mul_left _ hx
  rw [Nat.mul_add, Nat.mul_one] at this
  omega
 have hy : y = 1 := by
  rw [<- Nat.mul_assoc] at hk
  rcases Nat.lt_or_ge y 1 with h0 | h0
  ·obtain rfl : y = 0 := by omega
   rw [Nat.mul_zero] at hk; omega
  rcases Nat.lt_or_ge 1 y with h2 | h2
  ·have : P * 4294967296 * 2 <= P * 4294967296 * y := Nat.mul_le_mul_left _ h2
   omega
  omega
 subst hy
 rw [Nat.mul_one] at hk
 omega
/-! ### The guess: X = B^(n-2); top: the two leading limbs of u; d1, d2 the two leading limbs of d. -/
structure Lead (U D top d1 d2 u2 X D' U' : Nat) : Prop where
 X0 : 0 < X
 hD : D = (d1 * 4294967296 + d2) * X + D'
 hU : U = (top * 4294967296 + u2) * X + U'
 hD' : D' < X
 hU' : U' < X
 hd1 : 0 < d1
 hd2 : d2 < 4294967296
 hu2 : u2 < 4294967296
 less : U < D * 4294967296
theorem Lead.Dpos {U D top d1 d2 u2 X D' U' : Nat} (h : Lead U D top d1 d2 u2 X D' U') : 0 < D := by
 have := Nat.mul_pos (Nat.mul_pos h.hd1 (show 0 < 4294967296 by decide)) h.X0
 rw [h.hD, Nat.add_mul]; omega
theorem Lead.top_le {U D top d1 d2 u2 X D' U' : Nat} (h : Lead U D top d1 d2 u2 X D' U') : top <= d1 * 4294967296 + d2 := by
 have h1 : (top * 4294967296 + u2) * X < (d1 * 4294967296 + d2 + 1) * 4294967296 * X := by
  have e : D * 4294967296 < (d1 * 4294967296 + d2 + 1) * X * 4294967296 := by
   refine Nat.mul_lt_mul_of_pos_right ?_ (by decide)
   rw [h.hD, Nat.add_mul _ 1, Nat.one_mul]; have := h.hD'; omega
  rw [Nat.mul_right_comm]
  have := h.less
  have := h.hU
  omega
 have h2 := Nat.lt_of_mul_lt_mul_right h1
 omega
theorem Lead.start {U D top d1 d2 u2 X D' U' : Nat} (h : Lead U D top d1 d2 u2 X D' U') : U / D <= top / d1 :=
 b4s h.X0 (by decide) h.hd1 h.hD h.hU h.hu2 h.hU'
theorem Lead.down {U D top d1 d2 u2 X D' U' g r : Nat} (h : Lead U D top d1 d2 u2 X D' U') (ht : top = g * d1 + r) (hg : U / D <= g) (hc : 4294967296 <= g \/ r * 4294967296 + u2 < g * d2) :
  1 <= g /\ U / D <= g - 1 /\ top = (g - 1) * d1 + (r + d1) := by
 have h1 : 1 <= g := by
  rcases hc with hc | hc
  ·omega
  rcases Nat.eq_zero_or_pos g with e | e
  ·subst e; rw [Nat.zero_mul] at hc; omega
  exact e
 have h2 : U / D < g := by
  rcases hc with hc | hc
  ·have : U / D < 4294967296 := by rw [Nat.div_lt_iff_lt_mul h.Dpos, Nat.mul_comm]; exact h.less
   omega
  refine b7g h.hD h.hU h.hU' h.Dpos ?_
  rw [ht, Nat.mul_add, Nat.add_mul, Nat.mul_assoc]
  omega
 refine ⟨h1, by omega, ?_⟩
 obtain ⟨g', rfl⟩ : ∃ g', g = g' + 1 := ⟨g - 1, by omega⟩
 rw [ht, Nat.add_mul, Nat.one_mul, Nat.add_sub_cancel]; omega
theorem Lead.stop {U D top d1 d2 u2 X D' U' g r : Nat} (h : Lead U D top d1 d2 u2 X D' U') (ht : top = g * d1 + r) (hg : g < 4294967296) (hc : ¬ r * 4294967296 + u2 < g * d2) : g * D < U + D := by
 refine b9s h.hD h.hU h.hD' (by decide) h.hd1 (Nat.le_of_lt hg) ?_
 rw [ht, Nat.mul_add, Nat.add_mul, Nat.mul_assoc]
 omega
theorem Lead.broke {U D top d1 d2 u2 X D' U' g r : Nat} (h : Lead U D top d1 d2 u2 X D' U') (ht : top = g * d1 + r) (hr : 4294967296 <= r) : g < 4294967296 /\ g * D < U + D := by
 have hg : g < 4294967296 := by
  rcases Nat.lt_or_ge g 4294967296 with hg | hg
  ·exact hg
  have h1 := h.top_le
  have h2 := Nat.mul_le_mul_right d1 hg
  have := h.hd2
  rw [Nat.mul_comm 4294967296] at h2
  omega
 refine ⟨hg, h.stop ht hg ?_⟩
 have h1 : g * d2 <= 4294967295 * 4294967295 := Nat.mul_le_mul (by omega) (by have := h.hd2; omega)
 have e : 4294967295 * 4294967295 = 18446744065119617025 := by decide
 have h2 := Nat.mul_le_mul_right 4294967296 hr
 have e2 : 4294967296 * 4294967296 = 18446744073709551616 := by decide
 omega
theorem lead_of {zs ds : List Nat} {n : Nat} (hzs : Small zs) (hds : Small ds) (hn : 2 <= n) (hdl : ds.length = n) (hzl : n + 1 <= zs.length) (hd1 : 0 < ds.getD (n - 1) 0) (hless : lv (zs.take (n + 1)) < lv ds * 4294967296) :
  Lead (lv (zs.take (n + 1))) (lv ds) (zs.getD n 0 * 4294967296 + zs.getD (n - 1) 0) (ds.getD (n - 1) 0) (ds.getD (n - 2) 0) (zs.getD (n - 2) 0) (4294967296 ^ (n - 2)) (lv (ds.take (n - 2))) (lv (zs.take (n - 2))) := by
 obtain ⟨m, rfl⟩ : ∃ m, n = m + 2 := ⟨n - 2, by omega⟩
 have e1 : m + 2 - 1 = m + 1 := by omega
 have e2 : m + 2 - 2 = m := by omega
 rw [e1] at hd1
 rw [e1, e2]
 have hT : lv ds = lv (ds.take m) + 4294967296 ^ m * (ds.getD m 0 + 4294967296 * ds.getD (m + 1) 0) := by
  have := a0e ds (m + 1)
  rw [a1d (by omega), a0e] at this
  rw [this, Nat.mul_add, Nat.pow_succ, Nat.mul_assoc]; omega
 have hZ : lv (zs.take (m + 3)) = lv (zs.take m) + 4294967296 ^ m * (zs.getD m 0 + 4294967296 * (zs.getD (m + 1) 0 + 4294967296 * zs.getD (m + 2) 0)) := by
  have p1 : 4294967296 ^ (m + 1) = 4294967296 ^ m * 4294967296 := Nat.pow_succ ..
  have p2 : 4294967296 ^ (m + 2) = 4294967296 ^ m * 4294967296 * 4294967296 := by rw [Nat.pow_succ, p1]
  rw [a0e, a0e, a0e, p1, p2, Nat.mul_add, Nat.mul_add 4294967296, Nat.mul_add (4294967296 ^ m)]
  simp only [Nat.mul_assoc]; omega
 refine ⟨Nat.pow_pos (by decide), ?_, ?_, ?_, ?_, hd1, hds.get _, hzs.get _, hless⟩
 ·rw [hT, Nat.mul_comm (4294967296 ^ m), Nat.mul_comm 4294967296, Nat.add_comm (ds.getD m 0)]; omega
 ·rw [show m + 2 + 1 = m + 3 by omega, hZ, Nat.mul_comm (4294967296 ^ m)]
  have : zs.getD m 0 + 4294967296 * (zs.getD (m + 1) 0 + 4294967296 * zs.getD (m + 2) 0) = (zs.getD (m + 2) 0 * 4294967296 + zs.getD (m + 1) 0) * 4294967296 + zs.getD m 0 := by omega
  rw [this]; omega
 ·have := a5f _ (hds.take m); rwa [List.length_take, Nat.min_eq_left (by omega)] at this
 have := a5f _ (hzs.take m); rwa [List.length_take, Nat.min_eq_left (by omega)] at this
theorem a2x {xs ys : List Nat} {k : Nat} (h : xs.drop k = ys.drop k) : xs.getD k 0 = ys.getD k 0 := by
 have e : ∀ l : List Nat, l.getD k 0 = (l.drop k).getD 0 0 := fun l => by
  rw [List.getD_eq_getElem?_getD, List.getD_eq_getElem?_getD, List.getElem?_drop, Nat.add_zero]
 rw [e, h, <- e]
theorem a2q {xs ys : List Nat} {k x : Nat} (h : xs.drop k = ys.drop k) : (xs.set k x).drop (k + 1) = ys.drop (k + 1) := by
 rw [a5p, <- List.drop_drop, h, List.drop_drop]
theorem b3z : ∀ (k x : Nat), x < 2 ^ k -> k <= 32 -> x < 2 ^ Lib.bitLen x
 | 0, x, h, _ => by
  have : x = 0 := by simpa using h
  subst this; exact Nat.pow_pos (by decide)
 | k + 1, x, h, hk => by
  rcases Nat.eq_zero_or_pos x with h0 | h0
  ·subst h0; exact Nat.pow_pos (by decide)
  have h64 : x < 2 ^ 64 := Nat.lt_of_lt_of_le h (Nat.pow_le_pow_right (by decide) (by omega))
  rw [Lib.bitLen_half x (by omega) h64, Nat.add_comm, Nat.pow_succ]
  have := b3z k (x / 2) (by rw [Nat.pow_succ] at h; omega) (by omega)
  omega
theorem a6r : ∀ (k x : Nat), x < 2 ^ k -> k <= 32 -> 0 < x -> 0 < Lib.bitLen x /\ 2 ^ (Lib.bitLen x - 1) <= x
 | 0, x, h, _, h0 => by
  have : x = 0 := by simpa using h
  omega
 | k + 1, x, h, hk, h0 => by
  have h64 : x < 2 ^ 64 := Nat.lt_of_lt_of_le h (Nat.pow_le_pow_right (by decide) (by omega))
  rw [Lib.bitLen_half x (by omega) h64]
  refine ⟨by omega, ?_⟩
  rw [Nat.add_sub_cancel_left]
  rcases Nat.eq_zero_or_pos (x / 2) with h1 | h1
  ·rw [h1]
   have : Lib.bitLen 0 = 0 := by decide
   rw [this]; exact h0
  obtain ⟨h2, h3⟩ := a6r k (x / 2) (by rw [Nat.pow_succ] at h; omega) (by omega) h1
  have e : Lib.bitLen (x / 2) = Lib.bitLen (x / 2) - 1 + 1 := by omega
  rw [e, Nat.pow_succ]
  omega
theorem b7d {x : Nat} (hx : 0 < x) (hx2 : x < 4294967296) : ∃ s : Nat, s < 32 /\ (32 - (Lib.bitLen x : Int)) = (s : Int) /\ 2147483648 <= x * 2 ^ s /\ x * 2 ^ s < 4294967296 := by
 have e32 : (2 : Nat) ^ 32 = 4294967296 := by decide
 have e31 : (2 : Nat) ^ 31 = 2147483648 := by decide
 have h1 := b3z 32 x (by omega) (by omega)
 obtain ⟨h2, h3⟩ := a6r 32 x (by omega) (by omega) hx
 have h4 : Lib.bitLen x <= 32 := Lib.bitLen_le x 32 (by omega) (by omega)
 refine ⟨32 - Lib.bitLen x, by omega, by omega, ?_, ?_⟩
 ·have := Nat.mul_le_mul_right (2 ^ (32 - Lib.bitLen x)) h3
  rw [<- Nat.pow_add, show Lib.bitLen x - 1 + (32 - Lib.bitLen x) = 31 by omega] at this
  omega
 have := Nat.mul_lt_mul_of_pos_right h1 (show 0 < 2 ^ (32 - Lib.bitLen x) from Nat.pow_pos (by decide))
 rw [<- Nat.pow_add, show Lib.bitLen x + (32 - Lib.bitLen x) = 32 by omega] at this
 omega
theorem b3n (ys : List Nat) (n : Nat) (hn : ys.length = n + 1) : 4294967296 ^ n * ys.getD n 0 <= lv ys := by
 have h := a0e ys n
 rw [a1d (by omega)] at h
 omega
theorem b6t (ys : List Nat) (s n : Nat) (hy : Small ys) (hn : ys.length = n + 1) (h : ys.getD n 0 * 2 ^ s < 4294967296) (hs : s < 32) : lv ys * 2 ^ s < 4294967296 ^ (n + 1) := by
 have h1 := a0e ys n
 rw [a1d (by omega)] at h1
 have h2 := a5f _ (hy.take n)
 rw [List.length_take, Nat.min_eq_left (by omega)] at h2
 rw [h1, Nat.add_mul, Nat.pow_succ]
 obtain ⟨t, ht⟩ : ∃ t, 4294967296 = t * 2 ^ s := ⟨2 ^ (32 - s), by rw [<- Nat.pow_add, show 32 - s + s = 32 by omega]⟩
 generalize ys.getD n 0 = y at *
 generalize lv (ys.take n) = L at *
 generalize 4294967296 ^ n = P at *
 have hp : 0 < 2 ^ s := Nat.pow_pos (by decide)
 rw [ht] at h
 have h3 : y + 1 <= t := Nat.lt_of_mul_lt_mul_right h
 have h4 := Nat.mul_le_mul_left P (Nat.mul_le_mul_right (2 ^ s) h3)
 rw [Nat.add_mul, Nat.one_mul, Nat.mul_add, <- ht] at h4
 have h5 := Nat.mul_lt_mul_of_pos_right h2 hp
 rw [Nat.mul_assoc]
 omega
theorem b7c {xs ys zs : List Nat} {s n m : Nat} (hx : Small xs) (hxl : xs.length = m) (hyl : ys.length = n + 1) (hnm : n + 1 <= m) (hzl : zs.length = m + 1) (hs : s < 32)
  (htop : 2147483648 <= ys.getD n 0 * 2 ^ s) (hz : lv zs = lv xs * 2 ^ s) : lv (zs.drop (m - n)) < lv ys * 2 ^ s := by
 have h1 := a3n zs (m - n) (by omega)
 have h2 := a5f _ hx
 have h3 := b3n ys n hyl
 have hp : 0 < 2 ^ s := Nat.pow_pos (by decide)
 have h231 : (2 : Nat) ^ s <= 2147483648 := by
  have := Nat.pow_le_pow_right (show 0 < 2 by decide) (show s <= 31 by omega)
  have e : (2 : Nat) ^ 31 = 2147483648 := by decide
  omega
 rw [hxl] at h2
 refine Nat.lt_of_mul_lt_mul_left (a := 4294967296 ^ (m - n)) ?_
 have h4 := Nat.mul_le_mul_right (2 ^ s) h3
 have h5 := Nat.mul_le_mul_left (4294967296 ^ (m - n)) h4
 have h6 := Nat.mul_lt_mul_of_pos_right h2 hp
 have h7 : 4294967296 ^ (m - n) * (4294967296 ^ n * ys.getD n 0 * 2 ^ s) = 4294967296 ^ m * (ys.getD n 0 * 2 ^ s) := by
  rw [<- Nat.mul_assoc, <- Nat.mul_assoc, <- Nat.pow_add, show m - n + n = m by omega, Nat.mul_assoc]
 have h8 := Nat.mul_le_mul_left (4294967296 ^ m) (Nat.le_trans h231 htop)
 omega
theorem b1a {zs : List Nat} {D n i : Nat} (hzs : Small zs) (hi : i < zs.length) (hD : D < 4294967296 ^ n) (hlt : lv (zs.drop (i + 1)) < D) (hl : i + n + 1 <= zs.length) :
  lv ((zs.drop i).take (n + 1)) = lv (zs.drop i) /\ lv (zs.drop i) < D * 4294967296 := by
 have e : zs.drop i = zs.getD i 0 :: zs.drop (i + 1) := by
  rw [List.drop_eq_getElem_cons hi, List.getD_eq_getElem?_getD, List.getElem?_eq_getElem hi]; rfl
 have h1 : lv (zs.drop i) < D * 4294967296 := by
  rw [e, a1r]
  have := hzs.get i
  omega
 refine ⟨?_, h1⟩
 have h2 := a3n (zs.drop i) (n + 1) (by rw [List.length_drop]; omega)
 have h3 : D * 4294967296 <= 4294967296 ^ (n + 1) := by rw [Nat.pow_succ]; exact Nat.mul_le_mul_right _ (Nat.le_of_lt hD)
 rcases Nat.eq_zero_or_pos (lv ((zs.drop i).drop (n + 1))) with h0 | h0
 ·rw [h0, Nat.mul_zero] at h2; omega
 have := Nat.mul_le_mul_left (4294967296 ^ (n + 1)) h0
 rw [Nat.mul_one] at this
 omega
theorem b9g {zs win' qs : List Nat} {D U n i : Nat} (hzs : Small zs) (hi : i < zs.length) (hD0 : 0 < D) (hD : D < 4294967296 ^ n) (hlt : lv (zs.drop (i + 1)) < D) (hl : i + n + 1 <= zs.length)
  (hw1 : win'.length = (zs.drop i).length) (hw2 : win'.drop (n + 1) = (zs.drop i).drop (n + 1)) (hw3 : lv (win'.take (n + 1)) = lv ((zs.drop i).take (n + 1)) % D)
  (hq : i < qs.length) (hq0 : qs.getD i 0 = 0) (hinv : lv zs + D * lv qs = U) :
  lv win' < D /\ lv (zs.take i ++ win') + D * lv (qs.set i (lv ((zs.drop i).take (n + 1)) / D)) = U := by
 obtain ⟨h1, h2⟩ := b1a hzs hi hD hlt hl
 have hz0 : lv ((zs.drop i).drop (n + 1)) = 0 := by
  have h3 := a3n (zs.drop i) (n + 1) (by rw [List.length_drop]; omega)
  have hp : 0 < 4294967296 ^ (n + 1) := Nat.pow_pos (by decide)
  rcases Nat.eq_zero_or_pos (lv ((zs.drop i).drop (n + 1))) with h0 | h0
  ·exact h0
  have := Nat.mul_pos hp h0; omega
 have h3 := a3n win' (n + 1) (by rw [hw1, List.length_drop]; omega)
 rw [hw2, hz0, Nat.mul_zero, Nat.add_zero, hw3] at h3
 have hm := Nat.mod_lt (lv ((zs.drop i).take (n + 1))) hD0
 refine ⟨by omega, ?_⟩
 have h4 := a3n zs i (by omega)
 have h5 := b0y qs i (lv ((zs.drop i).take (n + 1)) / D) hq
 rw [hq0, Nat.mul_zero, Nat.add_zero] at h5
 rw [a4n, List.length_take, Nat.min_eq_left (by omega), h5, h3]
 rw [<- h1] at h4
 have h6 := Nat.mod_add_div (lv ((zs.drop i).take (n + 1))) D
 generalize lv ((zs.drop i).take (n + 1)) = W at *
 rw [h4] at hinv
 rw [<- hinv, Nat.mul_add D, Nat.mul_left_comm D]
 have h7 := congrArg (fun y => 4294967296 ^ i * y) h6
 simp only [Nat.mul_add] at h7
 omega
theorem long_end {zs qs : List Nat} {a b s n : Nat} (hn : n <= zs.length) (hb : 0 < b) (hD : b * 2 ^ s < 4294967296 ^ n) (hlt : lv zs < b * 2 ^ s) (hinv : lv zs + b * 2 ^ s * lv qs = a * 2 ^ s) :
  lv qs = a / b /\ lv (zs.take n) / 2 ^ s = a % b := by
 have hp : 0 < 2 ^ s := Nat.pow_pos (by decide)
 have h1 : lv (zs.take n) = lv zs := by
  have h2 := a3n zs n hn
  rcases Nat.eq_zero_or_pos (lv (zs.drop n)) with h0 | h0
  ·rw [h0, Nat.mul_zero] at h2; omega
  have := Nat.mul_le_mul_left (4294967296 ^ n) h0
  rw [Nat.mul_one] at this; omega
 have h3 : lv qs = a * 2 ^ s / (b * 2 ^ s) := by
  rw [<- hinv, Nat.add_mul_div_left _ _ (Nat.mul_pos hb hp), Nat.div_eq_of_lt hlt, Nat.zero_add]
 have h4 : lv zs = a * 2 ^ s % (b * 2 ^ s) := by
  rw [<- hinv, Nat.add_mul_mod_self_left, Nat.mod_eq_of_lt hlt]
 refine ⟨?_, ?_⟩
 ·rw [h3, Nat.mul_div_mul_right _ _ hp]
 rw [h1, h4, Nat.mul_mod_mul_right, Nat.mul_div_cancel _ hp]
def Sized (N : Nat) (q : Rat) : Prop := (bytesOf q.num.natAbs).length <= N /\ (bytesOf q.den).length <= N
theorem Sized.mono {M N : Nat} {q : Rat} (h : Sized M q) (hN : M <= N) : Sized N q := ⟨Nat.le_trans h.1 hN, Nat.le_trans h.2 hN⟩
theorem Sized.num {N : Nat} {q : Rat} (h : Sized N q) : (numB q).length <= N := h.1
theorem a1n {a b m n : Nat} (ha : (bytesOf a).length <= m) (hb : (bytesOf b).length <= n) : (bytesOf (a * b)).length <= m + n := by
 refine a0y _ _ ?_
 have h1 := Nat.lt_of_lt_of_le (a1q a) (Nat.pow_le_pow_right (show 0 < 256 by decide) ha)
 have h2 := Nat.lt_of_lt_of_le (a1q b) (Nat.pow_le_pow_right (show 0 < 256 by decide) hb)
 rw [Nat.pow_add]
 rcases Nat.eq_zero_or_pos b with h0 | h0
 ·subst h0; rw [Nat.mul_zero]; exact Nat.mul_pos (Nat.pow_pos (by decide)) (Nat.pow_pos (by decide))
 exact Nat.lt_of_lt_of_le (Nat.mul_lt_mul_of_pos_right h1 h0) (Nat.mul_le_mul_left _ (Nat.le_of_lt h2))
theorem a2s {a b n : Nat} (h : a <= b) (hb : (bytesOf b).length <= n) : (bytesOf a).length <= n :=
 a0y _ _ (Nat.lt_of_le_of_lt h (Nat.lt_of_lt_of_le (a1q b) (Nat.pow_le_pow_right (by decide) hb)))
theorem a9k {a b n : Nat} (ha : (bytesOf a).length <= n) (hb : (bytesOf b).length <= n) : (bytesOf (a + b)).length <= n + 1 := by
 refine a0y _ _ ?_
 have h1 := Nat.lt_of_lt_of_le (a1q a) (Nat.pow_le_pow_right (show 0 < 256 by decide) ha)
 have h2 := Nat.lt_of_lt_of_le (a1q b) (Nat.pow_le_pow_right (show 0 < 256 by decide) hb)
 rw [Nat.pow_succ]; omega
theorem sized_zero : Sized 1 0 := by
 refine ⟨?_, ?_⟩
 ·show (bytesOf 0).length <= 1
  rw [a0s]; simp
 show (bytesOf 1).length <= 1
 rw [a0v]; simp
theorem a8g {n : Int} {d N : Nat} (hd : d ≠ 0) (hn : (bytesOf n.natAbs).length <= N) (hd2 : (bytesOf d).length <= N) : Sized N (mkRat n d) := by
 rw [<- Rat.normalize_eq_mkRat hd]
 refine ⟨?_, ?_⟩
 ·rw [Rat.num_normalize]
  refine a2s ?_ hn
  rw [Int.natAbs_ediv_of_dvd]
  ·exact Nat.div_le_self _ _
  exact Int.ofNat_dvd_left.2 (Nat.gcd_dvd_left _ _)
 rw [Rat.den_normalize]
 exact a2s (Nat.div_le_self _ _) hd2
theorem b2t {b : Bool} {n d N : Nat} (hd : d ≠ 0) (hn : (bytesOf n).length <= N) (hd2 : (bytesOf d).length <= N) : Sized N (mkRat (signed b n) d) :=
 a8g hd (by rw [a1x]; exact hn) hd2
theorem b2u {neg : Bool} {num den : List UInt8} {N : Nat} (hn : num.length <= N) (hd : den.length <= N) (h1 : 1 <= N) : Sized N (decR neg num den) := by
 unfold decR
 split
 ·rename_i hv
  have hnd : norm den = den := by
   unfold a2y at hv
   simp only [Bool.and_eq_true, beq_iff_eq] at hv
   exact hv.1.2
  refine b2t (a7j hnd) (a0y _ _ (Nat.lt_of_lt_of_le (b4z num) (Nat.pow_le_pow_right (by decide) hn))) ?_
  unfold denN
  split
  ·rw [a0v]; simpa using h1
  exact a0y _ _ (Nat.lt_of_lt_of_le (b4z den) (Nat.pow_le_pow_right (by decide) hd))
 exact sized_zero.mono h1
theorem Sized.neg {N : Nat} {q : Rat} (h : Sized N q) : Sized N (-q) := by
 unfold Sized at *
 rw [Rat.neg_num, Rat.neg_den, Int.natAbs_neg]
 exact h
theorem Sized.add {M N : Nat} {p q : Rat} (hp : Sized M p) (hq : Sized N q) : Sized (M + N + 1) (p + q) := by
 rw [Rat.add_def, Rat.normalize_eq_mkRat]
 refine a8g (Nat.mul_ne_zero p.den_nz q.den_nz) ?_ (Nat.le_trans (a1n hp.2 hq.2) (Nat.le_succ _))
 have h1 : (p.num * q.den + q.num * p.den).natAbs <= p.num.natAbs * q.den + q.num.natAbs * p.den := by
  refine Nat.le_trans (Int.natAbs_add_le _ _) ?_
  rw [Int.natAbs_mul, Int.natAbs_mul, Int.natAbs_natCast, Int.natAbs_natCast]
  exact Nat.le_refl _
 refine a2s h1 (a9k (a1n hp.1 hq.2) ?_)
 rw [Nat.add_comm M N]
 exact a1n hq.1 hp.2
end Go.Proofs.YtgdhpghfojccaaaDoor
