/-
A map of bools keyed by ints that the call has made: what it holds, said by two functions; ranged over: how many are still to come.
-/
import Derived.Test.YtakoagjpmdcddaaDoorVH
import Derived.Test.YtakoagjpmdcddaaDoorVC
import Derived.Maps.RangeWalk
namespace Go.Proofs.YtakoagjpmdcddaaDoor
open Go.RowKit

def putS (S : Int → Bool) (p q : Int) : Bool := S q || q == p
def putF (f : Int → Bool) (p : Int) (y : Bool) (q : Int) : Bool := if q = p then y else f q
def W64 (p : Int) : Prop := (Lit.int .i64 p).wf = true
/-- What a map reads as, by two functions: is the key there, what is there. -/
structure Tied (D : DataW Unit) (S f : Int → Bool) : Prop where
  has : ∀ p, Maps.has D (.int .i64 p) = S p
  val : ∀ p z, S p = true → D.atKey (.int .i64 p) z = .lit (.bool (f p))
theorem Tied.at_ {D : DataW Unit} {S f : Int → Bool} (h : Tied D S f) (p : Int) : D.atKey (.int .i64 p) (.lit (.bool false)) = .lit (.bool (S p && f p)) := by
  cases hs : S p with
  | true => rw [h.val p _ hs, Bool.true_and]
  | false => rw [Maps.atKey_of_not_has (by rw [h.has, hs])]; rfl
theorem Tied.empty (f : Int → Bool) : Tied (.map []) (fun _ => false) f := ⟨fun _ => rfl, fun _ _ h => by cases h⟩
theorem Tied.put {D : DataW Unit} {S f : Int → Bool} (hm : Maps.IsMap D) (h : Tied D S f) (p : Int) (y : Bool) : Tied (D.put (.int .i64 p) (.lit (.bool y))) (putS S p) (putF f p y) := by
  refine ⟨fun q => ?_, fun q z hq => ?_⟩
  all_goals simp only [putS, putF] at *
  · by_cases hqp : q = p
    · subst hqp
      rw [Maps.has_put_same hm (k := .int .i64 q) trivial]; simp
    · rw [Maps.has_put_other (fun e => hqp (Lit.int.inj e).2), h.has]
      simp [hqp]
  · by_cases hqp : q = p
    · subst hqp
      rw [Maps.atKey_put_same hm (k := .int .i64 q) trivial, if_pos rfl]
    · rw [Maps.atKey_put_other (fun e => hqp (Lit.int.inj e).2), if_neg hqp]
      refine h.val q z ?_
      have h1 : (q == p) = false := by simp [hqp]
      have h2 : (S q || q == p) = true := hq
      rw [h1, Bool.or_false] at h2
      exact h2

/-- Block b is such a map. -/
def BMap (P : Program) (kt et : TypeId) (w : World) (b n : Nat) (S f : Int → Bool) : Prop := ∃ D : DataW Unit, w.ownsMap P kt (plainElem P et) b n D ∧ Tied D S f
/-- .. and a loop over it is under way; L: is the key still to come; cnt: how many are. -/
def BRng (P : Program) (kt et : TypeId) (w : World) (b r n : Nat) (S f L : Int → Bool) (cnt : Nat) : Prop :=
  ∃ (D : DataW Unit) (left : Lit → Bool), w.ranges P kt (plainElem P et) b r n D left cnt ∧ Tied D S f ∧ (∀ p, left (.int .i64 p) = L p) ∧ ∀ p, L p = true → S p = true

section
variable {P : Program} {kt et t : TypeId} {w w' : World} {b r n cnt : Nat} {S f L : Int → Bool}
theorem BMap.kept (h : BMap P kt et w b n S f) {row : Option Nat} (hg : w.grownBy w' row) (hne : some b ≠ row) : BMap P kt et w' b n S f := by
  obtain ⟨D, h1, h2⟩ := h
  exact ⟨D, h1.kept hg hne, h2⟩
theorem BMap.below (h : BMap P kt et w b n S f) (hb : Below w.heap.size w w') : BMap P kt et w' b n S f := h.kept (only_below hb none) (by simp)
theorem BMap.made (w : World) (f : Int → Bool) {b : Nat} (hb : w.heap.size = b) : BMap P kt et (w.alloc (.map #[] 0)) b 0 (fun _ => false) f := by subst hb; exact ⟨_, World.ownsMap_made w P kt _, Tied.empty f⟩
theorem BMap.lt (h : BMap P kt et w b n S f) : b < w.heap.size := by obtain ⟨D, h1, _⟩ := h; exact h1.lt
theorem BMap.congr {S' f' : Int → Bool} (h : BMap P kt et w b n S f) (hS : ∀ p, S p = S' p) (hf : ∀ p, S p = true → f p = f' p) : BMap P kt et w b n S' f' := by
  obtain ⟨D, h1, h2⟩ := h
  exact ⟨D, h1, ⟨fun p => by rw [h2.has, hS], fun p z hp => by rw [← hS] at hp; rw [h2.val p z hp, hf p hp]⟩⟩
theorem BRng.own (h : BRng P kt et w b r n S f L cnt) : BMap P kt et w b n S f := by
  obtain ⟨D, left, h1, h2, _⟩ := h
  exact ⟨D, h1.owns, h2⟩
theorem BRng.kept (h : BRng P kt et w b r n S f L cnt) {row : Option Nat} (hg : w.grownBy w' row) (hb : some b ≠ row) (hr : some r ≠ row) : BRng P kt et w' b r n S f L cnt := by
  obtain ⟨D, left, h1, h2⟩ := h
  exact ⟨D, left, h1.kept hg hb hr, h2⟩
theorem BRng.lt (h : BRng P kt et w b r n S f L cnt) : r < w.heap.size := by obtain ⟨D, left, h1, _⟩ := h; exact h1.lt
theorem BRng.left_eq (h : BRng P kt et w b r n S f L cnt) : w.rangeLeft b r = cnt := by obtain ⟨D, left, h1, _⟩ := h; exact h1.left_eq
theorem BRng.sub (h : BRng P kt et w b r n S f L cnt) : ∀ p, L p = true → S p = true := by obtain ⟨D, left, h1, h2, h3, h4⟩ := h; exact h4
theorem Below.of_grown {a c : World} (h : a.grownBy c none) : Below a.heap.size a c := (Below.refl _ a).grown h (Nat.le_refl _) (fun k hk => by cases hk)
theorem BRng.below (h : BRng P kt et w b r n S f L cnt) (hb : Below w.heap.size w w') : BRng P kt et w' b r n S f L cnt := h.kept (only_below hb none) (by simp) (by simp)
theorem BRng.congr {L' : Int → Bool} (h : BRng P kt et w b r n S f L cnt) (hL : ∀ p, L p = L' p) : BRng P kt et w b r n S f L' cnt := by
  obtain ⟨D, left, h1, h2, h3, h4⟩ := h
  exact ⟨D, left, h1, h2, fun p => by rw [h3, hL], fun p hp => h4 p (by rw [hL]; exact hp)⟩

/-- A store into a block of cells leaves maps and their iterators alone. -/
theorem cell_grown (w : World) (p : Addr) (v : Value) : w.grownBy (w.setCell p v) (some p.block) :=
  ⟨rfl, rfl, rfl, by rw [size_set]; exact Nat.le_refl _, fun i _ hi => Below.heap_setCell w p v i (fun e => hi (by rw [e]))⟩
theorem BMap.ne_blk (h : BMap P kt et w b n S f) {g : Nat} {cs : Array Value} {ty : TypeId} (hB : Blk w g cs ty) : ¬ b = g := by
  obtain ⟨D, ⟨es, clock, hb, _⟩, _⟩ := h
  rintro rfl
  unfold Blk at hB
  rw [hB] at hb
  cases hb
theorem BRng.ne_blk (h : BRng P kt et w b r n S f L cnt) {g : Nat} {cs : Array Value} {ty : TypeId} (hB : Blk w g cs ty) : ¬ r = g := by
  obtain ⟨D, left, ⟨es, clock, since, seen, c0, _, _, _, _, hr, _⟩, _⟩ := h
  rintro rfl
  unfold Blk at hB
  rw [hB] at hr
  cases hr
theorem BMap.setCell (h : BMap P kt et w b n S f) {g i : Nat} {cs : Array Value} {ty : TypeId} (hB : Blk w g cs ty) (v : Value) : BMap P kt et (w.setCell ⟨g, i, none⟩ v) b n S f :=
  h.kept (cell_grown w _ v) (fun e => h.ne_blk hB (by injection e))
theorem BRng.setCell (h : BRng P kt et w b r n S f L cnt) {g i : Nat} {cs : Array Value} {ty : TypeId} (hB : Blk w g cs ty) (v : Value) : BRng P kt et (w.setCell ⟨g, i, none⟩ v) b r n S f L cnt :=
  h.kept (cell_grown w _ v) (fun e => h.own.ne_blk hB (by injection e)) (fun e => h.ne_blk hB (by injection e))
/-- What is held stays held while another block of no cells turns. -/
theorem St.turned {w0 : World} {R : List Own} (h : St w0 R w) {row : Nat} (hg : w.grownBy w' (some row)) (h0 : w0.heap.size ≤ row) (hne : ∀ x ∈ R, ¬ row = x.g) : St w0 R w' := by
  refine ⟨h.below.grown hg h.below.size (fun k hk => by injection hk with hk; omega), fun x hx => ⟨?_, (h.ok x hx).2⟩, h.apart⟩
  have := (h.ok x hx).1
  unfold Blk at *
  exact (hg.block x.g (h.ok x hx).1.lt (fun e => hne x hx (by injection e with e; exact e.symm))).trans this
theorem St.turnedMap {w0 : World} {R : List Own} (h : St w0 R w) (hm : BMap P kt et w b n S f) (hg : w.grownBy w' (some b)) (h0 : w0.heap.size ≤ b) : St w0 R w' :=
  h.turned hg h0 fun x hx => hm.ne_blk (h.ok x hx).1
theorem St.turnedRng {w0 : World} {R : List Own} (h : St w0 R w) (hm : BRng P kt et w b r n S f L cnt) (hg : w.grownBy w' (some r)) (h0 : w0.heap.size ≤ r) : St w0 R w' :=
  h.turned hg h0 fun x hx => hm.ne_blk (h.ok x hx).1
end

section
variable {P : Program} {w : World} {ops : Array Oper} {rest : List Oper} {o : Oper} {a : Act} {Q : Exit → Act → World → Prop} {b r n cnt : Nat} {S f L : Int → Bool}
/-- 'v, ok := m[k]'. -/
theorem wpList_bmap_ok (hg : o.guard = none) (m x : Operand) (t : TypeId) (hop : o.op = Op.lookup t m x true)
    (k e : TypeId) (K : Maps.Keyed P k) (hk : P.underlying k = some (.int .i64)) (ht : P.underlying t = some (.map k e)) (he : P.underlying e = some .bool) (hz : (zeroValue e).run P w = .ok (.bool false) w)
    (hown : BMap P k e w b n S f) (hm : a.eval m = .map (some b)) (p : Int) (hx : a.eval x = .int .i64 p) (hp : W64 p) (y z : Bool) (hy : (S p && f p) = y) (hzb : S p = z)
    (hK : wpList P ops Q rest (a.put o.dst (.tuple #[.bool y, .bool z])) w) : wpList P ops Q (o :: rest) a w := by
  obtain ⟨D, h1, h2⟩ := hown
  rw [← hy, ← hzb] at hK
  refine wpList_lookup_own_ok w hg m x t hop k e K ht (plainElem P e) hz (.lit (.bool false)) [] (plainElem_bool he false) b n D hm h1 _ _ hx (Maps.keyOf_int_mk hk hp) (fun v ps hv => ?_)
  rw [h2.at_ p] at hv
  have := plainElem_bool_inv he hv
  subst this
  rw [h2.has]
  exact hK
/-- 'm[k]'. -/
theorem wpList_bmap (hg : o.guard = none) (m x : Operand) (t : TypeId) (hop : o.op = Op.lookup t m x false)
    (k e : TypeId) (K : Maps.Keyed P k) (hk : P.underlying k = some (.int .i64)) (ht : P.underlying t = some (.map k e)) (he : P.underlying e = some .bool) (hz : (zeroValue e).run P w = .ok (.bool false) w)
    (hown : BMap P k e w b n S f) (hm : a.eval m = .map (some b)) (p : Int) (hx : a.eval x = .int .i64 p) (hp : W64 p) (y : Bool) (hy : (S p && f p) = y)
    (hK : wpList P ops Q rest (a.put o.dst (.bool y)) w) : wpList P ops Q (o :: rest) a w := by
  obtain ⟨D, h1, h2⟩ := hown
  rw [← hy] at hK
  exact wpList_lookup_own_bool w hg m x t hop k e K ht he hz b n D hm h1 _ _ hx (Maps.keyOf_int_mk hk hp) _ (h2.at_ p) hK
/-- .. the world by a new name behind it. -/
theorem wpList_bmap_any (hg : o.guard = none) (m x : Operand) (t : TypeId) (hop : o.op = Op.lookup t m x false)
    (k e : TypeId) (K : Maps.Keyed P k) (hk : P.underlying k = some (.int .i64)) (ht : P.underlying t = some (.map k e)) (he : P.underlying e = some .bool) (hz : (zeroValue e).run P w = .ok (.bool false) w)
    (hown : BMap P k e w b n S f) (hm : a.eval m = .map (some b)) (p : Int) (hx : a.eval x = .int .i64 p) (hp : W64 p) (y : Bool) (hy : (S p && f p) = y) (R : List Own) (w0 : World) (hs : St w0 R w)
    (hK : ∀ w', St w0 R w' → BMap P k e w' b n S f → wpList P ops Q rest (a.put o.dst (.bool y)) w') : wpList P ops Q (o :: rest) a w :=
  wpList_bmap hg m x t hop k e K hk ht he hz hown hm p hx hp y hy (hK w hs hown)
/-- 'm[k] = y'. -/
theorem wpList_bmap_put (hg : o.guard = none) (m x v : Operand) (t : TypeId) (hop : o.op = Op.mapUpdate t m x v)
    (k e : TypeId) (K : Maps.Keyed P k) (hk : P.underlying k = some (.int .i64)) (ht : P.underlying t = some (.map k e)) (he : P.underlying e = some .bool)
    (hown : BMap P k e w b n S f) (hn : n < maxLen) (hm : a.eval m = .map (some b)) (p : Int) (hx : a.eval x = .int .i64 p) (hp : W64 p) (y : Bool) (hv : a.eval v = .bool y)
    (hK : ∀ w', BMap P k e w' b (n + 1) (putS S p) (putF f p y) → w.grownBy w' (some b) → wpList P ops Q rest (a.put o.dst undef) w') : wpList P ops Q (o :: rest) a w := by
  obtain ⟨D, h1, h2⟩ := hown
  exact wpList_mapUpdate_own w hg m x v t hop k e K ht (plainElem P e) b n D hm h1 hn _ _ _ hx hv (Maps.keyOf_int_mk hk hp) _ [] (plainElem_bool he y)
    (fun w' h3 h4 => hK w' ⟨_, h3, h2.put h1.isMap p y⟩ h4)
/-- 'range m'. -/
theorem wpList_bmap_range (hg : o.guard = none) (m : Operand) (t : TypeId) (hop : o.op = Op.range t m) (k e : TypeId) (K : Maps.Keyed P k) (ht : P.underlying t = some (.map k e))
    (hown : BMap P k e w b n S f) (hm : a.eval m = .map (some b))
    (hK : ∀ w' c, BRng P k e w' b w.heap.size n S f S c → w.grownBy w' none → w'.heap.size = w.heap.size + 1 → wpList P ops Q rest (a.put o.dst (.pointer (some ⟨w.heap.size, 0, none⟩))) w') : wpList P ops Q (o :: rest) a w := by
  obtain ⟨D, h1, h2⟩ := hown
  exact wpList_range_own w hg m t hop k e K ht (plainElem P e) b n D hm h1 (fun w' h3 h4 h5 => hK w' _ ⟨D, _, h3, h2, h2.has, fun _ h => h⟩ h4 h5)
/-- The step. -/
theorem wpList_bmap_next (hg : o.guard = none) (it : Operand) (hop : o.op = Op.next it false) (k e : TypeId) (K : Maps.Keyed P k) (hk : P.underlying k = some (.int .i64)) (he : P.underlying e = some .bool)
    (h : BRng P k e w b r n S f L cnt) (hit : a.eval it = .pointer (some ⟨r, 0, none⟩))
    (hDone : (∀ p, L p = false) → wpList P ops Q rest (a.put o.dst (.tuple #[.bool false])) w)
    (hMore : ∀ (p : Int) (w' : World) (cnt' : Nat), L p = true → BRng P k e w' b r n S f (fun q => L q && !(q == p)) cnt' → cnt' < cnt → w.grownBy w' (some r) → w'.heap.size = w.heap.size →
      (Instr.entry (.pointer (some ⟨r, 0, none⟩))).run P w' = .ok (.tuple #[.int .i64 p, .bool (f p)]) w' → wpList P ops Q rest (a.put o.dst (.tuple #[.bool true, .int .i64 p, .bool (f p)])) w') : wpList P ops Q (o :: rest) a w := by
  obtain ⟨D, left, h1, h2, h3, h4⟩ := h
  refine wpList_next_ranges w hg it hop k K (plainElem P e) (Value.int .i64) Value.bool (fun key kl hkey => by obtain ⟨x, rfl, _⟩ := Maps.keyOf_int_inv hk hkey; exact ⟨x, rfl⟩)
    (fun v y hv => by
      unfold plainElem at hv
      rw [he] at hv
      cases v <;> simp at hv
      exact ⟨_, rfl⟩) b r n D left cnt hit h1 (fun _ hl => hDone fun p => by rw [← h3]; exact hl _) (fun x c kl y w' cnt' hkey hlk hv hat hrg hlt hgr hsz hen => ?_)
  obtain ⟨x', ex, rfl, _⟩ := Maps.keyOf_int_inv hk hkey
  cases ex
  have hS : S x = true := h4 x (by rw [← h3]; exact hlk)
  have hy : y.1 = .lit (.bool (f x)) := (hat (.lit (.bool false))).symm.trans (h2.val x _ hS)
  have hc : c = f x := by
    obtain ⟨y1, y2⟩ := y
    have hy' : y1 = .lit (.bool (f x)) := hy
    subst hy'
    have := plainElem_bool_inv he hv
    injection this
  subst hc
  refine hMore x w' cnt' (by rw [← h3]; exact hlk) ⟨D, _, hrg, h2, fun p => ?_, fun p hp => h4 p ?_⟩ hlt hgr hsz hen
  · show (left (.int .i64 p) && !(Lit.int .i64 p).sameKey (.int .i64 x)) = _
    rw [h3]
    congr 2
    simp [Lit.sameKey]
    rw [Bool.eq_iff_iff]; simp
  · rw [Bool.and_eq_true] at hp; exact hp.1
end
end Go.Proofs.YtakoagjpmdcddaaDoor
