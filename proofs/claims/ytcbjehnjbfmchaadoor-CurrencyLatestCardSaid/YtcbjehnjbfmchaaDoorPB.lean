/-
Arguments opened: a slice of structs as a list; quotes; numbers.
-/
import Derived.Test.YtcbjehnjbfmchaaDoorPA
import Derived.Test.YtcbjehnjbfmchaaDoorP9
import Derived.Deep.Slices
import Derived.Deep.Fields
import Derived.ChangeSame
import Derived.Carry
import Derived.Test.YtcbjehnjbfmchaaDoorRows
import Derived.Test.YtcbjehnjbfmchaaDoorCards
import Derived.Test.YtcbjehnjbfmchaaDoorTie
import Derived.ProofKit
import Derived.Lay
import Derived.SevenTiedAt
import Derived.ChangeMaps5
import Derived.Deep.AppendLies
namespace Go.Proofs.YtcbjehnjbfmchaaDoor
open Go.ChangeShapes Go.WideShapes Go.Deep Go.RowKit

section
variable {H : Type} {enc : TypeId × Value → H} {P : Program} {W : World} {held : Bool}
theorem spot_none {w : World} {a : Addr} {v : Value} (h : w.cell? a = some v) : a = ⟨a.block, a.off, none⟩ ∧ a.block < w.heap.size := by
  unfold World.cell? at h
  split at h
  · rename_i c _ _ hb
    split at h
    · cases h
    · rename_i hs
      refine ⟨?_, (Array.getElem?_eq_some_iff.1 hb).1⟩
      cases a with
      | mk b o s => cases s with
        | none => rfl
        | some _ => simp at hs
  · cases h

/-- A slice argument whose elements are structs of one plain form. -/
theorem open_slc {α : Type} (d : α) {f : α → List Value} {k : Nat} (Good : α → Prop) {t e : TypeId} {fuel : Nat} {cs : List Value} {x : DataW H × List MemPlace} (ht : P.underlying t = some (.slice e)) (hk0 : 0 < k) (hk : P.cellsOf e = k)
    (hf : ∀ z, (f z).length = k) (hdec : ∀ n cs' y, DataW.trod enc P W 0 (fun _ => true) held n e cs' = some y → ∃ z : α, cs' = f z ∧ Good z) (h : DataW.trod enc P W 0 (fun _ => true) held fuel t cs = some x) :
    ∃ v xs, cs = [v] ∧ Slc f k W v xs ∧ ∀ z ∈ xs, Good z := by
  rcases open_slice ht h with ⟨rfl, _⟩ | ⟨a, len, cap, m, n, D, Pl, rfl, hb, hl, hm, hmm, hx, hi⟩
  · exact ⟨_, [], rfl, Slc.nil_ _ _ _ _ _ (by decide), by simp⟩
  · have hm' : m = cap := by simpa using hmm
    subst hm'
    rw [hk] at hi
    have hch : ∀ i, ∃ z : α, i < m → Good z ∧ ∀ j u, (f z)[j]? = some u → W.cell? ((a.add (i * k)).add j) = some u := by
      intro i
      by_cases him : i < m
      · obtain ⟨cs', hc, ht'⟩ := hi i him
        obtain ⟨z, rfl, hg⟩ := hdec _ _ _ ht'
        obtain ⟨_, hcl, hat⟩ := World.cells?_some hc
        refine ⟨z, fun _ => ⟨hg, fun j u hu => ?_⟩⟩
        have hj : j < k := by rw [← hcl]; exact (List.getElem?_eq_some_iff.1 hu).1
        rw [hat j hj, hu]
      · exact ⟨d, fun h => absurd h him⟩
    obtain ⟨z, hz⟩ := Classical.axiomOfChoice hch
    refine ⟨_, (List.range len).map z, rfl, ⟨some a, m, by simp, by simpa using hl, by unfold maxLen at hm; omega, fun h0 => ?_⟩, ?_⟩
    · have h0' : 0 < len := by simpa using h0
      have hfz : ∃ u, (f (z 0))[0]? = some u := ⟨(f (z 0))[0]'(by rw [hf]; exact hk0), List.getElem?_eq_getElem _⟩
      obtain ⟨u, hu⟩ := hfz
      have hc := (hz 0 (by omega)).2 0 u hu
      rw [Nat.zero_mul] at hc
      have hs := spot_none (a := a) (by simpa [Addr.add] using hc)
      refine ⟨a.block, a.off, by rw [← hs.1], hs.2, fun j y hj i u hu => ?_⟩
      rw [List.getElem?_map] at hj
      have hjl : j < len := by
        rcases Nat.lt_or_ge j len with h | h
        · exact h
        · rw [List.getElem?_eq_none (by simpa using h)] at hj; cases hj
      rw [List.getElem?_range hjl] at hj
      have e : z j = y := by simpa using hj
      subst e
      have hc := (hz j (by omega)).2 i u hu
      rw [hs.1, Addr.add_lit, Addr.add_lit] at hc
      exact hc
    · intro y hy
      rw [List.mem_map] at hy
      obtain ⟨j, hj, rfl⟩ := hy
      have : j < len := by simpa using hj
      exact (hz j (by omega)).1
end

theorem list5 {l : List Value} (h : l.length = 5) : ∃ a b c d e, l = [a, b, c, d, e] := by
  match l, h with
  | [a, b, c, d, e], _ => exact ⟨a, b, c, d, e, rfl⟩
theorem list3 {α : Type} {l : List α} (h : l.length = 3) : ∃ a b c, l = [a, b, c] := by
  match l, h with
  | [a, b, c], _ => exact ⟨a, b, c, rfl⟩
theorem list2 {α : Type} {l : List α} (h : l.length = 2) : ∃ a b, l = [a, b] := by
  match l, h with
  | [a, b], _ => exact ⟨a, b, rfl⟩

section
variable {H : Type} {enc : TypeId × Value → H} {W : World} {base : Nat} {sp : Nat → Bool} {held : Bool}
theorem cells_str : Tryd.prog.cellsOf 9 = 1 := by kernel_rfl
theorem cells_bool : Tryd.prog.cellsOf 4 = 1 := by kernel_rfl
theorem cells_int : Tryd.prog.cellsOf 3 = 1 := by kernel_rfl
set_option maxRecDepth 100000 in
theorem cells_rat : Tryd.prog.cellsOf 30 = 3 := by kernel_rfl
set_option maxRecDepth 100000 in
theorem cells_quote : Tryd.prog.cellsOf 33 = 5 := by kernel_rfl

def ratCells (neg : Bool) (num den : List UInt8) : List Value := [.bool neg, .string (bs num), .string (bs den)]
/-- Three cells that read as a number. -/
theorem dec_rat {n : Nat} {cs : List Value} {y : DataW H × List MemPlace} (h : DataW.trod enc Tryd.prog W base sp held n 30 cs = some y) :
    ∃ neg num den, cs = ratCells neg num den ∧ num.length ≤ maxLen ∧ den.length ≤ maxLen := by
  obtain ⟨xs, m, rfl, hx, hl, hxl, hf⟩ := DataW.trod_struct Tryd.underlying30 h
  rw [cells_rat] at hl
  obtain ⟨c0, c1, c2, rfl⟩ := list3 hl
  obtain ⟨y0, y1, y2, rfl⟩ := list3 (show xs.length = 3 from hxl)
  have h0 := hf 0 _ rfl
  have h1 := hf 1 _ rfl
  have h2 := hf 2 _ rfl
  simp only [List.getElem_toArray, List.getElem_cons_zero, List.getElem_cons_succ] at h0 h1 h2
  rw [cells_bool] at h0
  rw [cells_str] at h1 h2
  obtain ⟨b, e0, _⟩ := DataW.trod_bool Tryd.underlying4 (show DataW.trod enc Tryd.prog W base sp held m 4 [c0] = some y0 from h0)
  obtain ⟨s1, e1, _, l1⟩ := DataW.trod_string Tryd.underlying9 (show DataW.trod enc Tryd.prog W base sp held m 9 [c1] = some y1 from h1)
  obtain ⟨s2, e2, _, l2⟩ := DataW.trod_string Tryd.underlying9 (show DataW.trod enc Tryd.prog W base sp held m 9 [c2] = some y2 from h2)
  injection e0 with e0
  injection e1 with e1
  injection e2 with e2
  subst e0; subst e1; subst e2
  exact ⟨b, s1.data.toList, s2.data.toList, rfl, by rw [size_list]; exact l1, by rw [size_list]; exact l2⟩

theorem int_range {a : Int} (h : (Lit.int .i64 a).wf = true) : -9223372036854775808 ≤ a ∧ a ≤ 9223372036854775807 := by
  simpa [Lit.wf, IntKind.min, IntKind.max, IntKind.signed, IntKind.bits] using h

def QuoDay (q : Quo) : Prop := -9223372036854775808 ≤ q.day ∧ q.day ≤ 9223372036854775807
/-- Five cells that read as a quote. -/
theorem dec_quote {n : Nat} {cs : List Value} {y : DataW H × List MemPlace} (h : DataW.trod enc Tryd.prog W base sp held n 33 cs = some y) : ∃ q : Quo, cs = q.enc ∧ QuoDay q := by
  obtain ⟨xs, m, rfl, hx, hl, hxl, hf⟩ := DataW.trod_struct Tryd.underlying33 h
  rw [cells_quote] at hl
  obtain ⟨c0, c1, c2, c3, c4, rfl⟩ := list5 hl
  obtain ⟨y0, y1, y2, rfl⟩ := list3 (show xs.length = 3 from hxl)
  have h0 := hf 0 _ rfl
  have h1 := hf 1 _ rfl
  have h2 := hf 2 _ rfl
  simp only [List.getElem_toArray, List.getElem_cons_zero, List.getElem_cons_succ] at h0 h1 h2
  rw [cells_str] at h0
  rw [cells_int] at h1
  rw [cells_rat] at h2
  obtain ⟨s0, e0, _, l0⟩ := DataW.trod_string Tryd.underlying9 (show DataW.trod enc Tryd.prog W base sp held m 9 [c0] = some y0 from h0)
  obtain ⟨a, e1, _, wa⟩ := DataW.trod_int Tryd.underlying3 (show DataW.trod enc Tryd.prog W base sp held m 3 [c1] = some y1 from h1)
  obtain ⟨neg, num, den, e2, _, _⟩ := dec_rat (show DataW.trod enc Tryd.prog W base sp held m 30 [c2, c3, c4] = some y2 from h2)
  injection e0 with e0
  injection e1 with e1
  unfold ratCells at e2
  simp only [List.cons.injEq, and_true] at e2
  obtain ⟨rfl, rfl, rfl⟩ := e2
  subst e0; subst e1
  exact ⟨⟨s0.data.toList, a, neg, num, den⟩, rfl, int_range wa⟩
end
end Go.Proofs.YtcbjehnjbfmchaaDoor

/-
What every row's proof needs: the arguments read behind the call as they did; numbers opened; the listed tables.
-/
namespace Go.Proofs.YtcbjehnjbfmchaaDoor
open Go.ChangeShapes Go.WideShapes Go.ChangeAt Go.ChangeMaps Go.RowKit

theorem own_knob : ownKnob Tryd.prog.godebug = none := by kernel_rfl
def laidL : List (String × DataW Unit) := [("unicode/utf8.acceptRanges", Rows.laid_unicode_utf8_acceptRanges), ("unicode/utf8.first", Rows.laid_unicode_utf8_first)]

section
variable {H : Type} {enc : TypeId × Value → H} {P : Program} {W W' : World}
theorem trodAll_below (hl : laidOutB P = true) (hb : Below W.heap.size W W') : ∀ {ts : List TypeId} {vs : List Value} {ds : List (DataW H)} {ps : List MemPlace}, DataW.TrodAll enc P W 0 (fun _ => true) true ts vs ds ps →
    (∀ t ∈ ts, P.readableRec t = true ∧ t < P.types.size) → (∀ x ∈ ps, x.block < W.heap.size) → DataW.TrodAll enc P W' 0 (fun b => decide (b < W.heap.size)) true ts vs ds ps
  | [], [], [], _, h, _, _ => h
  | t :: ts, v :: vs, d :: ds, ps, ⟨p, q, h, hs, e⟩, hr, hlt => by
    subst e
    exact ⟨p, q, Below.trod hl (hr t (by simp)).1 (hr t (by simp)).2 h hb (fun x hx => hlt x (by simp [hx])), trodAll_below hl hb hs (fun u hu => hr u (by simp [hu])) (fun x hx => hlt x (by simp [hx])), rfl⟩
end

section
variable {H : Type} {enc : TypeId × Value → H} {W : World} {base : Nat} {sp : Nat → Bool} {held : Bool} {r : Reach} {b0 : Nat}
set_option maxRecDepth 100000 in
theorem open_rat {v : Value} {d : DataW H} {p : List MemPlace} (hv : Value.okWide Tryd.prog W r b0 30 v) (h : DataW.Trod enc Tryd.prog W base sp held 30 v d p) :
    ∃ neg num den, v = raw neg num den ∧ num.length ≤ maxLen ∧ den.length ≤ maxLen := by
  obtain ⟨cs, rfl, hsz⟩ := okWide_struct Tryd.underlying30 hv
  obtain ⟨fuel, hf⟩ := h
  obtain ⟨neg, num, den, e, l1, l2⟩ := dec_rat hf
  refine ⟨neg, num, den, ?_, l1, l2⟩
  have e' : cs.toList = ratCells neg num den := e
  unfold raw
  congr 1
  apply Array.toList_inj.1
  rw [e']; rfl
end
theorem u8_range {a : Int} (h : (Lit.int .u8 a).wf = true) : 0 ≤ a ∧ a ≤ 255 := by
  simpa [Lit.wf, IntKind.min, IntKind.max, IntKind.signed, IntKind.bits] using h
theorem u16_range {a : Int} (h : (Lit.int .u16 a).wf = true) : 0 ≤ a ∧ a ≤ 65535 := by
  simpa [Lit.wf, IntKind.min, IntKind.max, IntKind.signed, IntKind.bits] using h

set_option maxRecDepth 100000 in
theorem laid_shaped (os : Os) (args : Array Value) : ((World.laidAll Tryd.prog os laidL).forCall (fun _ _ => 0) ⟨#[], args, []⟩).Shaped Tryd.prog :=
  World.shaped_of_ZipB (by kernel_rfl) (by kernel_rfl)
set_option maxRecDepth 100000 in
theorem laid_met (os : Os) (args : Array Value) : laidMetH Tryd.prog laidL ((World.laidAll Tryd.prog os laidL).forCall (fun _ _ => 0) ⟨#[], args, []⟩).memory := by
  rw [MakeChecks.laidMetH_plain _ _ _ (by kernel_rfl)]
  exact laidMet_laidAll _ (by kernel_rfl) (by kernel_rfl)
end Go.Proofs.YtcbjehnjbfmchaaDoor

/-
One more struct at the end of a row of the call's own.
-/
namespace Go.Proofs.YtcbjehnjbfmchaaDoor
open Go.RowKit

section
variable {α : Type} {enc : α → List Value} {P : Program}
theorem wpList_push (w : World) {ops : Array Oper} {rest : List Oper} {o : Oper} {a : Act} {Q : Exit → Act → World → Prop} (hgd : o.guard = none) (s x : Operand) (t : TypeId)
    (ho : o.op = .call { callee := .builtin .append, args := #[s, x], argTypes := #[t, t] })
    (base : Nat) (e : TypeId) (i : TypeInfo) (z : Value) (size bytes : Nat) (ht : P.underlying t = some (.slice e)) (hi : P.info? e = some i) (hz : i.zero = some z)
    (hsize : i.size = size) (hby : i.bytes = bytes) (hzs : z.cells.size = size) (hsz : 0 < size) (hk : ∀ y, (enc y).length = size)
    (v : Value) (n : Nat) (xs : List α) (hs : a.eval s = v) (hown : w.ownsRow base e size v n (flat enc xs)) (y : α) (cs : Array Value) (hcs : cs.toList = enc y) (hx : a.eval x = .slice (some ⟨w.heap.size, 0, none⟩) 1 1)
    (h1 : ∀ u ∈ enc y, u.oneCell' = true) (h63 : n + 1 ≤ maxLen) (hbytes : (n + 1) * bytes ≤ 140737488355328) (hbase : base ≤ w.heap.size)
    (h : ∀ v' w', w'.ownsRow base e size v' (n + 1) (flat enc (xs ++ [y])) → Below base w w' → wpList P ops Q rest (a.put o.dst v') w') : wpList P ops Q (o :: rest) a (w.alloc (.cells cs e)) := by
  refine wpList_append_own (w.alloc (.cells cs e)) hgd s x t ho base e i z size bytes ht hi hz hsize hby hzs hsz v n (flat enc xs) hs (hown.alloc _) ⟨w.heap.size, 0, none⟩ 1 1 (enc y) hx (by rw [hk, Nat.one_mul]) ?_ h1 h63 hbytes (by rw [size_alloc]; omega) ?_
  · intro j u hu
    rw [Addr.add_lit, Nat.zero_add, (Blk.new w cs e).cell j u]
    rw [← Array.getElem?_toList, hcs]; exact hu
  · intro v' w' hown' hg _
    refine h v' w' (by rw [flat_append]; simpa [flat] using hown') ?_
    refine ((Below.refl base w).alloc hbase _).grown hg (by rw [size_alloc]; omega) (fun k hk => ?_)
    rcases hown.2 with ⟨rfl, _⟩ | ⟨g, cap, cur, rfl, hb, _⟩
    · simp [Value.ownBlock] at hk
    · have : g = k := by simpa [Value.ownBlock] using hk
      omega
end

set_option maxRecDepth 100000 in
theorem info_quote : (Tryd.prog.info? 33).map (fun i => (i.zero, i.size, i.bytes)) = some (some (.agg #[.string ⟨#[]⟩, .int .i64 0, .bool false, .string ⟨#[]⟩, .string ⟨#[]⟩]), 5, 64) := by kernel_rfl
theorem quo_cells (q : Quo) : ∀ u ∈ q.enc, u.oneCell' = true := by
  intro u hu
  unfold Quo.enc at hu
  simp only [List.mem_cons, List.mem_nil_iff, or_false] at hu
  rcases hu with rfl | rfl | rfl | rfl | rfl <;> rfl
end Go.Proofs.YtcbjehnjbfmchaaDoor
