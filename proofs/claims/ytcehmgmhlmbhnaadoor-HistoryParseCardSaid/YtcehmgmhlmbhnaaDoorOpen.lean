/-
  How the laws' arguments and the listed variables read at a row's first world: the facts that the contracts ask, out of what the form gives; and the world of the witness.
-/
import Derived.Test.YtcehmgmhlmbhnaaDoorCards
import Derived.Test.YtcehmgmhlmbhnaaDoorTie
import Derived.Test.YtcehmgmhlmbhnaaDoorPr0
import Derived.WalkKit
import Derived.ProofKit
import Derived.OpenShut
import Derived.ShutString
import Derived.Deep.DeepHandedRow
import Derived.Deep.Slices
import Derived.Deep.Fields
import Derived.ChangeSame
import Derived.Lib.LaidTab
import Derived.Lib.SmallJoins
namespace Go.Proofs.YtcehmgmhlmbhnaaDoor
open Go.ChangeShapes Go.WideShapes Go.ChangeAt Go.RowKit Go.Deep
theorem own : ownKnob Tryd.prog.godebug = none := by kernel_rfl
theorem laidOut : laidOutB Tryd.prog = true := by kernel_rfl
theorem gPowType : (Tryd.prog.globals[1]?).map (·.type) = some 129 := by kernel_rfl
theorem cells129 : Tryd.prog.cellsOf 129 = 20 := by kernel_rfl
theorem cells116 : Tryd.prog.cellsOf 116 = 1 := by kernel_rfl
/-- The rows' list. -/
def laidList : List (String × DataW Unit) := [("math/bits.deBruijn32tab", Rows.laid_math_bits_deBruijn32tab), ("math/bits.deBruijn64tab", Rows.laid_math_bits_deBruijn64tab), ("internal/strconv.uint64pow10", Rows.laid_internal_strconv_uint64pow10), ("unicode/utf8.acceptRanges", Rows.laid_unicode_utf8_acceptRanges), ("unicode/utf8.first", Rows.laid_unicode_utf8_first)]
theorem pow_laid {W : World} (h : laidMet Tryd.prog laidList W) : Lib.TabIs Tryd.prog W "internal/strconv.uint64pow10" .u64 Lib.pow10Tab := by
  obtain ⟨ps, hv, _, _⟩ := h
  obtain ⟨_, _, _, _, _, _, _, _, _, _, hv, _⟩ := hv
  obtain ⟨_, _, _, _, _, _, _, _, _, _, hv, _⟩ := hv
  obtain ⟨g', t', cs, fuel, p, q, hg', ht', hvar, hd, _, _⟩ := hv
  obtain rfl := Option.some.inj (gPow.symm.trans hg')
  obtain rfl := Option.some.inj (gPowType.symm.trans ht')
  unfold Lib.TabIs
  rw [hvar, ← Lib.cells_of_tab (zs := Lib.pow10Tab) Tryd.underlying129 Tryd.underlying116 cells116 cells129 hd]
theorem laidW_of {W : World} (h : laidMetH Tryd.prog laidList W) (hs : W.ShapedOpen Tryd.prog) : LaidW W := by
  have hm : laidMet Tryd.prog laidList W := h
  have hp := pow_laid hm
  refine ⟨?_, Tryd.laysM145.s1_3 W hs, hp⟩
  unfold Lib.TabIs World.var? at hp
  rw [gPow] at hp
  simp only [Option.bind_some] at hp
  rcases Nat.lt_or_ge 1 W.heap.size with h1 | h1
  · exact h1
  · rw [Array.getElem?_eq_none h1] at hp
    cases hp

open Go.Proofs.YtcehmgmhlmbhnaaDoorW.PrintWords Pr
/-- A list out of its elements' existence. -/
theorem list_of {α : Type} (P : Nat → α → Prop) : ∀ n : Nat, (∀ i, i < n → ∃ x, P i x) → ∃ l : List α, l.length = n ∧ ∀ i x, l[i]? = some x → P i x
  | 0, _ => ⟨[], rfl, fun i x h => by simp at h⟩
  | n + 1, h => by
    obtain ⟨l, hl, hp⟩ := list_of P n (fun i hi => h i (by omega))
    obtain ⟨x, hx⟩ := h n (by omega)
    refine ⟨l ++ [x], by simp [hl], fun i y hy => ?_⟩
    rcases Nat.lt_or_ge i n with h1 | h1
    · rw [List.getElem?_append_left (by omega)] at hy
      exact hp i y hy
    · have hi : i = n := by
        have := (List.getElem?_eq_some_iff.1 hy).1
        simp [hl] at this
        omega
      subst hi
      rw [List.getElem?_append_right (by omega)] at hy
      simp [hl] at hy
      subst hy
      exact hx
theorem wf_i64 {x : Int} (h : (Lit.int .i64 x).wf = true) : -9223372036854775808 ≤ x ∧ x ≤ 9223372036854775807 := by
  simp [Lit.wf, IntKind.min, IntKind.max, IntKind.signed, IntKind.bits] at h
  exact h
theorem wf_u16 {x : Int} (h : (Lit.int .u16 x).wf = true) : 0 ≤ x ∧ x ≤ 65535 := by
  simp [Lit.wf, IntKind.min, IntKind.max, IntKind.signed, IntKind.bits] at h
  exact h
def In64 (x : Int) : Prop := -9223372036854775808 ≤ x ∧ x ≤ 9223372036854775807
def In16 (x : Int) : Prop := 0 ≤ x ∧ x ≤ 65535
def Ok39 (x : S39) : Prop := In64 x.f0 ∧ In64 x.f1 ∧ In64 x.f2 ∧ In64 x.f3 ∧ In64 x.f4 ∧ In64 x.f5
def Ok67 (x : S67) : Prop := In16 x.f0 ∧ In16 x.f1 ∧ In16 x.f2 ∧ In16 x.f3 ∧ In16 x.f4
section
variable {H : Type} {enc : TypeId × Value → H} {W : World} {base : Nat}
theorem cells39 : Tryd.prog.cellsOf 39 = 6 := by kernel_rfl
theorem cells67 : Tryd.prog.cellsOf 67 = 5 := by kernel_rfl
theorem cells3 : Tryd.prog.cellsOf 3 = 1 := by kernel_rfl
theorem cells2 : Tryd.prog.cellsOf 2 = 1 := by kernel_rfl
theorem cells28 : Tryd.prog.cellsOf 28 = 1 := by kernel_rfl
set_option maxRecDepth 100000 in
/-- A slice of rows that came in. -/
theorem open_rows {v : Value} {d : DataW H} {p : List MemPlace} (hv : Value.okWide Tryd.prog W .any base 22 v) (h : DataW.Trod enc Tryd.prog W 0 (fun _ => true) true 22 v d p) :
    ∃ (A : Option Addr) (c : Nat) (l : List S39), v = .slice A l.length c ∧ l.length ≤ c ∧ Kd.C k39 W A l.length l ∧ (∀ x ∈ l, Ok39 x) := by
  obtain ⟨a0, len, cap, rfl⟩ := okWide_slice Tryd.underlying22 hv
  obtain ⟨fuel, hf⟩ := h
  rcases open_slice Tryd.underlying22 hf with ⟨hcs, hx⟩ | ⟨a, len', cap', m, n, D, Pl, hcs, hb, hl, hm, hmm, hx, hi⟩
  · simp [Value.cells] at hcs
    obtain ⟨rfl, rfl, rfl⟩ := hcs
    exact ⟨none, 0, [], rfl, Nat.le_refl _, Kd.C_nil _ _, by simp⟩
  · simp [Value.cells] at hcs
    obtain ⟨rfl, rfl, rfl⟩ := hcs
    simp at hmm
    subst hmm
    have key : ∀ i, i < len → ∃ x : S39, Ok39 x ∧ ∀ j u, [Value.int .i64 x.f0, .int .i64 x.f1, .int .i64 x.f2, .int .i64 x.f3, .int .i64 x.f4, .int .i64 x.f5][j]? = some u → W.cell? (a.add (i * 6 + j)) = some u := by
      intro i hil
      obtain ⟨cs', hc, ht'⟩ := hi i (by omega)
      rw [cells39] at hc
      obtain ⟨ys, n', hn', hy, hlen, hyl, hfl⟩ := DataW.trod_struct Tryd.underlying39 ht'
      obtain ⟨_, hcl, hat⟩ := World.cells?_some hc
      match cs', hcl with
      | [c0, c1, c2, c3, c4, c5], _ =>
        match ys, hyl with
        | [y0, y1, y2, y3, y4, y5], _ =>
          have f0 : DataW.trod enc Tryd.prog W 0 (fun _ => true) true n' 3 (([c0, c1, c2, c3, c4, c5].drop 0).take (Tryd.prog.cellsOf 3)) = some y0 := hfl 0 _ rfl
          rw [cells3] at f0
          obtain ⟨x0, e0, _, w0⟩ := DataW.trod_int Tryd.underlying3 (by simpa using f0)
          have f1 : DataW.trod enc Tryd.prog W 0 (fun _ => true) true n' 3 (([c0, c1, c2, c3, c4, c5].drop 1).take (Tryd.prog.cellsOf 3)) = some y1 := hfl 1 _ rfl
          rw [cells3] at f1
          obtain ⟨x1, e1, _, w1⟩ := DataW.trod_int Tryd.underlying3 (by simpa using f1)
          have f2 : DataW.trod enc Tryd.prog W 0 (fun _ => true) true n' 3 (([c0, c1, c2, c3, c4, c5].drop 2).take (Tryd.prog.cellsOf 3)) = some y2 := hfl 2 _ rfl
          rw [cells3] at f2
          obtain ⟨x2, e2, _, w2⟩ := DataW.trod_int Tryd.underlying3 (by simpa using f2)
          have f3 : DataW.trod enc Tryd.prog W 0 (fun _ => true) true n' 3 (([c0, c1, c2, c3, c4, c5].drop 3).take (Tryd.prog.cellsOf 3)) = some y3 := hfl 3 _ rfl
          rw [cells3] at f3
          obtain ⟨x3, e3, _, w3⟩ := DataW.trod_int Tryd.underlying3 (by simpa using f3)
          have f4 : DataW.trod enc Tryd.prog W 0 (fun _ => true) true n' 2 (([c0, c1, c2, c3, c4, c5].drop 4).take (Tryd.prog.cellsOf 2)) = some y4 := hfl 4 _ rfl
          rw [cells2] at f4
          obtain ⟨x4, e4, _, w4⟩ := DataW.trod_int Tryd.underlying2 (by simpa using f4)
          have f5 : DataW.trod enc Tryd.prog W 0 (fun _ => true) true n' 2 (([c0, c1, c2, c3, c4, c5].drop 5).take (Tryd.prog.cellsOf 2)) = some y5 := hfl 5 _ rfl
          rw [cells2] at f5
          obtain ⟨x5, e5, _, w5⟩ := DataW.trod_int Tryd.underlying2 (by simpa using f5)
          simp at e0 e1 e2 e3 e4 e5
          subst e0 e1 e2 e3 e4 e5
          refine ⟨⟨x0, x1, x2, x3, x4, x5⟩, ⟨wf_i64 w0, wf_i64 w1, wf_i64 w2, wf_i64 w3, wf_i64 w4, wf_i64 w5⟩, fun j u hj => ?_⟩
          have hjl : j < 6 := (List.getElem?_eq_some_iff.1 hj).1
          have := hat j hjl
          rw [Go.Deep.add_add, hj] at this
          exact this
    obtain ⟨l, hll, hp⟩ := list_of _ len key
    subst hll
    refine ⟨some a, _, l, rfl, hl, ⟨rfl, ?_, fun _ => ⟨a, rfl, fun j q hq => ⟨_, rfl, k39_mk W q, (hp j q hq).2⟩⟩⟩, fun x hx => ?_⟩
    · have := hm; unfold maxLen at this; omega
    · obtain ⟨i, hi'⟩ := List.mem_iff_getElem?.1 hx
      exact (hp i x hi').1
set_option maxRecDepth 100000 in
/-- A slice of arrays of five numbers that came in. -/
theorem open_five {v : Value} {d : DataW H} {p : List MemPlace} (hv : Value.okWide Tryd.prog W .any base 23 v) (h : DataW.Trod enc Tryd.prog W 0 (fun _ => true) true 23 v d p) :
    ∃ (A : Option Addr) (c : Nat) (l : List S67), v = .slice A l.length c ∧ l.length ≤ c ∧ Kd.C k67 W A l.length l ∧ (∀ x ∈ l, Ok67 x) := by
  obtain ⟨a0, len, cap, rfl⟩ := okWide_slice Tryd.underlying23 hv
  obtain ⟨fuel, hf⟩ := h
  rcases open_slice Tryd.underlying23 hf with ⟨hcs, hx⟩ | ⟨a, len', cap', m, n, D, Pl, hcs, hb, hl, hm, hmm, hx, hi⟩
  · simp [Value.cells] at hcs
    obtain ⟨rfl, rfl, rfl⟩ := hcs
    exact ⟨none, 0, [], rfl, Nat.le_refl _, Kd.C_nil _ _, by simp⟩
  · simp [Value.cells] at hcs
    obtain ⟨rfl, rfl, rfl⟩ := hcs
    simp at hmm
    subst hmm
    have key : ∀ i, i < len → ∃ x : S67, Ok67 x ∧ ∀ j u, [Value.int .u16 x.f0, .int .u16 x.f1, .int .u16 x.f2, .int .u16 x.f3, .int .u16 x.f4][j]? = some u → W.cell? (a.add (i * 5 + j)) = some u := by
      intro i hil
      obtain ⟨cs', hc, ht'⟩ := hi i (by omega)
      rw [cells67] at hc
      obtain ⟨ys, n', hn', hy, hlen, hyl, hfl⟩ := DataW.trod_array Tryd.underlying67 ht'
      obtain ⟨_, hcl, hat⟩ := World.cells?_some hc
      match cs', hcl with
      | [c0, c1, c2, c3, c4], _ =>
        have f0 := hfl 0 (by omega)
        have f1 := hfl 1 (by omega)
        have f2 := hfl 2 (by omega)
        have f3 := hfl 3 (by omega)
        have f4 := hfl 4 (by omega)
        simp only [cells28] at f0 f1 f2 f3 f4
        match ys, hyl with
        | [y0, y1, y2, y3, y4], _ =>
          obtain ⟨x0, e0, _, w0⟩ := DataW.trod_int Tryd.underlying28 (by simpa using f0)
          obtain ⟨x1, e1, _, w1⟩ := DataW.trod_int Tryd.underlying28 (by simpa using f1)
          obtain ⟨x2, e2, _, w2⟩ := DataW.trod_int Tryd.underlying28 (by simpa using f2)
          obtain ⟨x3, e3, _, w3⟩ := DataW.trod_int Tryd.underlying28 (by simpa using f3)
          obtain ⟨x4, e4, _, w4⟩ := DataW.trod_int Tryd.underlying28 (by simpa using f4)
          simp at e0 e1 e2 e3 e4
          subst e0 e1 e2 e3 e4
          refine ⟨⟨x0, x1, x2, x3, x4⟩, ⟨wf_u16 w0, wf_u16 w1, wf_u16 w2, wf_u16 w3, wf_u16 w4⟩, fun j u hj => ?_⟩
          have hjl : j < 5 := (List.getElem?_eq_some_iff.1 hj).1
          have := hat j hjl
          rw [Go.Deep.add_add, hj] at this
          exact this
    obtain ⟨l, hll, hp⟩ := list_of _ len key
    subst hll
    refine ⟨some a, _, l, rfl, hl, ⟨rfl, ?_, fun _ => ⟨a, rfl, fun j q hq => ⟨_, rfl, k67_mk W q, (hp j q hq).2⟩⟩⟩, fun x hx => ?_⟩
    · have := hm; unfold maxLen at this; omega
    · obtain ⟨i, hi'⟩ := List.mem_iff_getElem?.1 hx
      exact (hp i x hi').1
end
/-- The witness's world: the settled one, each listed variable holding what the program's text lays. -/
def layIn (vs : List Value) : Obj → Obj
  | .cells _ t frozen => .cells vs.toArray t frozen
  | o => o
noncomputable def laidWorld (os : Os) : World :=
  { World.holding Tryd.prog os ⟨#[], #[], []⟩ with heap := ((((((World.holding Tryd.prog os ⟨#[], #[], []⟩).heap.modify 1 (layIn [(.int .u64 1), (.int .u64 10), (.int .u64 100), (.int .u64 1000), (.int .u64 10000), (.int .u64 100000), (.int .u64 1000000), (.int .u64 10000000), (.int .u64 100000000), (.int .u64 1000000000), (.int .u64 10000000000), (.int .u64 100000000000), (.int .u64 1000000000000), (.int .u64 10000000000000), (.int .u64 100000000000000), (.int .u64 1000000000000000), (.int .u64 10000000000000000), (.int .u64 100000000000000000), (.int .u64 1000000000000000000), (.int .u64 10000000000000000000)])).modify 3 (layIn [(.int .u8 128), (.int .u8 191), (.int .u8 160), (.int .u8 191), (.int .u8 128), (.int .u8 159), (.int .u8 144), (.int .u8 191), (.int .u8 128), (.int .u8 143), (.int .u8 0), (.int .u8 0), (.int .u8 0), (.int .u8 0), (.int .u8 0), (.int .u8 0), (.int .u8 0), (.int .u8 0), (.int .u8 0), (.int .u8 0), (.int .u8 0), (.int .u8 0), (.int .u8 0), (.int .u8 0), (.int .u8 0), (.int .u8 0), (.int .u8 0), (.int .u8 0), (.int .u8 0), (.int .u8 0), (.int .u8 0), (.int .u8 0)])).modify 4 (layIn [(.int .u8 0), (.int .u8 1), (.int .u8 28), (.int .u8 2), (.int .u8 29), (.int .u8 14), (.int .u8 24), (.int .u8 3), (.int .u8 30), (.int .u8 22), (.int .u8 20), (.int .u8 15), (.int .u8 25), (.int .u8 17), (.int .u8 4), (.int .u8 8), (.int .u8 31), (.int .u8 27), (.int .u8 13), (.int .u8 23), (.int .u8 21), (.int .u8 19), (.int .u8 16), (.int .u8 7), (.int .u8 26), (.int .u8 12), (.int .u8 18), (.int .u8 6), (.int .u8 11), (.int .u8 5), (.int .u8 10), (.int .u8 9)])).modify 5 (layIn [(.int .u8 0), (.int .u8 1), (.int .u8 56), (.int .u8 2), (.int .u8 57), (.int .u8 49), (.int .u8 28), (.int .u8 3), (.int .u8 61), (.int .u8 58), (.int .u8 42), (.int .u8 50), (.int .u8 38), (.int .u8 29), (.int .u8 17), (.int .u8 4), (.int .u8 62), (.int .u8 47), (.int .u8 59), (.int .u8 36), (.int .u8 45), (.int .u8 43), (.int .u8 51), (.int .u8 22), (.int .u8 53), (.int .u8 39), (.int .u8 33), (.int .u8 30), (.int .u8 24), (.int .u8 18), (.int .u8 12), (.int .u8 5), (.int .u8 63), (.int .u8 55), (.int .u8 48), (.int .u8 27), (.int .u8 60), (.int .u8 41), (.int .u8 37), (.int .u8 16), (.int .u8 46), (.int .u8 35), (.int .u8 44), (.int .u8 21), (.int .u8 52), (.int .u8 32), (.int .u8 23), (.int .u8 11), (.int .u8 54), (.int .u8 26), (.int .u8 40), (.int .u8 15), (.int .u8 34), (.int .u8 20), (.int .u8 31), (.int .u8 10), (.int .u8 25), (.int .u8 14), (.int .u8 19), (.int .u8 9), (.int .u8 13), (.int .u8 8), (.int .u8 7), (.int .u8 6)])).modify 2 (layIn (Go.Pinned.utf8FirstZ.map fun (n : Nat) => Value.int .u8 (n : Int)))) }
section
variable {H : Type} {enc : TypeId × Value → H} {W : World} {base : Nat}
set_option maxRecDepth 100000 in
/-- A row by value. -/
theorem open_row {v : Value} {d : DataW H} {p : List MemPlace} (hv : Value.okWide Tryd.prog W .any base 39 v) (h : DataW.Trod enc Tryd.prog W 0 (fun _ => true) true 39 v d p) :
    ∃ (a0 a1 a2 a3 a4 a5 : Int), v = .agg #[.int .i64 a0, .int .i64 a1, .int .i64 a2, .int .i64 a3, .int .i64 a4, .int .i64 a5] ∧ Ok39 ⟨a0, a1, a2, a3, a4, a5⟩ := by
  obtain ⟨cs, rfl, hsz⟩ := okWide_struct Tryd.underlying39 hv
  obtain ⟨l⟩ := cs
  match l, hsz.trans cells39 with
  | [c0, c1, c2, c3, c4, c5], _ =>
    obtain ⟨fuel, hf⟩ := h
    obtain ⟨ys, n', hn', hy, hlen, hyl, hfl⟩ := DataW.trod_struct Tryd.underlying39 hf
    match ys, hyl with
    | [y0, y1, y2, y3, y4, y5], _ =>
      have f0 : DataW.trod enc Tryd.prog W 0 (fun _ => true) true n' 3 (([c0, c1, c2, c3, c4, c5].drop 0).take (Tryd.prog.cellsOf 3)) = some y0 := hfl 0 _ rfl
      rw [cells3] at f0
      obtain ⟨x0, e0, _, w0⟩ := DataW.trod_int Tryd.underlying3 (by simpa using f0)
      have f1 : DataW.trod enc Tryd.prog W 0 (fun _ => true) true n' 3 (([c0, c1, c2, c3, c4, c5].drop 1).take (Tryd.prog.cellsOf 3)) = some y1 := hfl 1 _ rfl
      rw [cells3] at f1
      obtain ⟨x1, e1, _, w1⟩ := DataW.trod_int Tryd.underlying3 (by simpa using f1)
      have f2 : DataW.trod enc Tryd.prog W 0 (fun _ => true) true n' 3 (([c0, c1, c2, c3, c4, c5].drop 2).take (Tryd.prog.cellsOf 3)) = some y2 := hfl 2 _ rfl
      rw [cells3] at f2
      obtain ⟨x2, e2, _, w2⟩ := DataW.trod_int Tryd.underlying3 (by simpa using f2)
      have f3 : DataW.trod enc Tryd.prog W 0 (fun _ => true) true n' 3 (([c0, c1, c2, c3, c4, c5].drop 3).take (Tryd.prog.cellsOf 3)) = some y3 := hfl 3 _ rfl
      rw [cells3] at f3
      obtain ⟨x3, e3, _, w3⟩ := DataW.trod_int Tryd.underlying3 (by simpa using f3)
      have f4 : DataW.trod enc Tryd.prog W 0 (fun _ => true) true n' 2 (([c0, c1, c2, c3, c4, c5].drop 4).take (Tryd.prog.cellsOf 2)) = some y4 := hfl 4 _ rfl
      rw [cells2] at f4
      obtain ⟨x4, e4, _, w4⟩ := DataW.trod_int Tryd.underlying2 (by simpa using f4)
      have f5 : DataW.trod enc Tryd.prog W 0 (fun _ => true) true n' 2 (([c0, c1, c2, c3, c4, c5].drop 5).take (Tryd.prog.cellsOf 2)) = some y5 := hfl 5 _ rfl
      rw [cells2] at f5
      obtain ⟨x5, e5, _, w5⟩ := DataW.trod_int Tryd.underlying2 (by simpa using f5)
      simp at e0 e1 e2 e3 e4 e5
      subst e0 e1 e2 e3 e4 e5
      exact ⟨x0, x1, x2, x3, x4, x5, rfl, ⟨wf_i64 w0, wf_i64 w1, wf_i64 w2, wf_i64 w3, wf_i64 w4, wf_i64 w5⟩⟩
end
end Go.Proofs.YtcehmgmhlmbhnaaDoor
