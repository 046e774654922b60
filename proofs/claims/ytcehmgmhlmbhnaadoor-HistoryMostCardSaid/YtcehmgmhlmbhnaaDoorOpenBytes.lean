/- A slice of bytes that came in. -/
import Derived.Test.YtcehmgmhlmbhnaaDoorOpen
namespace Go.Proofs.YtcehmgmhlmbhnaaDoor
open Go.ChangeShapes Go.WideShapes Go.ChangeAt Go.RowKit Go.Deep
open Go.Proofs.YtcehmgmhlmbhnaaDoorW.PrintWords Pr
open Go.RowKit Go.Proofs.YtcehmgmhlmbhnaaDoor.Pr Go.Proofs.YtcehmgmhlmbhnaaDoorW.PrintWords
section
variable {H : Type} {enc : TypeId × Value → H} {W : World} {base : Nat}
theorem cells5 : Tryd.prog.cellsOf 5 = 1 := by kernel_rfl
set_option maxRecDepth 100000 in
theorem open_bytes {v : Value} {d : DataW H} {p : List MemPlace} (hv : Value.okWide Tryd.prog W .any base 29 v) (h : DataW.Trod enc Tryd.prog W 0 (fun _ => true) true 29 v d p) :
    ∃ (A : Option Addr) (c : Nat) (l : List Int), v = .slice A l.length c ∧ l.length ≤ c ∧ Kd.C (Kd.int .u8) W A l.length l ∧ (∀ x ∈ l, (Lit.int .u8 x).wf = true) := by
  obtain ⟨a0, len, cap, rfl⟩ := okWide_slice Tryd.underlying29 hv
  obtain ⟨fuel, hf⟩ := h
  rcases open_slice Tryd.underlying29 hf with ⟨hcs, hx⟩ | ⟨a, len', cap', m, n, D, Pl, hcs, hb, hl, hm, hmm, hx, hi⟩
  · simp [Value.cells] at hcs
    obtain ⟨rfl, rfl, rfl⟩ := hcs
    exact ⟨none, 0, [], rfl, Nat.le_refl _, Kd.C_nil _ _, by simp⟩
  · simp [Value.cells] at hcs
    obtain ⟨rfl, rfl, rfl⟩ := hcs
    simp at hmm
    subst hmm
    have key : ∀ i, i < len → ∃ x : Int, (Lit.int .u8 x).wf = true ∧ ∀ j u, [Value.int .u8 x][j]? = some u → W.cell? (a.add (i * 1 + j)) = some u := by
      intro i hil
      obtain ⟨cs', hc, ht'⟩ := hi i (by omega)
      rw [cells5] at hc
      obtain ⟨_, hcl, hat⟩ := World.cells?_some hc
      match cs', hcl with
      | [c0], _ =>
        obtain ⟨x0, e0, _, w0⟩ := DataW.trod_int Tryd.underlying5 ht'
        simp at e0
        subst e0
        refine ⟨x0, w0, fun j u hj => ?_⟩
        have hjl : j < 1 := (List.getElem?_eq_some_iff.1 hj).1
        have := hat j hjl
        rw [Go.Deep.add_add, hj] at this
        exact this
    obtain ⟨l, hll, hp⟩ := list_of _ len key
    subst hll
    refine ⟨some a, _, l, rfl, hl, ⟨rfl, ?_, fun _ => ⟨a, rfl, fun j q hq => ⟨_, rfl, rfl, (hp j q hq).2⟩⟩⟩, fun x hx => ?_⟩
    · have := hm; unfold maxLen at this; omega
    · obtain ⟨i, hi'⟩ := List.mem_iff_getElem?.1 hx
      exact (hp i x hi').1
end
end Go.Proofs.YtcehmgmhlmbhnaaDoor
