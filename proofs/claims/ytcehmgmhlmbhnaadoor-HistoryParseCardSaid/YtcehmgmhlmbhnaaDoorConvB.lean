/- A text's bytes as a new slice, with its block: what is stored into it. -/
import Derived.Test.YtcehmgmhlmbhnaaDoorConv
namespace Go.Proofs.YtcehmgmhlmbhnaaDoor.Pr
open Go.RowKit Go.Proofs.YtcehmgmhlmbhnaaDoorW.PrintWords
/-- The block b holds these bytes, and is marked one past its end alone. -/
def BA (w : World) (b : Nat) (xs : List Int) : Prop := ∃ (cs : Array Value) (e : TypeId), w.heap[b]? = some (.cells cs e (cs.size, cs.size + 1)) ∧ ∀ (j : Nat) (x : Int), xs[j]? = some x → cs[j]? = some (Value.int .u8 x)
theorem BA.cell {w : World} {b : Nat} {xs : List Int} (h : BA w b xs) {j : Nat} {x : Int} (hj : xs[j]? = some x) : w.cell? ⟨b, j, none⟩ = some (.int .u8 x) := by
  obtain ⟨cs, e, h1, h2⟩ := h
  simp [World.cell?, h1, h2 j x hj]
theorem BA.frozen {w : World} {b : Nat} {xs : List Int} (h : BA w b xs) {j : Nat} (hj : j < xs.length) : w.frozen? ⟨b, j, none⟩ = false := by
  obtain ⟨cs, e, h1, h2⟩ := h
  have hc := h2 j _ (List.getElem?_eq_getElem hj)
  have hl : j < cs.size := (Array.getElem?_eq_some_iff.1 hc).1
  simp [World.frozen?, h1]
  omega
theorem BA.set {w : World} {b : Nat} {xs : List Int} (h : BA w b xs) (j : Nat) (x : Int) : BA (w.setCell ⟨b, j, none⟩ (.int .u8 x)) b (xs.set j x) := by
  obtain ⟨cs, e, h1, h2⟩ := h
  refine ⟨cs.setIfInBounds j (.int .u8 x), e, ?_, fun i y hy => ?_⟩
  · have hb := (Array.getElem?_eq_some_iff.1 h1).1
    have h3 := (Array.getElem?_eq_some_iff.1 h1).2
    simp [World.setCell, Array.getElem?_modify, h1]
  · rw [List.getElem?_set] at hy
    by_cases hij : j = i
    · subst hij
      rw [if_pos rfl] at hy
      by_cases hl : j < xs.length
      · rw [if_pos hl] at hy
        obtain rfl := Option.some.inj hy
        have hc := h2 j _ (List.getElem?_eq_getElem hl)
        have hl' : j < cs.size := (Array.getElem?_eq_some_iff.1 hc).1
        simp [hl']
      · rw [if_neg hl] at hy; cases hy
    · rw [if_neg hij] at hy
      rw [Array.getElem?_setIfInBounds_ne hij]
      exact h2 i y hy
theorem BA.C {w : World} {b : Nat} {xs : List Int} (h : BA w b xs) (hl : xs.length ≤ 9223372036854775807) : Kd.C (Kd.int .u8) w (some ⟨b, 0, none⟩) xs.length xs := by
  refine ⟨rfl, hl, fun _ => ⟨⟨b, 0, none⟩, rfl, fun j q hq => ⟨_, rfl, rfl, fun j' u hu => ?_⟩⟩⟩
  have hj' : j' < 1 := (List.getElem?_eq_some_iff.1 hu).1
  obtain rfl : j' = 0 := by omega
  have hu' : Value.int .u8 q = u := by simpa using hu
  rw [← hu']
  have hz : (Kd.int .u8).sz = 1 := rfl
  rw [hz, add_off, Nat.mul_one, Nat.zero_add, Nat.add_zero]
  exact h.cell hq
section
variable {rest : List Oper} {o : Oper} {a : Act} {Q : Exit → Act → World → Prop}
theorem conv_list2 {opsA : Array Oper} {W : World} (hgd : o.guard = none) (x : Operand) (ho : o.op = .convert 9 29 x) (s : ByteArray) (hx : a.eval x = .string s)
    (h : ∀ (b c : Nat) (w1 : World), Below W.heap.size W w1 → W.heap.size ≤ b → BA w1 b (strNums s) → (strNums s).length ≤ c → wpList Tryd.prog opsA Q rest (a.put o.dst (.slice (some ⟨b, 0, none⟩) (strNums s).length c)) w1) : wpList Tryd.prog opsA Q (o :: rest) a W := by
  have hrun := Lib.run_convert_string_bytes W 9 29 5 s Tryd.underlying9 Tryd.underlying29 Tryd.underlying5
  have hl := h W.heap.size (grownCap W s.size 0 5) (Lib.bytesWorld W 5 s) (Lib.bytesWorld_below _ _ _) (Nat.le_refl _) ?_ ?_
  · rw [strNums_length] at hl
    refine Kd.event_run hgd ?_ hl
    simp [execOp, ho, hx, hrun]
  · refine ⟨_, _, Lib.bytesWorld_at_new W 5 s, fun j q hq => ?_⟩
    have hlen := (List.getElem?_eq_some_iff.1 hq).1
    have hl' : j < s.size := by rw [strNums_length] at hlen; exact hlen
    have hd : j < s.data.toList.length := by rw [← Lib.size_eq]; exact hl'
    have hcell := Lib.bytesWorld_cell W 5 s j hl'
    have hq' : q = (((s.data.toList.getD j 0).toNat : Nat) : Int) := by
      unfold strNums at hq
      rw [List.getElem?_map, List.getElem?_eq_getElem hd] at hq
      rw [List.getD, List.getElem?_eq_getElem hd]
      exact (Option.some.inj hq).symm
    rw [hq']
    simp only [World.cell?, Lib.bytesWorld_at_new] at hcell
    simpa using hcell
  · rw [strNums_length]; exact grownCap_ge _ _ _ _
end
end Go.Proofs.YtcehmgmhlmbhnaaDoor.Pr
