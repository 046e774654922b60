/- A text's bytes as a new slice. -/
import Derived.Test.YtcehmgmhlmbhnaaDoorPr0
import Derived.Lib.AtoiErrMem
namespace Go.Proofs.YtcehmgmhlmbhnaaDoor.Pr
open Go.RowKit Go.Proofs.YtcehmgmhlmbhnaaDoorW.PrintWords
/-- The bytes of a text as numbers. -/
def strNums (s : ByteArray) : List Int := s.data.toList.map fun b => ((b.toNat : Nat) : Int)
theorem strNums_length (s : ByteArray) : (strNums s).length = s.size := by rw [strNums, List.length_map, ← Lib.size_eq]
theorem conv_bytes (w : World) (s : ByteArray) (hs : s.size ≤ 1000000) : ∃ (A : Option Addr) (c : Nat) (w1 : World), (convert 9 29 (.string s)).run Tryd.prog w = .ok (.slice A (strNums s).length c) w1 ∧ Below w.heap.size w w1 ∧ Kd.C (Kd.int .u8) w1 A (strNums s).length (strNums s) ∧ (strNums s).length ≤ c := by
  refine ⟨some ⟨w.heap.size, 0, none⟩, grownCap w s.size 0 5, Lib.bytesWorld w 5 s, ?_, Lib.bytesWorld_below _ _ _, ⟨rfl, ?_, fun _ => ⟨⟨w.heap.size, 0, none⟩, rfl, fun j q hq => ⟨_, rfl, rfl, fun j' u hu => ?_⟩⟩⟩, ?_⟩
  · rw [strNums_length]
    exact Lib.run_convert_string_bytes w 9 29 5 s Tryd.underlying9 Tryd.underlying29 Tryd.underlying5
  · rw [strNums_length]; omega
  · have hj' : j' < 1 := (List.getElem?_eq_some_iff.1 hu).1
    obtain rfl : j' = 0 := by omega
    have hl : j < s.size := by
      have := (List.getElem?_eq_some_iff.1 hq).1
      rw [strNums_length] at this
      exact this
    have hc := Lib.bytesWorld_cell w 5 s j hl
    have hu' : Value.int .u8 q = u := by simpa using hu
    rw [← hu']
    have hd : j < s.data.toList.length := by rw [← Lib.size_eq]; exact hl
    have hq' : q = (((s.data.toList.getD j 0).toNat : Nat) : Int) := by
      unfold strNums at hq
      rw [List.getElem?_map, List.getElem?_eq_getElem hd] at hq
      rw [List.getD, List.getElem?_eq_getElem hd]
      exact (Option.some.inj hq).symm
    rw [hq']
    have hz : (Kd.int .u8).sz = 1 := rfl
    rw [hz, add_off, Nat.mul_one, Nat.zero_add, Nat.add_zero]
    exact hc
  · rw [strNums_length]; exact grownCap_ge _ _ _ _
section
variable {rest : List Oper} {o : Oper} {a : Act} {Q : Exit → Act → World → Prop}
theorem conv_list {opsA : Array Oper} {W : World} (hgd : o.guard = none) (x : Operand) (ho : o.op = .convert 9 29 x) (s : ByteArray) (hx : a.eval x = .string s) (hs : s.size ≤ 1000000)
    (h : ∀ (A : Option Addr) (c : Nat) (w1 : World), Below W.heap.size W w1 → Kd.C (Kd.int .u8) w1 A (strNums s).length (strNums s) → (strNums s).length ≤ c → wpList Tryd.prog opsA Q rest (a.put o.dst (.slice A (strNums s).length c)) w1) : wpList Tryd.prog opsA Q (o :: rest) a W := by
  obtain ⟨A, c, w1, hc, hb, hC, hl⟩ := conv_bytes W s hs
  refine Kd.event_run hgd ?_ (h A c w1 hb hC hl)
  simp [execOp, ho, hx, hc]
end
end Go.Proofs.YtcehmgmhlmbhnaaDoor.Pr
