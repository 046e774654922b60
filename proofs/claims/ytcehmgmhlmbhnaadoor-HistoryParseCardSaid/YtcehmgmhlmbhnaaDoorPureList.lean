/- Reading lists of rows at a place. -/
import Derived.Test.YtcehmgmhlmbhnaaDoorPureMoney
namespace Go.Proofs.YtcehmgmhlmbhnaaDoor.Pure
open Go.RowKit Go.Proofs.YtcehmgmhlmbhnaaDoor Go.Proofs.YtcehmgmhlmbhnaaDoor.Pr Go.Proofs.YtcehmgmhlmbhnaaDoorW.PrintWords
theorem rd39_drop (x : List S39) (j : Nat) (h : j < x.length) : x.drop j = rd_T39 x (j : Int) :: x.drop (j + 1) := by
  rw [List.drop_eq_getElem_cons h]
  simp [rd_T39, List.getD, List.getElem?_eq_getElem h]
theorem rd39_mem (x : List S39) (j : Nat) (h : j < x.length) : rd_T39 x (j : Int) ∈ x := by
  simp [rd_T39, List.getD, List.getElem?_eq_getElem h]
theorem succ64 (j n : Nat) (h : j < n) (hn : n ≤ 1000000) : wrap64 ((j : Int) + 1) = ((j + 1 : Nat) : Int) := by unfold wrap64; omega
end Go.Proofs.YtcehmgmhlmbhnaaDoor.Pure
