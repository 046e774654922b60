/-
  What the contracts of this seat ask of the world: that the library's two variables that are read hold what the program's text lays (LaidW), and that this stays so in every later world.
-/
import Derived.Test.YtcehmgmhlmbhnaaDoorShelf
import Derived.WalkSmall
import Derived.Lib.LaidTab
namespace Go.Proofs.YtcehmgmhlmbhnaaDoor
open Go Go.RowKit
theorem gMax : Tryd.prog.globalNamed "internal/bytealg.MaxLen" = some 0 := by kernel_rfl
theorem gPow : Tryd.prog.globalNamed "internal/strconv.uint64pow10" = some 1 := by kernel_rfl
/-- The library's variables in this world: the greatest length is some number; the table of powers of ten. -/
structure LaidW (w : World) : Prop where
  big : 1 < w.heap.size
  max_ : ∃ m : Int, w.cell? ⟨0, 0, none⟩ = some (.int .i64 m)
  pow_ : Lib.TabIs Tryd.prog w "internal/strconv.uint64pow10" .u64 Lib.pow10Tab
theorem LaidW.below {w w' : World} (h : LaidW w) (hb : Below w.heap.size w w') : LaidW w' := by
  obtain ⟨h1, ⟨m, h2⟩, h3⟩ := h
  refine ⟨Nat.lt_of_lt_of_le h1 hb.size, ⟨m, (hb.cell (p := ⟨0, 0, none⟩) (by show 0 < w.heap.size; omega)).trans h2⟩, ?_⟩
  exact var?_below hb gPow h1 h3
end Go.Proofs.YtcehmgmhlmbhnaaDoor
