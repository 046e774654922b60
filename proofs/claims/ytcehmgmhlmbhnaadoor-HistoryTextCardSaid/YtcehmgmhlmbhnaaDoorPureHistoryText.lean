/- The plain statement of HistoryText. -/
import Derived.Test.YtcehmgmhlmbhnaaDoorPr22
import Derived.Test.YtcehmgmhlmbhnaaDoorOpen
import Derived.Test.YtcehmgmhlmbhnaaDoorPureBack
namespace Go.Proofs.YtcehmgmhlmbhnaaDoor.Pure
open Go.RowKit Go.Proofs.YtcehmgmhlmbhnaaDoor Go.Proofs.YtcehmgmhlmbhnaaDoor.Pr Go.Proofs.YtcehmgmhlmbhnaaDoorW.PrintWords
theorem HistoryText (l : List S67) (hl : ∀ x ∈ l, Ok67 x) : ∃ k, insolvencylaw25_HistoryText.f k l = some true := by
  refine Ev.rounds (g := fun k => insolvencylaw25_HistoryText.f k l) (Ev.congr (fun k => by rw [insolvencylaw25_HistoryText.f, rows_eq l 4 40 (by omega) (by omega) hl, Option.bind_some]) ?_)
  have hb := fun r hr => rows_built l 4 40 (by omega) hl r hr
  have hlen : (rowsF 4 0 (l.take (Int.toNat 40))).length ≤ 40 := by rw [rowsF_length, List.length_take]; omega
  have hin := rows_in l 4 40 (by omega) (by omega) hl
  generalize rowsF 4 0 (l.take (Int.toNat 40)) = x at *
  have hf : ∀ r ∈ x, fitsRow r = true := fun r hr => (hb r hr).1.fits (by omega) (by have := (hb r hr).2; omega)
  have ht := textOf_len x hin
  have ef : fmt x = textOf x := by
    unfold fmt fmtFrom
    rw [if_pos (by omega), if_pos ⟨List.all_eq_true.2 hf, by rw [List.nil_append]; omega⟩, List.nil_append]
  have ep := ev_parse_h (textOf x)
  rw [parse_back x hf (by omega) (by omega)] at ep
  have eh := ev_fmt_h x hin
  rw [ef] at eh
  refine Ev.bind eh (Ev.bind ep (Ev.bind ev_awake ?_))
  refine Ev.congr (fun k => by rw [if_pos rfl, if_pos rfl, if_pos rfl]) ?_
  exact Ev.bind (ev_same_rows x (by omega)) (Ev.now true)
end Go.Proofs.YtcehmgmhlmbhnaaDoor.Pure
