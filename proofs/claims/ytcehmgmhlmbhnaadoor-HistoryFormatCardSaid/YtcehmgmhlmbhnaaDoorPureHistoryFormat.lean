/- The plain statement of HistoryFormat. -/
import Derived.Test.YtcehmgmhlmbhnaaDoorPr16
import Derived.Test.YtcehmgmhlmbhnaaDoorOpen
import Derived.Test.YtcehmgmhlmbhnaaDoorPureFormat
namespace Go.Proofs.YtcehmgmhlmbhnaaDoor.Pure
open Go.RowKit Go.Proofs.YtcehmgmhlmbhnaaDoor Go.Proofs.YtcehmgmhlmbhnaaDoor.Pr Go.Proofs.YtcehmgmhlmbhnaaDoorW.PrintWords
theorem HistoryFormat (l0 : List S39) (l1 : List S67) (h0 : ∀ x ∈ l0, Ok39 x) (h1 : ∀ x ∈ l1, Ok67 x) : ∃ k, insolvencylaw25_HistoryFormat.f k l0 l1 = some true := by
  refine Ev.rounds (g := fun k => insolvencylaw25_HistoryFormat.f k l0 l1) ?_
  have key : ∀ b : Bool, Ev (fun k => insolvencylaw25_HistoryFormat.j0 k l0 l1 b) true := by
    intro b
    cases b with
    | true => exact Ev.step (fun k => by rw [insolvencylaw25_HistoryFormat.j0, if_pos rfl]) (Ev.bind ev_awake (Ev.now true))
    | false =>
      refine Ev.step (fun k => by rw [insolvencylaw25_HistoryFormat.j0, if_neg (by simp), rows_eq l1 4 20 (by omega) (by omega) h1, Option.bind_some]) ?_
      have f1 := rows_in l1 4 20 (by omega) (by omega) h1
      refine Ev.bind ev_awake (Ev.congr (fun k => if_pos rfl) ?_)
      refine Ev.bind (ev_fmt_h l0 h0) (Ev.bind (ev_fmt_r l0 h0) (Ev.congr (fun k => if_pos rfl) ?_))
      refine Ev.bind (ev_fmt_h _ f1) (Ev.bind (ev_fmt_r _ f1) ?_)
      simpa using Ev.now true
  by_cases c : (l0.length : Int) > 12
  · exact Ev.congr (fun k => by rw [insolvencylaw25_HistoryFormat.f, if_pos c]) (key true)
  · exact Ev.congr (fun k => by rw [insolvencylaw25_HistoryFormat.f, if_neg c]) (key _)
end Go.Proofs.YtcehmgmhlmbhnaaDoor.Pure
