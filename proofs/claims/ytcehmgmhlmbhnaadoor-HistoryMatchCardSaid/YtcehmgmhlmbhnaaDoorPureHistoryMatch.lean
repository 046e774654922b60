/- The plain statement of HistoryMatch. -/
import Derived.Test.YtcehmgmhlmbhnaaDoorPr43
import Derived.Test.YtcehmgmhlmbhnaaDoorOpen
import Derived.Test.YtcehmgmhlmbhnaaDoorPureMatch
import Derived.Test.YtcehmgmhlmbhnaaDoorPureState
namespace Go.Proofs.YtcehmgmhlmbhnaaDoor.Pure
open Go.RowKit Go.Proofs.YtcehmgmhlmbhnaaDoor Go.Proofs.YtcehmgmhlmbhnaaDoor.Pr Go.Proofs.YtcehmgmhlmbhnaaDoorW.PrintWords
theorem HistoryMatch (l0 l1 : List S39) (a2 : Int) (l3 : List S67) (a4 : Int) (l5 : List Int) (a6 : Int) (_h0 : ∀ x ∈ l0, Ok39 x) (_h1 : ∀ x ∈ l1, Ok39 x) (_h2 : (Lit.int .i64 a2).wf = true) (h3 : ∀ x ∈ l3, Ok67 x) (_h4 : (Lit.int .u16 a4).wf = true) (_h5 : ∀ x ∈ l5, (Lit.int .u8 x).wf = true) (_h6 : (Lit.int .u8 a6).wf = true) : ∃ k, insolvencylaw25_HistoryMatch.f k l0 l1 a2 l3 a4 l5 a6 = some true := by
  refine Ev.rounds (g := fun k => insolvencylaw25_HistoryMatch.f k l0 l1 a2 l3 a4 l5 a6) ?_
  have key : ∀ b : Bool, Ev (fun k => insolvencylaw25_HistoryMatch.j0 k l0 l1 a2 l3 a4 l5 a6 b) true := by
    intro b
    cases b with
    | true => exact Ev.step (fun k => by rw [insolvencylaw25_HistoryMatch.j0, if_pos rfl]) (Ev.bind ev_awake (Ev.now true))
    | false =>
      refine Ev.step (fun k => by rw [insolvencylaw25_HistoryMatch.j0, if_neg (by simp)]) (Ev.bind (ev_st l3 a4 l5 h3) ?_)
      refine Ev.bind (ev_match_h _ _ _) (Ev.bind (ev_match_r _ _ _) (Ev.bind (ev_match_h _ _ _) (Ev.bind (ev_match_r _ _ _) (Ev.bind ev_awake (Ev.congr (fun k => by rw [if_pos rfl, if_pos rfl]) ?_)))))
      refine Ev.bind (ev_same_pairs _ (by have := matchF_len (stOf l3 a4 l5).1 (stOf l3 a4 l5).2 (wrap64 (Int.tmod a6 6)); omega)) (Ev.congr (fun k => by rw [if_pos rfl, if_pos rfl]) ?_)
      exact Ev.bind (ev_same_pairs _ (by have := matchF_len l0 l1 a2; omega)) (Ev.now true)
  by_cases c : (l0.length : Int) > 8
  · exact Ev.congr (fun k => by rw [insolvencylaw25_HistoryMatch.f, if_pos c]) (key true)
  · exact Ev.congr (fun k => by rw [insolvencylaw25_HistoryMatch.f, if_neg c]) (key _)
end Go.Proofs.YtcehmgmhlmbhnaaDoor.Pure
