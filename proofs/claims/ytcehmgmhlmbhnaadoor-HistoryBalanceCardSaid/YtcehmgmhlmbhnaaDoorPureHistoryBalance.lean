/- The plain statement of HistoryBalance. -/
import Derived.Test.YtcehmgmhlmbhnaaDoorPr28
import Derived.Test.YtcehmgmhlmbhnaaDoorOpen
import Derived.Test.YtcehmgmhlmbhnaaDoorPureBalance
namespace Go.Proofs.YtcehmgmhlmbhnaaDoor.Pure
open Go.RowKit Go.Proofs.YtcehmgmhlmbhnaaDoor Go.Proofs.YtcehmgmhlmbhnaaDoor.Pr Go.Proofs.YtcehmgmhlmbhnaaDoorW.PrintWords
theorem HistoryBalance (l0 : List S39) (l1 : List S67) (a2 a3 a4 a5 : Int) (h0 : ∀ x ∈ l0, Ok39 x) (h1 : ∀ x ∈ l1, Ok67 x) (_h2 : (Lit.int .i8 a2).wf = true) (_h3 : (Lit.int .i64 a3).wf = true) (_h4 : (Lit.int .u8 a4).wf = true) (_h5 : (Lit.int .u8 a5).wf = true) : ∃ k, insolvencylaw25_HistoryBalance.f k l0 l1 a2 a3 a4 a5 = some true := by
  refine Ev.rounds (g := fun k => insolvencylaw25_HistoryBalance.f k l0 l1 a2 a3 a4 a5) ?_
  have key : ∀ b : Bool, ((l0.length : Int) > 12 → b = true) → Ev (fun k => insolvencylaw25_HistoryBalance.j0 k l0 l1 a2 a3 a4 a5 b) true := by
    intro b hb
    cases b with
    | true => exact Ev.step (fun k => by rw [insolvencylaw25_HistoryBalance.j0, if_pos rfl]) (Ev.bind ev_awake (Ev.now true))
    | false =>
      have hl : l0.length ≤ 12 := by
        by_cases c : (l0.length : Int) > 12
        · exact absurd (hb c) (by simp)
        · omega
      refine Ev.step (fun k => by rw [insolvencylaw25_HistoryBalance.j0, if_neg (by simp), rows_eq l1 4 20 (by omega) (by omega) h1, Option.bind_some]) ?_
      have f0 : Fits l0 := ⟨fun r hr => (h0 r hr).2.2.2.2.1, by omega⟩
      have f1 : Fits (rowsF 4 0 (l1.take (Int.toNat 20))) := rows_fits l1 4 20 (by omega) (by omega) h1
      refine Ev.bind ev_awake (Ev.congr (fun k => if_pos rfl) ?_)
      refine Ev.bind (ev_bal_h _ _ _ _ f1) (Ev.bind (ev_bal_r _ _ _ _ f1) (Ev.congr (fun k => if_pos rfl) ?_))
      refine Ev.bind (ev_low_h _ _ _ _ _ f1) (Ev.bind (ev_low_r _ _ _ _ _ f1) (Ev.congr (fun k => if_pos rfl) ?_))
      refine Ev.bind (ev_bal_h _ _ _ _ f0) (Ev.bind (ev_bal_r _ _ _ _ f0) (Ev.congr (fun k => if_pos rfl) ?_))
      refine Ev.bind (ev_low_h _ _ _ _ _ f0) (Ev.bind (ev_low_r _ _ _ _ _ f0) ?_)
      simpa using Ev.now true
  by_cases c : (l0.length : Int) > 12
  · exact Ev.congr (fun k => by rw [insolvencylaw25_HistoryBalance.f, if_pos c]) (key true (fun _ => rfl))
  · exact Ev.congr (fun k => by rw [insolvencylaw25_HistoryBalance.f, if_neg c]) (key _ (fun h => absurd h c))
end Go.Proofs.YtcehmgmhlmbhnaaDoor.Pure
