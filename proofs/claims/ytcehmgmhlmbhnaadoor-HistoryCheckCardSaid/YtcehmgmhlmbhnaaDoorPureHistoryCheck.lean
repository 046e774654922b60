/- The plain statement of HistoryCheck. -/
import Derived.Test.YtcehmgmhlmbhnaaDoorCk
import Derived.Test.YtcehmgmhlmbhnaaDoorOpen
import Derived.Test.YtcehmgmhlmbhnaaDoorPureCheck
namespace Go.Proofs.YtcehmgmhlmbhnaaDoor.Pure
open Go.RowKit Go.Proofs.YtcehmgmhlmbhnaaDoor Go.Proofs.YtcehmgmhlmbhnaaDoor.Pr Go.Proofs.YtcehmgmhlmbhnaaDoorW.PrintWords
theorem check_j1 (a0 : Int) (l x : List S39) : Ev (fun k => insolvencylaw25_HistoryCheck.j1 k a0 l x) true := by
  refine Ev.step (fun k => by rw [insolvencylaw25_HistoryCheck.j1]) (Ev.bind ev_awake (Ev.congr (fun k => if_pos rfl) ?_))
  refine Ev.bind (ev_check_h _ _) (Ev.bind (ev_check_r _ _) (Ev.congr (fun k => if_pos rfl) ?_))
  refine Ev.bind (ev_check_h _ _) (Ev.bind (ev_check_r _ _) ?_)
  simpa using Ev.now true
theorem ite_j1 {c : Prop} [Decidable c] {f g : Nat → Option Bool} (hf : Ev f true) (hg : Ev g true) : Ev (fun k => if c then f k else g k) true := by
  by_cases h : c
  · exact Ev.congr (fun k => if_pos h) hf
  · exact Ev.congr (fun k => if_neg h) hg
theorem HistoryCheck (a0 : Int) (l1 : List S39) (l2 : List S67) (a3 a4 : Int) (_h0 : (Lit.int .i64 a0).wf = true) (_h1 : ∀ x ∈ l1, Ok39 x) (h2 : ∀ x ∈ l2, Ok67 x) (h3 : (Lit.int .u8 a3).wf = true) (_h4 : (Lit.int .u8 a4).wf = true) : ∃ k, insolvencylaw25_HistoryCheck.f k a0 l1 l2 a3 a4 = some true := by
  have b3 : 0 ≤ a3 ∧ a3 ≤ 255 := by
    simp only [Lit.wf, Bool.and_eq_true, decide_eq_true_eq] at h3
    exact h3
  refine Ev.rounds (g := fun k => insolvencylaw25_HistoryCheck.f k a0 l1 l2 a3 a4) ?_
  have key : ∀ b : Bool, Ev (fun k => insolvencylaw25_HistoryCheck.j0 k a0 l1 l2 a3 a4 b) true := by
    intro b
    cases b with
    | true => exact Ev.step (fun k => by rw [insolvencylaw25_HistoryCheck.j0, if_pos rfl]) (Ev.bind ev_awake (Ev.now true))
    | false =>
      refine Ev.step (fun k => by rw [insolvencylaw25_HistoryCheck.j0, if_neg (by simp), rows_eq l2 4 20 (by omega) (by omega) h2, Option.bind_some]) ?_
      generalize rowsF 4 0 (l2.take (Int.toNat 20)) = x
      by_cases c : (x.length : Int) > 0
      · have e3 : wrap64 a3 = a3 := by unfold wrap64; omega
        have em : Int.tmod a3 (x.length : Int) = a3 % (x.length : Int) := Int.tmod_eq_emod_of_nonneg b3.1
        have m0 : 0 ≤ a3 % (x.length : Int) := Int.emod_nonneg _ (by omega)
        have m1 : a3 % (x.length : Int) < (x.length : Int) := Int.emod_lt_of_pos _ c
        refine Ev.congr (fun k => by rw [if_pos c, if_neg (by omega), e3, em, if_pos m0, if_pos m1]) ?_
        repeat' first | exact check_j1 _ _ _ | refine ite_j1 ?_ ?_
      · exact Ev.congr (fun k => if_neg c) (check_j1 _ _ _)
  by_cases c : (l1.length : Int) > 12
  · exact Ev.congr (fun k => by rw [insolvencylaw25_HistoryCheck.f, if_pos c]) (key true)
  · exact Ev.congr (fun k => by rw [insolvencylaw25_HistoryCheck.f, if_neg c]) (key _)
end Go.Proofs.YtcehmgmhlmbhnaaDoor.Pure
