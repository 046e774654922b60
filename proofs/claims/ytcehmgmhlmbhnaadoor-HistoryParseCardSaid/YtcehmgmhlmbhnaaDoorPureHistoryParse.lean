/- The plain statement of HistoryParse. -/
import Derived.Test.YtcehmgmhlmbhnaaDoorPs
import Derived.Test.YtcehmgmhlmbhnaaDoorOpen
import Derived.Test.YtcehmgmhlmbhnaaDoorPureSame
import Derived.Test.YtcehmgmhlmbhnaaDoorPureFormat
namespace Go.Proofs.YtcehmgmhlmbhnaaDoor.Pure
open Go.RowKit Go.Proofs.YtcehmgmhlmbhnaaDoor Go.Proofs.YtcehmgmhlmbhnaaDoor.Pr Go.Proofs.YtcehmgmhlmbhnaaDoorW.PrintWords
theorem fmt_len (x : List S39) : (fmt x).length ≤ 8192 := by
  unfold fmt fmtFrom
  split
  · split
    · rename_i h; exact h.2
    · simp
  · simp
theorem parse_tail (s u : ByteArray) : Ev (fun k => (insolvencylaw25_awake.f k).bind fun t => (if t = true then ((insolvencylaw25_same.f k s).bind fun t1 => (if t1 = true then ((insolvencylaw25_same.f k u).bind fun t2 => (some t2)) else (some false))) else (some false))) true := by
  have h0 := ev_same s.data.toList
  have h1 := ev_same u.data.toList
  rw [bs_of] at h0 h1
  refine Ev.bind ev_awake (Ev.congr (fun k => if_pos rfl) ?_)
  exact Ev.bind h0 (Ev.congr (fun k => if_pos rfl) (Ev.bind h1 (Ev.now true)))
theorem tmod_in (a n : Int) (h0 : 0 ≤ a) (hn : 0 < n) : 0 ≤ Int.tmod a n ∧ Int.tmod a n < n := by
  rw [Int.tmod_eq_emod_of_nonneg h0]
  exact ⟨Int.emod_nonneg _ (by omega), Int.emod_lt_of_pos _ hn⟩
theorem HistoryParse (a0 : ByteArray) (l1 : List S67) (a2 a3 a4 : Int) (_h0 : a0.size ≤ maxLen) (h1 : ∀ x ∈ l1, Ok67 x) (h2 : (Lit.int .u16 a2).wf = true) (_h3 : (Lit.int .u8 a3).wf = true) (_h4 : (Lit.int .u8 a4).wf = true) : ∃ k, insolvencylaw25_HistoryParse.f k a0 l1 a2 a3 a4 = some true := by
  have b2 : 0 ≤ a2 ∧ a2 ≤ 65535 := by
    simp only [Lit.wf, Bool.and_eq_true, decide_eq_true_eq] at h2
    exact h2
  have hw : wrap64 a2 = a2 := by unfold wrap64; omega
  refine Ev.rounds (g := fun k => insolvencylaw25_HistoryParse.f k a0 l1 a2 a3 a4) ?_
  by_cases c6 : (a0.size : Int) > 300
  · exact Ev.congr (fun k => by rw [insolvencylaw25_HistoryParse.f, if_pos c6]) (Ev.bind ev_awake (Ev.now true))
  by_cases c9 : (l1.length : Int) > 24
  · exact Ev.congr (fun k => by rw [insolvencylaw25_HistoryParse.f, if_neg c6, if_pos c9]) (Ev.bind ev_awake (Ev.now true))
  refine Ev.congr (fun k => by rw [insolvencylaw25_HistoryParse.f, if_neg c6, if_neg c9, rows_eq l1 4 20 (by omega) (by omega) h1, Option.bind_some, hw]) ?_
  have hin := rows_in l1 4 20 (by omega) (by omega) h1
  generalize rowsF 4 0 (l1.take (Int.toNat 20)) = x at *
  refine Ev.bind (ev_fmt_r x hin) ?_
  have hsz : (bs (fmt x)).size ≤ 8192 := by rw [bs_size]; exact fmt_len x
  generalize bs (fmt x) = t at *
  have hlen : (strNums t).length ≤ 8192 := by rw [strNums_length]; exact hsz
  refine Ev.congr (fun k => if_pos (by omega)) ?_
  clear hsz
  generalize strNums t = xs at *
  by_cases c15 : (xs.length : Int) > 0
  · refine Ev.congr (fun k => if_pos c15) (Ev.congr (fun k => if_neg (by omega)) ?_)
    have hj := tmod_in a2 xs.length b2.1 c15
    generalize Int.tmod a2 xs.length = j at *
    by_cases c17 : Int.tmod a4 4 = 0
    · refine Ev.congr (fun k => if_pos c17) (Ev.congr (fun k => if_pos hj.1) (Ev.congr (fun k => if_pos hj.2) ?_))
      exact parse_tail _ _
    refine Ev.congr (fun k => if_neg c17) ?_
    by_cases c18 : Int.tmod a4 4 = 1
    · refine Ev.congr (fun k => if_pos c18) ?_
      have t1 : (xs.take j.toNat).length ≤ xs.length := by rw [List.length_take]; omega
      have t2 : (xs.drop j.toNat).length ≤ xs.length := by rw [List.length_drop]; omega
      refine Ev.congr (fun k => by rw [Option.bind_some, if_pos hj.1, if_pos (Int.le_of_lt hj.2), if_pos (by simp only [List.length_nil]; omega), Option.bind_some, Option.bind_some, if_pos (by simp only [List.length_append, List.length_cons, List.length_nil]; omega), Option.bind_some, if_pos (by simp only [List.length_append, List.length_cons, List.length_nil]; omega)]) ?_
      exact parse_tail _ _
    refine Ev.congr (fun k => if_neg c18) ?_
    by_cases c84 : Int.tmod a4 4 = 2
    · refine Ev.congr (fun k => if_pos c84) ?_
      have hw1 : wrap64 (j + 1) = j + 1 := by unfold wrap64; omega
      have t1 : (xs.take j.toNat).length ≤ xs.length := by rw [List.length_take]; omega
      have t2 : (xs.drop (j + 1).toNat).length ≤ xs.length := by rw [List.length_drop]; omega
      refine Ev.congr (fun k => by rw [Option.bind_some, if_pos hj.1, if_pos (Int.le_of_lt hj.2), if_pos (by simp only [List.length_nil]; omega), Option.bind_some, hw1, if_pos (by omega), if_pos (by omega), if_pos (by simp only [List.length_append, List.length_nil]; omega)]) ?_
      exact parse_tail _ _
    refine Ev.congr (fun k => if_neg c84) ?_
    exact parse_tail _ _
  · refine Ev.congr (fun k => if_neg c15) ?_
    exact parse_tail _ _
end Go.Proofs.YtcehmgmhlmbhnaaDoor.Pure
