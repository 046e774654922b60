/- What the two Checks of histories compute. -/
import Derived.Test.YtcehmgmhlmbhnaaDoorPr31
import Derived.Test.YtcehmgmhlmbhnaaDoorPr32
import Derived.Test.YtcehmgmhlmbhnaaDoorPureList
namespace Go.Proofs.YtcehmgmhlmbhnaaDoor.Pure
open Go.RowKit Go.Proofs.YtcehmgmhlmbhnaaDoor Go.Proofs.YtcehmgmhlmbhnaaDoor.Pr Go.Proofs.YtcehmgmhlmbhnaaDoorW.PrintWords
/-- The numbers of a row are in range. -/
abbrev rangeOk (r : S39) : Prop := 0 ≤ r.f0 ∧ r.f0 ≤ 1048576 ∧ 1 ≤ r.f1 ∧ r.f1 ≤ 3 ∧ 0 ≤ r.f4 ∧ r.f4 ≤ 1125899906842624 ∧ 0 ≤ r.f5 ∧ r.f5 ≤ 1125899906842624
/-- The parties of a row are none. -/
abbrev partyBad (P : Int) (r : S39) : Prop := r.f2 < 0 ∨ r.f2 ≥ P ∨ r.f3 < 0 ∨ r.f3 ≥ P ∨ r.f2 = r.f3
/-- The error of a row behind the day d; e: what follows it where there is none. -/
def rowErr (P : Int) (r : S39) (d e : Int) : Int := if ¬ rangeOk r ∨ (r.f5 ≠ 0 ∧ r.f1 ≠ 3) then 1 else if partyBad P r then 14 else if r.f0 < d then 15 else e
/-- The error of rows behind the day d. -/
def checkL (P : Int) : Int → List S39 → Int
  | _, [] => 0
  | d, r :: t => rowErr P r d (checkL P r.f0 t)
/-- The error of a history. -/
def checkF (P : Int) (x : List S39) : Int := if x.length > 256 then 2 else checkL P 0 x
theorem cr_j2 (r : S39) (d : Int) (b : Bool) : Ev (fun k => history_checkRow.j2 k d b r.f0 r.f1 r.f2 r.f3 r.f4 r.f5) (if b = true then 14 else if r.f0 < d then 15 else 0) := by
  cases b with
  | true => exact Ev.step (fun k => by rw [history_checkRow.j2, if_pos rfl]; rfl) (Ev.now _)
  | false =>
    refine Ev.step (fun k => by rw [history_checkRow.j2, if_neg (by simp)]) ?_
    rw [if_neg (show ¬ (false = true) by simp)]
    by_cases c : r.f0 < d
    · rw [show (if r.f0 < d then (15 : Int) else 0) = 15 from if_pos c]; exact Ev.congr (fun k => if_pos c) (Ev.now _)
    · rw [show (if r.f0 < d then (15 : Int) else 0) = 0 from if_neg c]; exact Ev.congr (fun k => if_neg c) (Ev.now _)
theorem cr_j1 (P : Int) (r : S39) (d : Int) (b : Bool) : Ev (fun k => history_checkRow.j1 k P d b r.f0 r.f1 r.f2 r.f3 r.f4 r.f5) (if b = true then 1 else if partyBad P r then 14 else if r.f0 < d then 15 else 0) := by
  cases b with
  | true => exact Ev.step (fun k => by rw [history_checkRow.j1, if_pos rfl]; rfl) (Ev.now _)
  | false =>
    refine Ev.step (fun k => by rw [history_checkRow.j1, if_neg (by simp)]) ?_
    rw [if_neg (show ¬ (false = true) by simp)]
    have t := cr_j2 r d true
    rw [if_pos rfl] at t
    by_cases c1 : r.f2 < 0
    · rw [if_pos (show partyBad P r from .inl c1)]; exact Ev.congr (fun k => if_pos c1) t
    by_cases c2 : r.f2 ≥ P
    · rw [if_pos (show partyBad P r from .inr (.inl c2))]; exact Ev.congr (fun k => by rw [if_neg c1, if_pos c2]) t
    by_cases c3 : r.f3 < 0
    · rw [if_pos (show partyBad P r from .inr (.inr (.inl c3)))]; exact Ev.congr (fun k => by rw [if_neg c1, if_neg c2, if_pos c3]) t
    by_cases c4 : r.f3 ≥ P
    · rw [if_pos (show partyBad P r from .inr (.inr (.inr (.inl c4))))]; exact Ev.congr (fun k => by rw [if_neg c1, if_neg c2, if_neg c3, if_pos c4]) t
    refine Ev.congr (fun k => by rw [if_neg c1, if_neg c2, if_neg c3, if_neg c4]) ?_
    by_cases c5 : r.f2 = r.f3
    · rw [if_pos (show partyBad P r from .inr (.inr (.inr (.inr c5)))), show (r.f2 == r.f3) = true from beq_iff_eq.2 c5]; exact t
    · rw [if_neg (show ¬ partyBad P r by rintro (h | h | h | h | h) <;> contradiction), show (r.f2 == r.f3) = false from beq_eq_false_iff_ne.2 c5]
      have u := cr_j2 r d false
      rw [if_neg (show ¬ (false = true) by simp)] at u
      exact u
theorem cr_j0 (P : Int) (r : S39) (d : Int) (b : Bool) : Ev (fun k => history_checkRow.j0 k P d b r.f0 r.f1 r.f2 r.f3 r.f4 r.f5) (if ¬ (b = true) ∨ (r.f5 ≠ 0 ∧ r.f1 ≠ 3) then 1 else if partyBad P r then 14 else if r.f0 < d then 15 else 0) := by
  have bad := cr_j1 P r d true
  rw [if_pos rfl] at bad
  have good := cr_j1 P r d false
  rw [if_neg (show ¬ (false = true) by simp)] at good
  cases b with
  | false =>
    rw [if_pos (.inl (by simp))]
    exact Ev.step (fun k => by rw [history_checkRow.j0, if_neg (by simp)]) bad
  | true =>
    refine Ev.step (fun k => by rw [history_checkRow.j0, if_pos rfl]) ?_
    by_cases c : r.f5 = 0
    · rw [if_neg (by simp [c])]
      exact Ev.congr (fun k => if_pos c) good
    · refine Ev.congr (fun k => if_neg c) ?_
      by_cases c3 : r.f1 = 3
      · rw [if_neg (by simp [c3]), show (r.f1 != 3) = false by simp [c3]]; exact good
      · rw [if_pos (.inr ⟨c, c3⟩), show (r.f1 != 3) = true by simp [c3]]; exact bad
theorem ev_checkRow (P : Int) (r : S39) (d : Int) : Ev (fun k => history_checkRow.f k P r.f0 r.f1 r.f2 r.f3 r.f4 r.f5 d) (rowErr P r d 0) := by
  have bad := cr_j0 P r d false
  rw [if_pos (.inl (by simp))] at bad
  have isbad : ¬ rangeOk r → rowErr P r d 0 = 1 := fun h => by unfold rowErr; rw [if_pos (.inl h)]
  by_cases c0 : r.f0 ≥ 0
  · by_cases c1 : r.f0 ≤ 1048576
    · by_cases c2 : r.f1 ≥ 1
      · by_cases c3 : r.f1 ≤ 3
        · by_cases c4 : r.f4 ≥ 0
          · by_cases c5 : r.f4 ≤ 1125899906842624
            · by_cases c6 : r.f5 ≥ 0
              · refine Ev.congr (fun k => by rw [history_checkRow.f, if_pos c0, if_pos c1, if_pos c2, if_pos c3, if_pos c4, if_pos c5, if_pos c6]) ?_
                have t := cr_j0 P r d (decide (r.f5 ≤ 1125899906842624))
                by_cases c7 : r.f5 ≤ 1125899906842624
                · have e : rowErr P r d 0 = if ¬ (decide (r.f5 ≤ 1125899906842624) = true) ∨ (r.f5 ≠ 0 ∧ r.f1 ≠ 3) then 1 else if partyBad P r then 14 else if r.f0 < d then 15 else 0 := by
                    unfold rowErr
                    have h1 : rangeOk r := ⟨c0, c1, c2, c3, c4, c5, c6, c7⟩
                    by_cases z : r.f5 ≠ 0 ∧ r.f1 ≠ 3
                    · rw [if_pos (.inr z), if_pos (.inr z)]
                    · rw [if_neg (by rintro (h | h); exact h h1; exact z h), if_neg (show ¬ (¬ (decide (r.f5 ≤ 1125899906842624) = true) ∨ (r.f5 ≠ 0 ∧ r.f1 ≠ 3)) by rintro (h | h); exact h (decide_eq_true c7); exact z h)]
                  rw [e]; exact t
                · rw [isbad (fun h => c7 h.2.2.2.2.2.2.2)]
                  rw [decide_eq_false c7] at t ⊢
                  exact bad
              · rw [isbad (fun h => c6 h.2.2.2.2.2.2.1)]
                exact Ev.congr (fun k => by rw [history_checkRow.f, if_pos c0, if_pos c1, if_pos c2, if_pos c3, if_pos c4, if_pos c5, if_neg c6]) bad
            · rw [isbad (fun h => c5 h.2.2.2.2.2.1)]
              exact Ev.congr (fun k => by rw [history_checkRow.f, if_pos c0, if_pos c1, if_pos c2, if_pos c3, if_pos c4, if_neg c5]) bad
          · rw [isbad (fun h => c4 h.2.2.2.2.1)]
            exact Ev.congr (fun k => by rw [history_checkRow.f, if_pos c0, if_pos c1, if_pos c2, if_pos c3, if_neg c4]) bad
        · rw [isbad (fun h => c3 h.2.2.2.1)]
          exact Ev.congr (fun k => by rw [history_checkRow.f, if_pos c0, if_pos c1, if_pos c2, if_neg c3]) bad
      · rw [isbad (fun h => c2 h.2.2.1)]
        exact Ev.congr (fun k => by rw [history_checkRow.f, if_pos c0, if_pos c1, if_neg c2]) bad
    · rw [isbad (fun h => c1 h.2.1)]
      exact Ev.congr (fun k => by rw [history_checkRow.f, if_pos c0, if_neg c1]) bad
  · rw [isbad (fun h => c0 h.1)]
    exact Ev.congr (fun k => by rw [history_checkRow.f, if_neg c0]) bad
theorem rowErr_zero (P : Int) (r : S39) (d e : Int) : rowErr P r d e = if rowErr P r d 0 = 0 then e else rowErr P r d 0 := by
  unfold rowErr
  repeat' split
  all_goals first | rfl | contradiction | omega
theorem hcheck_l0 (P : Int) (x : List S39) (hlen : x.length ≤ 1000000) : ∀ (n j : Nat) (d : Int), j + n = x.length → Ev (fun k => history_Check.l0 k P d x (x.length : Int) (j : Int)) (checkL P d (x.drop j))
  | 0, j, d, h => by
    rw [List.drop_of_length_le (by omega), checkL]
    exact Ev.step (fun k => by rw [history_Check.l0, if_neg (by omega)]) (Ev.now _)
  | n + 1, j, d, h => by
    have hj : j < x.length := by omega
    rw [rd39_drop x j hj, checkL, rowErr_zero]
    refine Ev.step (fun k => by rw [history_Check.l0, if_pos (by omega), if_pos (by omega), if_pos (by omega), succ64 j _ hj hlen]) (Ev.bind (ev_checkRow P _ d) ?_)
    by_cases c : rowErr P (rd_T39 x (j : Int)) d 0 = 0
    · rw [if_pos c]
      exact Ev.congr (fun k => if_pos c) (hcheck_l0 P x hlen n (j + 1) _ (by omega))
    · rw [if_neg c]
      exact Ev.congr (fun k => if_neg c) (Ev.now _)
theorem ev_check_h (P : Int) (x : List S39) : Ev (fun k => history_Check.f k P x) (checkF P x) := by
  unfold checkF
  by_cases c : (x.length : Int) > 256
  · rw [if_pos (by omega)]
    exact Ev.congr (fun k => by rw [history_Check.f, if_pos c]) (Ev.now _)
  · rw [if_neg (by omega)]
    exact Ev.congr (fun k => by rw [history_Check.f, if_neg c]; rfl) (hcheck_l0 P x (by omega) x.length 0 0 (by omega))
/-- The day before the j-th row. -/
def dayBefore (x : List S39) (j : Nat) : Int := if j = 0 then 0 else (rd_T39 x ((j - 1 : Nat) : Int)).f0
theorem rc_j2 (P : Int) (x : List S39) (j : Nat) (hj : j < x.length) (hlen : x.length ≤ 1000000) (r : S39) (h0 : 0 ≤ r.f0) (e : Int) (hk : Ev (fun k => insolvencyref25_Check.l0 k P x ((j + 1 : Nat) : Int)) e) (b : Bool) : Ev (fun k => insolvencyref25_Check.j2 k P x (j : Int) b r.f0 r.f1 r.f2 r.f3 r.f4 r.f5) (if b = true then 14 else if r.f0 < dayBefore x j then 15 else e) := by
  cases b with
  | true => exact Ev.step (fun k => by rw [insolvencyref25_Check.j2, if_pos rfl]; rfl) (Ev.now _)
  | false =>
    rw [if_neg (show ¬ (false = true) by simp)]
    by_cases z : j = 0
    · have ed : dayBefore x j = 0 := if_pos z
      rw [ed, if_neg (by omega)]
      exact Ev.step (fun k => by rw [insolvencyref25_Check.j2, if_neg (by simp), if_neg (by omega), succ64 j _ hj hlen]) hk
    · have ed : dayBefore x j = (rd_T39 x ((j - 1 : Nat) : Int)).f0 := if_neg z
      have e1 : wrap64 ((j : Int) - 1) = ((j - 1 : Nat) : Int) := by unfold wrap64; omega
      rw [ed]
      refine Ev.step (fun k => by rw [insolvencyref25_Check.j2, if_neg (by simp), if_pos (by omega), e1, if_pos (by omega), if_pos (by omega), succ64 j _ hj hlen]) ?_
      by_cases c : r.f0 < (rd_T39 x ((j - 1 : Nat) : Int)).f0
      · rw [if_pos c]; exact Ev.congr (fun k => if_pos c) (Ev.now _)
      · rw [if_neg c]; exact Ev.congr (fun k => if_neg c) hk
theorem rc_j1 (P : Int) (x : List S39) (j : Nat) (hj : j < x.length) (hlen : x.length ≤ 1000000) (r : S39) (h0 : 0 ≤ r.f0) (e : Int) (hk : Ev (fun k => insolvencyref25_Check.l0 k P x ((j + 1 : Nat) : Int)) e) : Ev (fun k => insolvencyref25_Check.j1 k P x (j : Int) false r.f0 r.f1 r.f2 r.f3 r.f4 r.f5) (if partyBad P r then 14 else if r.f0 < dayBefore x j then 15 else e) := by
  refine Ev.step (fun k => by rw [insolvencyref25_Check.j1, if_neg (by simp)]) ?_
  have t := rc_j2 P x j hj hlen r h0 e hk true
  rw [if_pos rfl] at t
  by_cases c1 : r.f2 < 0
  · rw [if_pos (show partyBad P r from .inl c1)]; exact Ev.congr (fun k => if_pos c1) t
  by_cases c2 : r.f2 ≥ P
  · rw [if_pos (show partyBad P r from .inr (.inl c2))]; exact Ev.congr (fun k => by rw [if_neg c1, if_pos c2]) t
  by_cases c3 : r.f3 < 0
  · rw [if_pos (show partyBad P r from .inr (.inr (.inl c3)))]; exact Ev.congr (fun k => by rw [if_neg c1, if_neg c2, if_pos c3]) t
  by_cases c4 : r.f3 ≥ P
  · rw [if_pos (show partyBad P r from .inr (.inr (.inr (.inl c4))))]; exact Ev.congr (fun k => by rw [if_neg c1, if_neg c2, if_neg c3, if_pos c4]) t
  refine Ev.congr (fun k => by rw [if_neg c1, if_neg c2, if_neg c3, if_neg c4]) ?_
  by_cases c5 : r.f2 = r.f3
  · rw [if_pos (show partyBad P r from .inr (.inr (.inr (.inr c5)))), show (r.f2 == r.f3) = true from beq_iff_eq.2 c5]; exact t
  · rw [if_neg (show ¬ partyBad P r by rintro (h | h | h | h | h) <;> contradiction), show (r.f2 == r.f3) = false from beq_eq_false_iff_ne.2 c5]
    have u := rc_j2 P x j hj hlen r h0 e hk false
    rw [if_neg (show ¬ (false = true) by simp)] at u
    exact u
theorem cents_eq (n : Int) : insolvencyref25_cents.f n = some (decide (0 ≤ n ∧ n ≤ 1125899906842624)) := by
  unfold insolvencyref25_cents.f
  by_cases c : n ≥ 0
  · rw [if_pos c]; congr 1; exact decide_eq_decide.2 (by omega)
  · rw [if_neg c, decide_eq_false (by omega)]
theorem day_eq (n : Int) : insolvencyref25_day.f n = some (decide (0 ≤ n ∧ n ≤ 1048576)) := by
  unfold insolvencyref25_day.f
  by_cases c : n ≥ 0
  · rw [if_pos c]; congr 1; exact decide_eq_decide.2 (by omega)
  · rw [if_neg c, decide_eq_false (by omega)]
theorem rcheck_l0 (P : Int) (x : List S39) (hlen : x.length ≤ 1000000) : ∀ (n j : Nat), j + n = x.length → Ev (fun k => insolvencyref25_Check.l0 k P x (j : Int)) (checkL P (dayBefore x j) (x.drop j))
  | 0, j, h => by
    rw [List.drop_of_length_le (by omega), checkL]
    exact Ev.step (fun k => by rw [insolvencyref25_Check.l0, if_neg (by omega)]) (Ev.now _)
  | n + 1, j, h => by
    have hj : j < x.length := by omega
    have ih := rcheck_l0 P x hlen n (j + 1) (by omega)
    have ed : dayBefore x (j + 1) = (rd_T39 x (j : Int)).f0 := by unfold dayBefore; rw [if_neg (by omega), Nat.add_sub_cancel]
    rw [ed] at ih
    rw [rd39_drop x j hj, checkL]
    have isbad : ¬ rangeOk (rd_T39 x (j : Int)) → rowErr P (rd_T39 x (j : Int)) (dayBefore x j) (checkL P (rd_T39 x (j : Int)).f0 (x.drop (j + 1))) = 1 := fun h => by unfold rowErr; rw [if_pos (.inl h)]
    have bad : Ev (fun k => insolvencyref25_Check.j1 k P x (j : Int) true (rd_T39 x (j : Int)).f0 (rd_T39 x (j : Int)).f1 (rd_T39 x (j : Int)).f2 (rd_T39 x (j : Int)).f3 (rd_T39 x (j : Int)).f4 (rd_T39 x (j : Int)).f5) 1 := Ev.step (fun k => by rw [insolvencyref25_Check.j1, if_pos rfl]) (Ev.now _)
    refine Ev.step (fun k => by rw [insolvencyref25_Check.l0, if_pos (by omega), if_pos (by omega), day_eq, Option.bind_some, cents_eq, Option.bind_some, cents_eq, Option.bind_some]) ?_
    by_cases c0 : 0 ≤ (rd_T39 x (j : Int)).f0 ∧ (rd_T39 x (j : Int)).f0 ≤ 1048576
    · refine Ev.congr (fun k => if_pos (decide_eq_true c0)) ?_
      by_cases c1 : (rd_T39 x (j : Int)).f1 < 1
      · rw [isbad (fun h => by omega)]
        exact Ev.congr (fun k => if_pos c1) bad
      by_cases c2 : (rd_T39 x (j : Int)).f1 > 3
      · rw [isbad (fun h => by omega)]
        exact Ev.congr (fun k => by rw [if_neg c1, if_pos c2]) bad
      refine Ev.congr (fun k => by rw [if_neg c1, if_neg c2]) ?_
      by_cases c3 : 0 ≤ (rd_T39 x (j : Int)).f4 ∧ (rd_T39 x (j : Int)).f4 ≤ 1125899906842624
      · refine Ev.congr (fun k => if_pos (decide_eq_true c3)) ?_
        by_cases c4 : 0 ≤ (rd_T39 x (j : Int)).f5 ∧ (rd_T39 x (j : Int)).f5 ≤ 1125899906842624
        · refine Ev.congr (fun k => if_pos (decide_eq_true c4)) ?_
          have hr : rangeOk (rd_T39 x (j : Int)) := ⟨c0.1, c0.2, by omega, by omega, c3.1, c3.2, c4.1, c4.2⟩
          have good := rc_j1 P x j hj hlen _ c0.1 _ ih
          have eg : ¬ ((rd_T39 x (j : Int)).f5 ≠ 0 ∧ (rd_T39 x (j : Int)).f1 ≠ 3) → rowErr P (rd_T39 x (j : Int)) (dayBefore x j) (checkL P (rd_T39 x (j : Int)).f0 (x.drop (j + 1))) = (if partyBad P (rd_T39 x (j : Int)) then 14 else if (rd_T39 x (j : Int)).f0 < dayBefore x j then 15 else checkL P (rd_T39 x (j : Int)).f0 (x.drop (j + 1))) := fun h => by
            unfold rowErr
            rw [if_neg (by rintro (q | q); exact q hr; exact h q)]
          by_cases c5 : (rd_T39 x (j : Int)).f5 = 0
          · rw [eg (fun h => h.1 c5)]
            exact Ev.congr (fun k => if_pos c5) good
          · refine Ev.congr (fun k => if_neg c5) ?_
            by_cases c6 : (rd_T39 x (j : Int)).f1 = 3
            · rw [eg (fun h => h.2 c6), show ((rd_T39 x (j : Int)).f1 != 3) = false by simp [c6]]
              exact good
            · have e1 : rowErr P (rd_T39 x (j : Int)) (dayBefore x j) (checkL P (rd_T39 x (j : Int)).f0 (x.drop (j + 1))) = 1 := by unfold rowErr; rw [if_pos (.inr ⟨c5, c6⟩)]
              rw [e1, show ((rd_T39 x (j : Int)).f1 != 3) = true by simp [c6]]
              exact bad
        · rw [isbad (fun h => c4 ⟨h.2.2.2.2.2.2.1, h.2.2.2.2.2.2.2⟩)]
          exact Ev.congr (fun k => if_neg (by simpa using c4)) bad
      · rw [isbad (fun h => c3 ⟨h.2.2.2.2.1, h.2.2.2.2.2.1⟩)]
        exact Ev.congr (fun k => if_neg (by simpa using c3)) bad
    · rw [isbad (fun h => c0 ⟨h.1, h.2.1⟩)]
      exact Ev.congr (fun k => if_neg (by simpa using c0)) bad
theorem ev_check_r (P : Int) (x : List S39) : Ev (fun k => insolvencyref25_Check.f k P x) (checkF P x) := by
  unfold checkF
  by_cases c : (x.length : Int) > 256
  · rw [if_pos (by omega)]
    exact Ev.congr (fun k => by rw [insolvencyref25_Check.f, if_pos c]) (Ev.now _)
  · rw [if_neg (by omega)]
    exact Ev.congr (fun k => by rw [insolvencyref25_Check.f, if_neg c]; rfl) (rcheck_l0 P x (by omega) x.length 0 (by omega))
end Go.Proofs.YtcehmgmhlmbhnaaDoor.Pure
