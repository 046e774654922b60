/- What the histories' Money computes, and the rows that the laws build. -/
import Derived.Test.YtcehmgmhlmbhnaaDoorPr10
import Derived.Test.YtcehmgmhlmbhnaaDoorPr12
import Derived.Test.YtcehmgmhlmbhnaaDoorPr23
import Derived.Test.YtcehmgmhlmbhnaaDoorPureAwake
namespace Go.Proofs.YtcehmgmhlmbhnaaDoor.Pure
open Go.RowKit Go.Proofs.YtcehmgmhlmbhnaaDoor Go.Proofs.YtcehmgmhlmbhnaaDoor.Pr Go.Proofs.YtcehmgmhlmbhnaaDoorW.PrintWords
/-- The worth of a row for the one who receives it. -/
def gain (r : S39) : Int := if r.f1 = 1 then r.f4 else if r.f1 = 3 then wrap64 (-r.f4) else 0
/-- By how much a row changes the balance of a party. -/
def money (r : S39) (p : Int) : Int := if r.f3 = p then (if r.f2 = p then 0 else gain r) else (if r.f2 = p then wrap64 (-gain r) else 0)
theorem gain_in (r : S39) (h : In64 r.f4) : In64 (gain r) := by
  obtain ⟨h1, h2⟩ := h
  unfold gain In64
  split
  · omega
  · split
    · unfold wrap64; omega
    · omega
theorem money_h (x0 x1 x2 x3 x4 x5 p : Int) (k : Nat) (h : In64 x4) : history_Money.f (k + 1) x0 x1 x2 x3 x4 x5 p = some (money ⟨x0, x1, x2, x3, x4, x5⟩ p) := by
  have hg := gain_in ⟨x0, x1, x2, x3, x4, x5⟩ h
  have e : history_Money.f (k + 1) x0 x1 x2 x3 x4 x5 p = history_Money.j0 (k + 1) p (gain ⟨x0, x1, x2, x3, x4, x5⟩) x0 x1 x2 x3 x4 x5 := by
    unfold history_Money.f gain
    simp only
    repeat' split
    all_goals rfl
  rw [e]
  unfold money
  generalize gain ⟨x0, x1, x2, x3, x4, x5⟩ = g at *
  obtain ⟨g1, g2⟩ := hg
  simp only [history_Money.j0]
  repeat' split
  all_goals first | rfl | (congr 1; unfold wrap64; omega)
theorem money_r (x0 x1 x2 x3 x4 x5 p : Int) (k : Nat) (h : In64 x4) : insolvencyref25_Money.f (k + 1) x0 x1 x2 x3 x4 x5 p = some (money ⟨x0, x1, x2, x3, x4, x5⟩ p) := by
  have hg := gain_in ⟨x0, x1, x2, x3, x4, x5⟩ h
  have e : insolvencyref25_Money.f (k + 1) x0 x1 x2 x3 x4 x5 p = insolvencyref25_Money.j0 (k + 1) p (wrap64 (-gain ⟨x0, x1, x2, x3, x4, x5⟩)) x0 x1 x2 x3 x4 x5 := by
    obtain ⟨h1, h2⟩ := h
    unfold insolvencyref25_Money.f gain
    simp only
    repeat' split
    · rfl
    · congr 1; unfold wrap64; omega
    · congr 1; unfold wrap64; omega
  rw [e]
  unfold money
  generalize gain ⟨x0, x1, x2, x3, x4, x5⟩ = g at *
  obtain ⟨g1, g2⟩ := hg
  simp only [insolvencyref25_Money.j0]
  repeat' split
  all_goals first | contradiction | rfl | (congr 1; unfold wrap64; omega) | (congr 1; done) | (simp; done)
theorem ev_money_h (r : S39) (p : Int) (h : In64 r.f4) : Ev (fun k => history_Money.f k r.f0 r.f1 r.f2 r.f3 r.f4 r.f5 p) (money r p) := Ev.of (history_Money.mono _ _ _ _ _ _ _) (money_h _ _ _ _ _ _ _ 0 h)
theorem ev_money_r (r : S39) (p : Int) (h : In64 r.f4) : Ev (fun k => insolvencyref25_Money.f k r.f0 r.f1 r.f2 r.f3 r.f4 r.f5 p) (money r p) := Ev.of (insolvencyref25_Money.mono _ _ _ _ _ _ _) (money_r _ _ _ _ _ _ _ 0 h)
theorem ev_awake : Ev (fun k => insolvencylaw25_awake.f k) true := Ev.of insolvencylaw25_awake.mono awake
/-- A row as the laws build them, of P parties. -/
def Built (P : Int) (r : S39) : Prop := (0 ≤ r.f0) ∧ (1 ≤ r.f1 ∧ r.f1 ≤ 3) ∧ (0 ≤ r.f2 ∧ r.f2 < P) ∧ (0 ≤ r.f3 ∧ r.f3 < P) ∧ r.f2 ≠ r.f3 ∧ (0 ≤ r.f4 ∧ r.f4 < 40) ∧ (0 ≤ r.f5 ∧ r.f5 < 60) ∧ (r.f1 ≠ 3 → r.f5 = 0)
theorem okB_of (x : S67) (h : Ok67 x) : okB x = true := decide_eq_true h
theorem rowOf_built (P d : Int) (x : S67) (hP : 2 ≤ P) (hd : 0 ≤ d) (hx : Ok67 x) : Built P (rowOf P d x) := by
  obtain ⟨⟨_, _⟩, ⟨_, _⟩, ⟨_, _⟩, ⟨_, _⟩, ⟨_, _⟩⟩ := hx
  have t0 : 0 ≤ x.f3 % (P - 1) := Int.emod_nonneg _ (by omega)
  have t1 : x.f3 % (P - 1) < P - 1 := Int.emod_lt_of_pos _ (by omega)
  have f0 : 0 ≤ x.f2 % P := Int.emod_nonneg _ (by omega)
  have f1 : x.f2 % P < P := Int.emod_lt_of_pos _ (by omega)
  unfold Built rowOf
  simp only
  refine ⟨by omega, by omega, ⟨f0, f1⟩, ?_, ?_, by omega, ?_, ?_⟩
  · split <;> omega
  · split <;> omega
  · split <;> omega
  · intro h; rw [if_neg (by omega)]
theorem rowsF_built (P : Int) (hP : 2 ≤ P) : ∀ (l : List S67) (d : Int), 0 ≤ d → (∀ x ∈ l, Ok67 x) → ∀ r ∈ rowsF P d l, Built P r ∧ d ≤ r.f0 ∧ r.f0 ≤ d + 5 * l.length
  | [], _, _, _, r, h => by simp [rowsF] at h
  | x :: t, d, hd, hl, r, h => by
    have hx := hl x (List.mem_cons_self ..)
    have e0 : 0 ≤ x.f0 % 6 := Int.emod_nonneg _ (by omega)
    have e1 : x.f0 % 6 < 6 := Int.emod_lt_of_pos _ (by omega)
    rw [List.length_cons]
    rcases List.mem_cons.1 h with rfl | h
    · refine ⟨rowOf_built P d x hP hd hx, ?_⟩
      simp only [rowOf]
      omega
    · obtain ⟨a, b, c⟩ := rowsF_built P hP t (d + x.f0 % 6) (by omega) (fun y hy => hl y (List.mem_cons_of_mem _ hy)) r h
      exact ⟨a, by omega, by omega⟩
theorem rows_eq (l : List S67) (P n : Int) (hP : 2 ≤ P ∧ P ≤ 1000) (hn : 0 ≤ n ∧ n ≤ 1000) (hl : ∀ x ∈ l, Ok67 x) : insolvencylaw0_Rows.f l P n = some (rowsF P 0 (l.take n.toNat)) := by
  unfold insolvencylaw0_Rows.f
  rw [if_pos ⟨hP, hn⟩, if_pos (List.all_eq_true.2 fun x hx => okB_of x (hl x hx))]
theorem rows_built (l : List S67) (P n : Int) (hP : 2 ≤ P) (hl : ∀ x ∈ l, Ok67 x) : ∀ r ∈ rowsF P 0 (l.take n.toNat), Built P r ∧ r.f0 ≤ 5 * n.toNat := by
  intro r hr
  obtain ⟨a, _, c⟩ := rowsF_built P hP _ 0 (by omega) (fun x hx => hl x (List.mem_of_mem_take hx)) r hr
  have : (l.take n.toNat).length ≤ n.toNat := by rw [List.length_take]; omega
  exact ⟨a, by omega⟩
theorem Built.amount {P : Int} {r : S39} (h : Built P r) : In64 r.f4 := by unfold Built at h; unfold In64; omega
end Go.Proofs.YtcehmgmhlmbhnaaDoor.Pure
