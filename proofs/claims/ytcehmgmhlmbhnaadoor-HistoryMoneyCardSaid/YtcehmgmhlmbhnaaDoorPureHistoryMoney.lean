/- The plain statement of HistoryMoney. -/
import Derived.Test.YtcehmgmhlmbhnaaDoorPr24
import Derived.Test.YtcehmgmhlmbhnaaDoorOpen
import Derived.Test.YtcehmgmhlmbhnaaDoorPureMoney
namespace Go.Proofs.YtcehmgmhlmbhnaaDoor.Pure
open Go.RowKit Go.Proofs.YtcehmgmhlmbhnaaDoor Go.Proofs.YtcehmgmhlmbhnaaDoor.Pr Go.Proofs.YtcehmgmhlmbhnaaDoorW.PrintWords
/-- A row only moves money. -/
theorem money_sum (r : S39) (h : Built 4 r) : wrap64 (wrap64 (wrap64 (wrap64 (0 + money r 0) + money r 1) + money r 2) + money r 3) = 0 := by
  have hg : -40 ≤ gain r ∧ gain r ≤ 40 := by
    unfold Built at h
    unfold gain
    split
    · omega
    · split
      · unfold wrap64; omega
      · omega
  have e : wrap64 (-gain r) = -gain r := by unfold wrap64; omega
  obtain ⟨_, _, ⟨f0, f1⟩, ⟨t0, t1⟩, ne, _⟩ := h
  unfold money
  rw [e]
  generalize gain r = g at *
  have hf : r.f2 = 0 ∨ r.f2 = 1 ∨ r.f2 = 2 ∨ r.f2 = 3 := by omega
  have ht : r.f3 = 0 ∨ r.f3 = 1 ∨ r.f3 = 2 ∨ r.f3 = 3 := by omega
  rcases hf with hf | hf | hf | hf <;> rcases ht with ht | ht | ht | ht <;> rw [hf, ht] at ne ⊢ <;> first | exact absurd rfl ne | (simp; unfold wrap64; omega)
theorem rd_mem (l : List S39) (i : Int) (h0 : 0 ≤ i) (h : i < (l.length : Int)) : rd_T39 l i ∈ l := by
  have hl : i.toNat < l.length := by omega
  simp [rd_T39, List.getD, List.getElem?_eq_getElem hl]
theorem hm_l1 (p i s q : Int) (x : List S39) (a0 a1 a2 a3 a4 a5 : Int) (h0 : 0 ≤ i) (h : i < (x.length : Int)) (hq : q < 4) (hb : Built 4 (rd_T39 x i))
    (hk : Ev (fun k => insolvencylaw25_HistoryMoney.l1 k p x i (wrap64 (s + money (rd_T39 x i) q)) (wrap64 (q + 1)) a0 a1 a2 a3 a4 a5) true) : Ev (fun k => insolvencylaw25_HistoryMoney.l1 k p x i s q a0 a1 a2 a3 a4 a5) true := by
  refine Ev.step (fun k => by rw [insolvencylaw25_HistoryMoney.l1, if_pos hq, if_pos h0, if_pos h]) ?_
  refine Ev.bind (ev_money_h _ _ hb.amount) (Ev.bind (ev_money_r _ _ hb.amount) ?_)
  exact Ev.congr (fun k => if_pos rfl) hk
theorem hm_row (p i : Int) (x : List S39) (a0 a1 a2 a3 a4 a5 : Int) (h0 : 0 ≤ i) (h : i < (x.length : Int)) (hb : Built 4 (rd_T39 x i))
    (hk : Ev (fun k => insolvencylaw25_HistoryMoney.l0 k p x (wrap64 (i + 1)) a0 a1 a2 a3 a4 a5) true) : Ev (fun k => insolvencylaw25_HistoryMoney.l1 k p x i 0 0 a0 a1 a2 a3 a4 a5) true := by
  have e1 : wrap64 (0 + 1) = 1 := by unfold wrap64; omega
  have e2 : wrap64 (1 + 1) = 2 := by unfold wrap64; omega
  have e3 : wrap64 (2 + 1) = 3 := by unfold wrap64; omega
  have e4 : wrap64 (3 + 1) = 4 := by unfold wrap64; omega
  refine hm_l1 p i 0 0 x _ _ _ _ _ _ h0 h (by omega) hb ?_
  rw [e1]
  refine hm_l1 p i _ 1 x _ _ _ _ _ _ h0 h (by omega) hb ?_
  rw [e2]
  refine hm_l1 p i _ 2 x _ _ _ _ _ _ h0 h (by omega) hb ?_
  rw [e3]
  refine hm_l1 p i _ 3 x _ _ _ _ _ _ h0 h (by omega) hb ?_
  rw [e4, money_sum _ hb]
  exact Ev.step (fun k => by rw [insolvencylaw25_HistoryMoney.l1, if_neg (by omega), if_pos rfl]) hk
theorem hm_l0 (p : Int) (x : List S39) (a0 a1 a2 a3 a4 a5 : Int) (ha : In64 a4) (hx : ∀ r ∈ x, Built 4 r) (hlen : x.length ≤ 1000) : ∀ (n : Nat) (i : Int), 0 ≤ i → i + n = x.length → Ev (fun k => insolvencylaw25_HistoryMoney.l0 k p x i a0 a1 a2 a3 a4 a5) true
  | 0, i, h0, hn => by
    refine Ev.step (fun k => by rw [insolvencylaw25_HistoryMoney.l0, if_neg (by omega)]) ?_
    refine Ev.bind ev_awake (Ev.congr (fun k => if_pos rfl) ?_)
    refine Ev.bind (ev_money_h ⟨a0, a1, a2, a3, a4, a5⟩ p ha) (Ev.bind (ev_money_r ⟨a0, a1, a2, a3, a4, a5⟩ p ha) ?_)
    simpa using Ev.now true
  | n + 1, i, h0, hn => by
    have hi : i < (x.length : Int) := by omega
    refine Ev.step (fun k => by rw [insolvencylaw25_HistoryMoney.l0, if_pos hi]) (hm_row p i x a0 a1 a2 a3 a4 a5 h0 hi (hx _ (rd_mem x i h0 hi)) ?_)
    have e : wrap64 (i + 1) = i + 1 := by unfold wrap64; omega
    rw [e]
    exact hm_l0 p x a0 a1 a2 a3 a4 a5 ha hx hlen n (i + 1) (by omega) (by omega)
theorem HistoryMoney (a0 a1 a2 a3 a4 a5 : Int) (p : Int) (l : List S67) (h0 : Ok39 ⟨a0, a1, a2, a3, a4, a5⟩) (_hp : (Lit.int .i64 p).wf = true) (hl : ∀ x ∈ l, Ok67 x) : ∃ k, insolvencylaw25_HistoryMoney.f k a0 a1 a2 a3 a4 a5 p l = some true := by
  refine Ev.rounds (g := fun k => insolvencylaw25_HistoryMoney.f k a0 a1 a2 a3 a4 a5 p l) (Ev.congr (fun k => by rw [insolvencylaw25_HistoryMoney.f, rows_eq l 4 10 (by omega) (by omega) hl, Option.bind_some]) ?_)
  have hlen : (rowsF 4 0 (l.take (Int.toNat 10))).length ≤ 10 := by rw [rowsF_length, List.length_take]; omega
  exact hm_l0 p _ a0 a1 a2 a3 a4 a5 h0.2.2.2.2.1 (fun r hr => (rows_built l 4 10 (by omega) hl r hr).1) (by omega) (rowsF 4 0 (l.take (Int.toNat 10))).length 0 (by omega) (by omega)
end Go.Proofs.YtcehmgmhlmbhnaaDoor.Pure
