/- What the histories' Balance and Lowest compute. -/
import Derived.Test.YtcehmgmhlmbhnaaDoorPr25
import Derived.Test.YtcehmgmhlmbhnaaDoorPr26
import Derived.Test.YtcehmgmhlmbhnaaDoorPr27
import Derived.Test.YtcehmgmhlmbhnaaDoorPureMoney
namespace Go.Proofs.YtcehmgmhlmbhnaaDoor.Pure
open Go.RowKit Go.Proofs.YtcehmgmhlmbhnaaDoor Go.Proofs.YtcehmgmhlmbhnaaDoor.Pr Go.Proofs.YtcehmgmhlmbhnaaDoorW.PrintWords
theorem rd39_drop (x : List S39) (j : Nat) (h : j < x.length) : x.drop j = rd_T39 x (j : Int) :: x.drop (j + 1) := by
  rw [List.drop_eq_getElem_cons h]
  simp [rd_T39, List.getD, List.getElem?_eq_getElem h]
theorem rd39_mem (x : List S39) (j : Nat) (h : j < x.length) : rd_T39 x (j : Int) ∈ x := by
  simp [rd_T39, List.getD, List.getElem?_eq_getElem h]
theorem succ64 (j n : Nat) (h : j < n) (hn : n ≤ 1000000) : wrap64 ((j : Int) + 1) = ((j + 1 : Nat) : Int) := by unfold wrap64; omega
/-- The balance after all rows up to a day. -/
def bal (p d : Int) : Int → List S39 → Int
  | acc, [] => acc
  | acc, r :: t => bal p d (if r.f0 ≤ d then wrap64 (acc + money r p) else acc) t
/-- The balance after all rows before a day. -/
def bef (p d : Int) : Int → List S39 → Int
  | acc, [] => acc
  | acc, r :: t => bef p d (if r.f0 < d then wrap64 (acc + money r p) else acc) t
/-- The least balance of the days from a to b. -/
def low (p a b : Int) : Int → Int → List S39 → Int
  | _, out, [] => out
  | now, out, r :: t => if a ≤ r.f0 ∧ r.f0 ≤ b then low p a b (wrap64 (now + money r p)) (mn out (wrap64 (now + money r p))) t else low p a b now out t
theorem hbal_l0 (p d : Int) (x : List S39) (hx : ∀ r ∈ x, In64 r.f4) (hlen : x.length ≤ 1000000) : ∀ (n j : Nat) (acc : Int), j + n = x.length → Ev (fun k => history_Balance.l0 k p acc d x (x.length : Int) (j : Int)) (bal p d acc (x.drop j))
  | 0, j, acc, h => by
    rw [List.drop_of_length_le (by omega), bal]
    exact Ev.step (fun k => by rw [history_Balance.l0, if_neg (by omega)]) (Ev.now _)
  | n + 1, j, acc, h => by
    have hj : j < x.length := by omega
    have hm := hx _ (rd39_mem x j hj)
    rw [rd39_drop x j hj]
    refine Ev.step (fun k => by rw [history_Balance.l0, if_pos (by omega), if_pos (by omega), if_pos (by omega), succ64 j _ hj hlen]) ?_
    by_cases c : (rd_T39 x (j : Int)).f0 ≤ d
    · rw [bal, if_pos c]
      exact Ev.congr (fun k => if_pos c) (Ev.bind (ev_money_h _ _ hm) (hbal_l0 p d x hx hlen n (j + 1) _ (by omega)))
    · rw [bal, if_neg c]
      exact Ev.congr (fun k => if_neg c) (hbal_l0 p d x hx hlen n (j + 1) _ (by omega))
theorem rbal_l0 (p d : Int) (x : List S39) (hx : ∀ r ∈ x, In64 r.f4) (hlen : x.length ≤ 1000000) : ∀ (n j : Nat) (acc : Int), j + n = x.length → Ev (fun k => insolvencyref25_Balance.l0 k x p acc d (j : Int)) (bal p d acc (x.drop j))
  | 0, j, acc, h => by
    rw [List.drop_of_length_le (by omega), bal]
    exact Ev.step (fun k => by rw [insolvencyref25_Balance.l0, if_neg (by omega)]) (Ev.now _)
  | n + 1, j, acc, h => by
    have hj : j < x.length := by omega
    have hm := hx _ (rd39_mem x j hj)
    rw [rd39_drop x j hj]
    refine Ev.step (fun k => by rw [insolvencyref25_Balance.l0, if_pos (by omega), if_pos (by omega), succ64 j _ hj hlen]) ?_
    by_cases c : (rd_T39 x (j : Int)).f0 ≤ d
    · rw [bal, if_pos c]
      exact Ev.congr (fun k => if_pos c) (Ev.bind (ev_money_r _ _ hm) (rbal_l0 p d x hx hlen n (j + 1) _ (by omega)))
    · rw [bal, if_neg c]
      exact Ev.congr (fun k => if_neg c) (rbal_l0 p d x hx hlen n (j + 1) _ (by omega))
theorem hlow_l1 (p a b : Int) (x : List S39) (hx : ∀ r ∈ x, In64 r.f4) (hlen : x.length ≤ 1000000) : ∀ (n j : Nat) (now out : Int), j + n = x.length → Ev (fun k => history_Lowest.l1 k p a b now out x (x.length : Int) (j : Int)) (low p a b now out (x.drop j))
  | 0, j, now, out, h => by
    rw [List.drop_of_length_le (by omega), low]
    exact Ev.step (fun k => by rw [history_Lowest.l1, if_neg (by omega)]) (Ev.now _)
  | n + 1, j, now, out, h => by
    have hj : j < x.length := by omega
    have hm := hx _ (rd39_mem x j hj)
    rw [rd39_drop x j hj]
    refine Ev.step (fun k => by rw [history_Lowest.l1, if_pos (by omega), if_pos (by omega), if_pos (by omega), succ64 j _ hj hlen]) ?_
    by_cases c : (rd_T39 x (j : Int)).f0 ≥ a
    · by_cases c' : (rd_T39 x (j : Int)).f0 ≤ b
      · rw [low, if_pos ⟨c, c'⟩]
        exact Ev.congr (fun k => by rw [if_pos c, if_pos c']) (Ev.bind (ev_money_h _ _ hm) (hlow_l1 p a b x hx hlen n (j + 1) _ _ (by omega)))
      · rw [low, if_neg (fun h => c' h.2)]
        exact Ev.congr (fun k => by rw [if_pos c, if_neg c']) (hlow_l1 p a b x hx hlen n (j + 1) _ _ (by omega))
    · rw [low, if_neg (fun h => c h.1)]
      exact Ev.congr (fun k => by rw [if_neg c]) (hlow_l1 p a b x hx hlen n (j + 1) _ _ (by omega))
theorem rlow_l1 (p a b : Int) (x : List S39) (hx : ∀ r ∈ x, In64 r.f4) (hlen : x.length ≤ 1000000) : ∀ (n j : Nat) (now out : Int), j + n = x.length → Ev (fun k => insolvencyref25_Lowest.l1 k x p now a b out (j : Int)) (low p a b now out (x.drop j))
  | 0, j, now, out, h => by
    rw [List.drop_of_length_le (by omega), low]
    exact Ev.step (fun k => by rw [insolvencyref25_Lowest.l1, if_neg (by omega)]) (Ev.now _)
  | n + 1, j, now, out, h => by
    have hj : j < x.length := by omega
    have hm := hx _ (rd39_mem x j hj)
    rw [rd39_drop x j hj]
    refine Ev.step (fun k => by rw [insolvencyref25_Lowest.l1, if_pos (by omega), if_pos (by omega), succ64 j _ hj hlen]) ?_
    by_cases c : (rd_T39 x (j : Int)).f0 ≥ a
    · by_cases c' : (rd_T39 x (j : Int)).f0 ≤ b
      · rw [low, if_pos ⟨c, c'⟩]
        exact Ev.congr (fun k => by rw [if_pos c, if_pos c']) (Ev.bind (ev_money_r _ _ hm) (rlow_l1 p a b x hx hlen n (j + 1) _ _ (by omega)))
      · rw [low, if_neg (fun h => c' h.2)]
        exact Ev.congr (fun k => by rw [if_pos c, if_neg c']) (rlow_l1 p a b x hx hlen n (j + 1) _ _ (by omega))
    · rw [low, if_neg (fun h => c h.1)]
      exact Ev.congr (fun k => by rw [if_neg c]) (rlow_l1 p a b x hx hlen n (j + 1) _ _ (by omega))
theorem hlow_l0 (p a b : Int) (x : List S39) (hx : ∀ r ∈ x, In64 r.f4) (hlen : x.length ≤ 1000000) : ∀ (n j : Nat) (acc : Int), j + n = x.length → Ev (fun k => history_Lowest.l0 k x p a b acc x (x.length : Int) (j : Int)) (low p a b (bef p a acc (x.drop j)) (bef p a acc (x.drop j)) x)
  | 0, j, acc, h => by
    rw [List.drop_of_length_le (by omega)]
    refine Ev.step (fun k => by rw [history_Lowest.l0, if_neg (by omega)]) ?_
    exact hlow_l1 p a b x hx hlen x.length 0 acc acc (by omega)
  | n + 1, j, acc, h => by
    have hj : j < x.length := by omega
    have hm := hx _ (rd39_mem x j hj)
    rw [rd39_drop x j hj]
    refine Ev.step (fun k => by rw [history_Lowest.l0, if_pos (by omega), if_pos (by omega), if_pos (by omega), succ64 j _ hj hlen]) ?_
    by_cases c : (rd_T39 x (j : Int)).f0 < a
    · rw [bef, if_pos c]
      exact Ev.congr (fun k => if_pos c) (Ev.bind (ev_money_h _ _ hm) (hlow_l0 p a b x hx hlen n (j + 1) _ (by omega)))
    · rw [bef, if_neg c]
      exact Ev.congr (fun k => if_neg c) (hlow_l0 p a b x hx hlen n (j + 1) _ (by omega))
theorem rlow_l0 (p a b : Int) (x : List S39) (hx : ∀ r ∈ x, In64 r.f4) (hlen : x.length ≤ 1000000) : ∀ (n j : Nat) (acc : Int), j + n = x.length → Ev (fun k => insolvencyref25_Lowest.l0 k x p acc a b (j : Int)) (low p a b (bef p a acc (x.drop j)) (bef p a acc (x.drop j)) x)
  | 0, j, acc, h => by
    rw [List.drop_of_length_le (by omega)]
    refine Ev.step (fun k => by rw [insolvencyref25_Lowest.l0, if_neg (by omega)]) ?_
    exact rlow_l1 p a b x hx hlen x.length 0 acc acc (by omega)
  | n + 1, j, acc, h => by
    have hj : j < x.length := by omega
    have hm := hx _ (rd39_mem x j hj)
    rw [rd39_drop x j hj]
    refine Ev.step (fun k => by rw [insolvencyref25_Lowest.l0, if_pos (by omega), if_pos (by omega), succ64 j _ hj hlen]) ?_
    by_cases c : (rd_T39 x (j : Int)).f0 < a
    · rw [bef, if_pos c]
      exact Ev.congr (fun k => if_pos c) (Ev.bind (ev_money_r _ _ hm) (rlow_l0 p a b x hx hlen n (j + 1) _ (by omega)))
    · rw [bef, if_neg c]
      exact Ev.congr (fun k => if_neg c) (rlow_l0 p a b x hx hlen n (j + 1) _ (by omega))
/-- A list of rows that is not too long, with amounts of 64 bits. -/
def Fits (x : List S39) : Prop := (∀ r ∈ x, In64 r.f4) ∧ x.length ≤ 1000000
theorem ev_bal_h (x : List S39) (p o d : Int) (h : Fits x) : Ev (fun k => history_Balance.f k x p o d) (bal p d o x) := hbal_l0 p d x h.1 h.2 x.length 0 o (by omega)
theorem ev_bal_r (x : List S39) (p o d : Int) (h : Fits x) : Ev (fun k => insolvencyref25_Balance.f k x p o d) (bal p d o x) := rbal_l0 p d x h.1 h.2 x.length 0 o (by omega)
theorem ev_low_h (x : List S39) (p o a b : Int) (h : Fits x) : Ev (fun k => history_Lowest.f k x p o a b) (low p a b (bef p a o x) (bef p a o x) x) := hlow_l0 p a b x h.1 h.2 x.length 0 o (by omega)
theorem ev_low_r (x : List S39) (p o a b : Int) (h : Fits x) : Ev (fun k => insolvencyref25_Lowest.f k x p o a b) (low p a b (bef p a o x) (bef p a o x) x) := rlow_l0 p a b x h.1 h.2 x.length 0 o (by omega)
theorem rows_fits (l : List S67) (P n : Int) (hP : 2 ≤ P) (hn : n ≤ 1000) (hl : ∀ x ∈ l, Ok67 x) : Fits (rowsF P 0 (l.take n.toNat)) := by
  refine ⟨fun r hr => (rows_built l P n hP hl r hr).1.amount, ?_⟩
  rw [rowsF_length, List.length_take]; omega
end Go.Proofs.YtcehmgmhlmbhnaaDoor.Pure
