/- The plain statement of HistoryMost. -/
import Derived.Test.YtcehmgmhlmbhnaaDoorMs
import Derived.Test.YtcehmgmhlmbhnaaDoorOpen
import Derived.Test.YtcehmgmhlmbhnaaDoorPureCount
import Derived.Test.YtcehmgmhlmbhnaaDoorPureSound
namespace Go.Proofs.YtcehmgmhlmbhnaaDoor.Pure
open Go.RowKit Go.Proofs.YtcehmgmhlmbhnaaDoor Go.Proofs.YtcehmgmhlmbhnaaDoor.Pr Go.Proofs.YtcehmgmhlmbhnaaDoorW.PrintWords
theorem rd62_get (l : List S62) (j : Nat) (h : j < l.length) : rd_T62 l (j : Int) = l[j] := by
  simp [rd_T62, List.getD, List.getElem?_eq_getElem h]
theorem pred64 (j : Nat) (h : 0 < j) (hn : j ≤ 1000000) : wrap64 ((j : Int) - 1) = ((j - 1 : Nat) : Int) := by unfold wrap64; omega
theorem mostlaw_next (x y : List S39) (s : Int) (l : List S62) (used : List Bool) (j p q : Nat) (hj : j < l.length) (hl : l.length ≤ 1000) (e0 : (rd_T62 l (j : Int)).f0 = (p : Int)) (e1 : (rd_T62 l (j : Int)).f1 = (q : Int)) (hp : p < x.length) (hq : q < y.length) (hu : used.length = y.length) (hn : nearB (rd_T39 x (p : Int)) (rd_T39 y (q : Int)) s = true) (hf : rdOf false used (q : Int) = false)
    (hb : 0 < j → (rd_T62 l ((j - 1 : Nat) : Int)).f0 < (p : Int)) (hk : Ev (fun k => insolvencylaw25_HistoryMost.l0 k x y s l 0 (used.set q true) ((j + 1 : Nat) : Int)) true) : Ev (fun k => insolvencylaw25_HistoryMost.l0 k x y s l 0 used (j : Int)) true := by
  have f1 : (j : Int) < (l.length : Int) := Int.ofNat_lt.2 hj
  have f2 : 0 ≤ (j : Int) := Int.natCast_nonneg j
  have f3 : ¬ (p : Int) < 0 := Int.not_lt.2 (Int.natCast_nonneg p)
  have g2 : (p : Int) < (x.length : Int) := Int.ofNat_lt.2 hp
  have g3 : (q : Int) < (y.length : Int) := Int.ofNat_lt.2 hq
  have f4 : ¬ (p : Int) ≥ (x.length : Int) := Int.not_le.2 g2
  have f5 : ¬ (q : Int) < 0 := Int.not_lt.2 (Int.natCast_nonneg q)
  have f6 : ¬ (q : Int) ≥ (y.length : Int) := Int.not_le.2 g3
  have f7 : 0 ≤ (q : Int) := Int.natCast_nonneg q
  have f8 : (q : Int) < (used.length : Int) := by rw [hu]; exact g3
  have f9 : ¬ rdOf false used (q : Int) = true := by rw [hf]; simp
  have g1 : 0 ≤ (p : Int) := Int.natCast_nonneg p
  have eq' : (q : Int).toNat = q := Int.toNat_natCast q
  have e2 : wrap64 ((j : Int) + 1) = ((j + 1 : Nat) : Int) := succ64 j _ hj (Nat.le_trans hl (by decide))
  have e3 : 0 < j → wrap64 ((j : Int) - 1) = ((j - 1 : Nat) : Int) := fun h => pred64 j h (Nat.le_trans (Nat.le_of_lt hj) (Nat.le_trans hl (by decide)))
  have j2 : Ev (fun k => insolvencylaw25_HistoryMost.j2 k x y s l 0 used (j : Int) (q : Int) (!true)) true := by
    refine Ev.step (fun k => by rw [insolvencylaw25_HistoryMost.j2, if_neg (by simp), if_pos f7, if_pos f8, eq', e2]) hk
  refine Ev.step (fun k => by rw [insolvencylaw25_HistoryMost.l0, if_pos f1, if_pos f2, e0, e1, if_neg f3, if_neg f4, if_neg f5, if_neg f6, if_pos f7, if_pos f8, if_neg f9, corr2_eq, Option.bind_some, hn]) ?_
  by_cases c : 0 < j
  · have c' : (j : Int) > 0 := Int.natCast_pos.2 c
    have h1 : 0 ≤ ((j - 1 : Nat) : Int) := Int.natCast_nonneg _
    have h2 : ((j - 1 : Nat) : Int) < (l.length : Int) := Int.ofNat_lt.2 (Nat.lt_of_le_of_lt (Nat.sub_le j 1) hj)
    have h3 : ¬ (rd_T62 l ((j - 1 : Nat) : Int)).f0 ≥ (p : Int) := Int.not_le.2 (hb c)
    exact Ev.congr (fun k => by rw [if_pos c', e3 c, if_pos h1, if_pos h2, if_neg h3, if_pos g1, if_pos g2, if_pos g3]) j2
  · have c' : ¬ (j : Int) > 0 := fun h => c (Int.natCast_pos.1 h)
    exact Ev.congr (fun k => by rw [if_neg c', if_pos g1, if_pos g2, if_pos g3]) j2
theorem mostlaw_l0 (x y : List S39) (s : Int) (l : List S62) (hg : Good x y s l) (hx : x.length ≤ 1000) (hy : y.length ≤ 9) (hl : l.length ≤ 1000) (hc : l.length = mst y s x (fun j => (0 : Nat).testBit j)) : ∀ (n j : Nat) (used : List Bool), j + n = l.length → used.length = y.length → (∀ q : Nat, rdOf false used (q : Int) = true → ∃ (i : Nat) (hi : i < l.length), i < j ∧ (l[i]).f1 = (q : Int)) → Ev (fun k => insolvencylaw25_HistoryMost.l0 k x y s l 0 used (j : Int)) true
  | 0, j, used, h, _, _ => by
    refine Ev.step (fun k => by rw [insolvencylaw25_HistoryMost.l0, if_neg (by omega)]) (Ev.bind ev_awake (Ev.congr (fun k => by rw [if_pos rfl, if_pos rfl]) ?_))
    refine Ev.bind (ev_most x y s hx hy x.length 0 (by omega) 0 (by omega)) ?_
    rw [List.drop_zero, ← hc]
    simpa using Ev.now true
  | n + 1, j, used, h, hu, hq => by
    have hj : j < l.length := by omega
    obtain ⟨p, q, e0, e1, hp, hql, hn⟩ := hg.2 _ (List.getElem_mem hj)
    have hpw := List.pairwise_iff_getElem.1 hg.1
    have hf : rdOf false used (q : Int) = false := by
      cases hr : rdOf false used (q : Int) with
      | false => rfl
      | true =>
        obtain ⟨i, hi, hij, e⟩ := hq q hr
        exact absurd (e.trans e1.symm) (hpw i j hi hj hij).2
    refine mostlaw_next x y s l used j p q hj hl (by rw [rd62_get l j hj]; exact e0) (by rw [rd62_get l j hj]; exact e1) hp hql hu hn hf (fun c => ?_) ?_
    · rw [rd62_get l (j - 1) (by omega), ← e0]
      exact (hpw (j - 1) j (by omega) hj (by omega)).1
    · refine mostlaw_l0 x y s l hg hx hy hl hc n (j + 1) (used.set q true) (by omega) (by rw [List.length_set]; exact hu) ?_
      intro q' hr
      have hs := congrFun (usedSet_set used q (by omega)) q'
      unfold usedSet at hs
      rw [hs] at hr
      by_cases c : q' = q
      · exact ⟨j, hj, by omega, by rw [c]; exact e1⟩
      · have : rdOf false used (q' : Int) = true := by
          simp only [add, c, decide_false, Bool.or_false] at hr
          exact hr
        obtain ⟨i, hi, hij, e⟩ := hq q' this
        exact ⟨i, hi, by omega, e⟩
theorem mostlaw_j0 (x y : List S39) (a3 : Int) (h3 : 0 ≤ a3 ∧ a3 ≤ 255) (hx : x.length ≤ 9) (hy : y.length ≤ 9) (ax : Asc x) (ux : Upto 1000 x) (ay : Asc y) (uy : Upto 1000 y) : Ev (fun k => insolvencylaw25_HistoryMost.j0 k a3 x y) true := by
  have et : Int.tmod a3 6 = a3 % 6 := Int.tmod_eq_emod_of_nonneg h3.1
  have es : wrap64 (Int.tmod a3 6) = a3 % 6 := by rw [et]; unfold wrap64; omega
  have s0 : 0 ≤ a3 % 6 ∧ a3 % 6 ≤ 1048576 := by omega
  have en : ((y.length : Int)).toNat = y.length := by omega
  have he : matchErr x y (a3 % 6) = 0 := by
    unfold matchErr
    rw [if_neg (by omega), if_neg (fun q => q ⟨upto_days x ux, upto_days y uy, s0.1, s0.2⟩), if_pos ⟨asc_ord x ax, asc_ord y ay⟩]
  have hm := ev_match_h x y (a3 % 6)
  have hF : matchF x y (a3 % 6) = (matchL y (a3 % 6) 0 x (List.replicate y.length false) [], 0) := by
    unfold matchF
    rw [if_pos he]
  rw [hF] at hm
  have hlen := matchL_len y (a3 % 6) x 0 (List.replicate y.length false) []
  rw [List.length_nil, Nat.zero_add] at hlen
  have hgood := match_good0 x y (a3 % 6)
  have hcount := match_most y (a3 % 6) (asc_rising y ay) (upto_ok y uy) x 0 0 (List.replicate y.length false) [] (asc_sorted x 0 ax (fun q hq => (ux q hq).1)) (upto_ok x ux) (by simp)
  rw [List.length_nil, Nat.zero_add, usedSet_empty] at hcount
  generalize matchL y (a3 % 6) 0 x (List.replicate y.length false) [] = l at *
  refine Ev.step (fun k => by rw [insolvencylaw25_HistoryMost.j0, es]) (Ev.bind hm (Ev.congr (fun k => by rw [if_pos (by omega), en, if_pos (by omega)]) ?_))
  refine mostlaw_l0 x y (a3 % 6) l hgood (by omega) hy (by omega) hcount l.length 0 (List.replicate y.length false) (by omega) (by simp) ?_
  intro q hr
  rw [rdOf_replicate] at hr
  cases hr
theorem HistoryMost (l0 : List S67) (a1 : Int) (l2 : List Int) (a3 : Int) (h0 : ∀ x ∈ l0, Ok67 x) (_h1 : (Lit.int .u16 a1).wf = true) (h2 : ∀ x ∈ l2, (Lit.int .u8 x).wf = true) (h3 : (Lit.int .u8 a3).wf = true) : ∃ k, insolvencylaw25_HistoryMost.f k l0 a1 l2 a3 = some true := by
  have b3 : 0 ≤ a3 ∧ a3 ≤ 255 := by
    simp only [Lit.wf, Bool.and_eq_true, decide_eq_true_eq] at h3
    exact h3
  have b2 : ∀ x ∈ l2, 0 ≤ x ∧ x ≤ 255 := fun x hx => by
    have := h2 x hx
    simp only [Lit.wf, Bool.and_eq_true, decide_eq_true_eq] at this
    exact this
  obtain ⟨p1, p2, p3, p4⟩ := stOf_order l0 a1 l2 h0 b2
  obtain ⟨n1, n2⟩ := stOf_len l0 a1 l2
  refine Ev.rounds (g := fun k => insolvencylaw25_HistoryMost.f k l0 a1 l2 a3) (Ev.bind (ev_st l0 a1 l2 h0) ?_)
  generalize stOf l0 a1 l2 = ab at *
  obtain ⟨a, b⟩ := ab
  simp only at *
  by_cases c : (a.length : Int) > 6
  · refine Ev.congr (fun k => by rw [if_pos c, if_pos (by omega)]) ?_
    exact mostlaw_j0 (a.take (6 : Int).toNat) b a3 b3 (by rw [List.length_take]; omega) n2 (asc_take a _ p1) (upto_take _ a _ p2) p3 p4
  · exact Ev.congr (fun k => if_neg c) (mostlaw_j0 a b a3 b3 n1 n2 p1 p2 p3 p4)
end Go.Proofs.YtcehmgmhlmbhnaaDoor.Pure
