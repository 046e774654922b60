/- The plain statement of HistoryLong. -/
import Derived.Test.YtcehmgmhlmbhnaaDoorPr21
import Derived.Test.YtcehmgmhlmbhnaaDoorOpen
import Derived.Test.YtcehmgmhlmbhnaaDoorPureSame
namespace Go.Proofs.YtcehmgmhlmbhnaaDoor.Pure
open Go.RowKit Go.Proofs.YtcehmgmhlmbhnaaDoor Go.Proofs.YtcehmgmhlmbhnaaDoor.Pr Go.Proofs.YtcehmgmhlmbhnaaDoorW.PrintWords
theorem long_l2 (s : List UInt8) : ∀ (n : Nat) (t : List UInt8), 8193 - t.length ≤ n → t.length ≤ 100000 → Ev (fun k => insolvencylaw25_HistoryLong.l2 k (bs s) (bs t)) true
  | 0, t, h, ht => by
    refine Ev.step (fun k => by rw [insolvencylaw25_HistoryLong.l2, bs_size, if_neg (by omega)]) (Ev.bind ev_awake (Ev.congr (fun k => if_pos rfl) ?_))
    exact Ev.bind (ev_same s) (Ev.congr (fun k => if_pos rfl) (Ev.bind (ev_same t) (Ev.now true)))
  | n + 1, t, h, ht => by
    by_cases c : t.length ≤ 8192
    · refine Ev.step (fun k => by rw [insolvencylaw25_HistoryLong.l2, bs_size, if_pos (by omega), if_pos (by omega), show (⟨#[35, 32]⟩ : ByteArray) = bs [35, 32] from rfl, bs_append]) ?_
      exact long_l2 s n (t ++ [35, 32]) (by rw [List.length_append]; simp; omega) (by rw [List.length_append]; simp; omega)
    · refine Ev.step (fun k => by rw [insolvencylaw25_HistoryLong.l2, bs_size, if_neg (by omega)]) (Ev.bind ev_awake (Ev.congr (fun k => if_pos rfl) ?_))
      exact Ev.bind (ev_same s) (Ev.congr (fun k => if_pos rfl) (Ev.bind (ev_same t) (Ev.now true)))
theorem long_j2 (s : List UInt8) (h : s.length ≤ 50000) : Ev (fun k => insolvencylaw25_HistoryLong.j2 k (bs s)) true :=
  Ev.step (fun k => by rw [insolvencylaw25_HistoryLong.j2]) (long_l2 s 8193 s (by omega) (by omega))
def wLong : List UInt8 := [55, 32, 116, 114, 97, 110, 115, 102, 101, 114, 32, 49, 50, 51, 52, 53, 54, 55, 56, 57, 32, 50, 32, 57, 57, 57, 57, 57, 57, 57, 57, 57, 57, 57, 57, 57, 57, 57, 57, 57, 57, 32, 49, 50, 51, 52, 53, 54, 55, 56, 57, 48, 49, 50, 51, 52, 53, 54, 55, 56, 10]
theorem wLong_len : wLong.length = 61 := rfl
def wShort : List UInt8 := [49, 32, 115, 117, 112, 112, 108, 121, 32, 48, 32, 49, 32, 50, 10]
theorem wShort_len : wShort.length = 15 := rfl
theorem step_l1 (k : Nat) (a1 : Int) (b : Bool) (s : List UInt8) (j : Int) (c : j < Int.tmod (wrap64 a1) 3) (hs : s.length ≤ 100000) : insolvencylaw25_HistoryLong.l1 (k + 1) a1 b (bs s) j = insolvencylaw25_HistoryLong.l1 k a1 b (bs s ++ bs wLong) (wrap64 (j + 1)) := by
  rw [insolvencylaw25_HistoryLong.l1, if_pos c, if_pos (by rw [bs_size]; omega)]
  rfl
theorem step_l0 (k : Nat) (a1 : Int) (b : Bool) (m : Int) (s : List UInt8) (j : Int) (c : j < m) (hs : s.length ≤ 100000) : insolvencylaw25_HistoryLong.l0 (k + 1) a1 b m (bs s) j = insolvencylaw25_HistoryLong.l0 k a1 b m (bs s ++ bs wShort) (wrap64 (j + 1)) := by
  rw [insolvencylaw25_HistoryLong.l0, if_pos c, if_pos (by rw [bs_size]; omega)]
  rfl
theorem long_l1_next (a1 : Int) (b : Bool) (h1 : 0 ≤ a1 ∧ a1 ≤ 255) (j : Nat) (s : List UInt8) (hs : s.length ≤ 50000) (hj : j ≤ 3) (c : (j : Int) < a1 % 3) (h : Ev (fun k => insolvencylaw25_HistoryLong.l1 k a1 b (bs (s ++ wLong)) ((j + 1 : Nat) : Int)) true) : Ev (fun k => insolvencylaw25_HistoryLong.l1 k a1 b (bs s) (j : Int)) true := by
  have e1 : wrap64 a1 = a1 := by unfold wrap64; omega
  have et : Int.tmod a1 3 = a1 % 3 := Int.tmod_eq_emod_of_nonneg h1.1
  have e2 : wrap64 ((j : Int) + 1) = ((j + 1 : Nat) : Int) := by unfold wrap64; omega
  refine Ev.step (f := fun k => insolvencylaw25_HistoryLong.l1 k a1 b (bs (s ++ wLong)) ((j + 1 : Nat) : Int)) (fun k => ?_) h
  have q : (j : Int) < Int.tmod (wrap64 a1) 3 := by rw [e1, et]; exact c
  have u := step_l1 k a1 b s j q (by omega)
  rw [u, e2, bs_append]
theorem long_l1_done (a1 : Int) (b : Bool) (h1 : 0 ≤ a1 ∧ a1 ≤ 255) (j : Nat) (s : List UInt8) (hs : s.length ≤ 49000) (c : ¬ (j : Int) < a1 % 3) : Ev (fun k => insolvencylaw25_HistoryLong.l1 k a1 b (bs s) (j : Int)) true := by
  have e1 : wrap64 a1 = a1 := by unfold wrap64; omega
  have et : Int.tmod a1 3 = a1 % 3 := Int.tmod_eq_emod_of_nonneg h1.1
  refine Ev.step (fun k => by rw [insolvencylaw25_HistoryLong.l1, e1, et, if_neg c]) ?_
  cases b with
  | true =>
    refine Ev.congr (fun k => by rw [if_pos rfl, if_pos (by rw [bs_size]; omega), show (⟨#[120, 10]⟩ : ByteArray) = bs [120, 10] from rfl, bs_append]) (long_j2 (s ++ [120, 10]) (by rw [List.length_append]; simp; omega))
  | false => exact Ev.congr (fun k => by rw [if_neg (by simp)]) (long_j2 s (by omega))
theorem long_l1_2 (a1 : Int) (b : Bool) (h1 : 0 ≤ a1 ∧ a1 ≤ 255) (s : List UInt8) (hs : s.length ≤ 48000) : Ev (fun k => insolvencylaw25_HistoryLong.l1 k a1 b (bs s) ((2 : Nat) : Int)) true :=
  long_l1_done a1 b h1 2 s (by omega) (by omega)
theorem long_l1_1 (a1 : Int) (b : Bool) (h1 : 0 ≤ a1 ∧ a1 ≤ 255) (s : List UInt8) (hs : s.length ≤ 47000) : Ev (fun k => insolvencylaw25_HistoryLong.l1 k a1 b (bs s) ((1 : Nat) : Int)) true := by
  by_cases c : ((1 : Nat) : Int) < a1 % 3
  · exact long_l1_next a1 b h1 1 s (by omega) (by omega) c (long_l1_2 a1 b h1 _ (by rw [List.length_append, wLong_len]; omega))
  · exact long_l1_done a1 b h1 1 s (by omega) c
theorem long_l1_0 (a1 : Int) (b : Bool) (h1 : 0 ≤ a1 ∧ a1 ≤ 255) (s : List UInt8) (hs : s.length ≤ 46000) : Ev (fun k => insolvencylaw25_HistoryLong.l1 k a1 b (bs s) ((0 : Nat) : Int)) true := by
  by_cases c : ((0 : Nat) : Int) < a1 % 3
  · exact long_l1_next a1 b h1 0 s (by omega) (by omega) c (long_l1_1 a1 b h1 _ (by rw [List.length_append, wLong_len]; omega))
  · exact long_l1_done a1 b h1 0 s (by omega) c
theorem long_l0 (a1 : Int) (b : Bool) (h1 : 0 ≤ a1 ∧ a1 ≤ 255) (m : Nat) (hm : m ≤ 300) : ∀ (n j : Nat) (s : List UInt8), j + n = m → s.length ≤ 15 * j → Ev (fun k => insolvencylaw25_HistoryLong.l0 k a1 b (m : Int) (bs s) (j : Int)) true
  | 0, j, s, h, hs => by
    refine Ev.step (fun k => by rw [insolvencylaw25_HistoryLong.l0, if_neg (by omega)]) ?_
    exact long_l1_0 a1 b h1 s (by omega)
  | n + 1, j, s, h, hs => by
    have e2 : wrap64 ((j : Int) + 1) = ((j + 1 : Nat) : Int) := by unfold wrap64; omega
    refine Ev.step (fun k => by rw [step_l0 k a1 b _ s _ (by omega) (by omega), e2, bs_append]) ?_
    exact long_l0 a1 b h1 m hm n (j + 1) _ (by omega) (by rw [List.length_append, wShort_len]; omega)
theorem HistoryLong (a0 a1 : Int) (b : Bool) (h0 : (Lit.int .u16 a0).wf = true) (h1 : (Lit.int .u8 a1).wf = true) : ∃ k, insolvencylaw25_HistoryLong.f k a0 a1 b = some true := by
  have b0 : 0 ≤ a0 ∧ a0 ≤ 65535 := by
    simp only [Lit.wf, Bool.and_eq_true, decide_eq_true_eq] at h0
    exact h0
  have b1 : 0 ≤ a1 ∧ a1 ≤ 255 := by
    simp only [Lit.wf, Bool.and_eq_true, decide_eq_true_eq] at h1
    exact h1
  have et : Int.tmod a0 30 = a0 % 30 := Int.tmod_eq_emod_of_nonneg b0.1
  have e0 : wrap64 (240 + wrap64 (Int.tmod a0 30)) = ((240 + (a0 % 30).toNat : Nat) : Int) := by rw [et]; unfold wrap64; omega
  refine Ev.rounds (g := fun k => insolvencylaw25_HistoryLong.f k a0 a1 b) (Ev.congr (fun k => by rw [insolvencylaw25_HistoryLong.f, e0]) ?_)
  exact long_l0 a1 b b1 _ (by omega) _ 0 [] (Nat.zero_add _) (by simp)
end Go.Proofs.YtcehmgmhlmbhnaaDoor.Pure
