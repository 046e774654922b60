/- The pairs of Match are sound. -/
import Derived.Test.YtcehmgmhlmbhnaaDoorPureOrder
namespace Go.Proofs.YtcehmgmhlmbhnaaDoor.Pure
open Go.RowKit Go.Proofs.YtcehmgmhlmbhnaaDoor Go.Proofs.YtcehmgmhlmbhnaaDoor.Pr Go.Proofs.YtcehmgmhlmbhnaaDoorW.PrintWords
/-- Pairs that rise in the first place, take no second place twice, and correspond. -/
def Good (x y : List S39) (s : Int) (l : List S62) : Prop := l.Pairwise (fun u v => u.f0 < v.f0 ∧ u.f1 ≠ v.f1) ∧ ∀ u ∈ l, ∃ p q : Nat, u.f0 = (p : Int) ∧ u.f1 = (q : Int) ∧ p < x.length ∧ q < y.length ∧ nearB (rd_T39 x (p : Int)) (rd_T39 y (q : Int)) s = true
theorem match_good (x y : List S39) (s : Int) : ∀ (n i : Nat) (used : List Bool) (out : List S62), i + n = x.length → used.length = y.length → Good x y s out → (∀ u ∈ out, u.f0 < (i : Int)) → (∀ u ∈ out, rdOf false used u.f1 = true) → Good x y s (matchL y s i (x.drop i) used out)
  | 0, i, used, out, h, _, hg, _, _ => by
    rw [List.drop_of_length_le (by omega), matchL]
    exact hg
  | n + 1, i, used, out, h, hu, hg, hi, hq => by
    have hil : i < x.length := by omega
    rw [rd39_drop x i hil, matchL]
    cases hp : pick (rd_T39 x (i : Int)) y s used y.length 0 with
    | none => exact match_good x y s n (i + 1) used out (by omega) hu hg (fun u hu' => by have := hi u hu'; omega) hq
    | some k =>
      obtain ⟨_, a2, a3, a4, _⟩ := pick_some _ y s used y.length 0 k hp
      have hk : k < y.length := by omega
      refine match_good x y s n (i + 1) (used.set k true) (out ++ [⟨(i : Int), (k : Int)⟩]) (by omega) (by rw [List.length_set]; exact hu) ⟨?_, ?_⟩ ?_ ?_
      · rw [List.pairwise_append]
        refine ⟨hg.1, by simp, fun u hu' v hv => ?_⟩
        rw [List.mem_singleton.1 hv]
        refine ⟨hi u hu', fun e => ?_⟩
        have := hq u hu'
        rw [e] at this
        simp only at this
        rw [this] at a3
        cases a3
      · intro u hu'
        rcases List.mem_append.1 hu' with hu' | hu'
        · exact hg.2 u hu'
        · rw [List.mem_singleton.1 hu']
          exact ⟨i, k, rfl, rfl, hil, hk, a4⟩
      · intro u hu'
        rcases List.mem_append.1 hu' with hu' | hu'
        · have := hi u hu'; omega
        · rw [List.mem_singleton.1 hu']; show (i : Int) < ((i + 1 : Nat) : Int); omega
      · intro u hu'
        have hs := usedSet_set used k (by omega)
        rcases List.mem_append.1 hu' with hu' | hu'
        · obtain ⟨p, q, e1, e2, _, hq2, _⟩ := hg.2 u hu'
          have h1 := hq u hu'
          rw [e2] at h1 ⊢
          have h2 := congrFun hs q
          unfold usedSet at h2
          rw [h2]
          show (rdOf false used (q : Int) || decide (q = k)) = true
          rw [h1]; rfl
        · rw [List.mem_singleton.1 hu']
          have h2 := congrFun hs k
          unfold usedSet at h2
          show rdOf false (used.set k true) (k : Int) = true
          rw [h2]
          exact add_same _ k
theorem match_good0 (x y : List S39) (s : Int) : Good x y s (matchL y s 0 x (List.replicate y.length false) []) := match_good x y s x.length 0 (List.replicate y.length false) [] (by omega) (by simp) ⟨List.Pairwise.nil, fun u hu => by cases hu⟩ (fun u hu => by cases hu) (fun u hu => by cases hu)
theorem rdOf_replicate (n : Nat) (j : Int) : rdOf false (List.replicate n false) j = false := by
  unfold rdOf
  rw [List.getD, List.getElem?_replicate]
  split <;> rfl
theorem usedSet_empty (n : Nat) : usedSet (List.replicate n false) = fun j => (0 : Nat).testBit j := by
  funext j
  rw [usedSet, rdOf_replicate, Nat.zero_testBit]
end Go.Proofs.YtcehmgmhlmbhnaaDoor.Pure
