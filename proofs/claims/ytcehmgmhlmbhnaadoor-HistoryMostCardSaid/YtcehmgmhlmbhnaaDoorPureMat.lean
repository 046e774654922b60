/- What the program's Match of histories computes. -/
import Derived.Test.YtcehmgmhlmbhnaaDoorPr37
import Derived.Test.YtcehmgmhlmbhnaaDoorPr40
import Derived.Test.YtcehmgmhlmbhnaaDoorPureList
namespace Go.Proofs.YtcehmgmhlmbhnaaDoor.Pure
open Go.RowKit Go.Proofs.YtcehmgmhlmbhnaaDoor Go.Proofs.YtcehmgmhlmbhnaaDoor.Pr Go.Proofs.YtcehmgmhlmbhnaaDoorW.PrintWords
/-- Whether two rows correspond. -/
def nearB (a b : S39) (s : Int) : Bool := (a.f1 == b.f1 && (a.f2 == b.f2 && (a.f3 == b.f3 && (a.f4 == b.f4 && a.f5 == b.f5)))) && (decide (wrap64 (a.f0 - b.f0) ≤ s) && decide (wrap64 (-(wrap64 (a.f0 - b.f0))) ≤ s))
theorem corr_eq (a b : S39) (s : Int) : history_correspond.f a.f0 a.f1 a.f2 a.f3 a.f4 a.f5 b.f0 b.f1 b.f2 b.f3 b.f4 b.f5 s = some (nearB a b s) := by
  unfold history_correspond.f nearB
  by_cases c : (a.f1 == b.f1 && (a.f2 == b.f2 && (a.f3 == b.f3 && (a.f4 == b.f4 && a.f5 == b.f5)))) = true
  · rw [if_pos c, c, Bool.true_and]
    by_cases c2 : wrap64 (a.f0 - b.f0) ≤ s
    · rw [if_pos c2, decide_eq_true c2, Bool.true_and]
    · rw [if_neg c2, decide_eq_false c2, Bool.false_and]
  · rw [if_neg c, (Bool.not_eq_true _).mp c, Bool.false_and]
theorem near_eq (a b : S39) (s : Int) : insolvencyref25_near.f a.f0 a.f1 a.f2 a.f3 a.f4 a.f5 b.f0 b.f1 b.f2 b.f3 b.f4 b.f5 s = some (nearB a b s) := by
  unfold insolvencyref25_near.f nearB
  by_cases c1 : a.f1 = b.f1
  · by_cases c2 : a.f2 = b.f2
    · by_cases c3 : a.f3 = b.f3
      · by_cases c4 : a.f4 = b.f4
        · by_cases c5 : a.f5 = b.f5
          · by_cases c6 : wrap64 (a.f0 - b.f0) ≤ s <;> simp [c1, c2, c3, c4, c5, c6]
          · simp [c1, c2, c3, c4, c5]
        · simp [c1, c2, c3, c4]
      · simp [c1, c2, c3]
    · simp [c1, c2]
  · simp [c1]
/-- All days in range. -/
def daysB (x : List S39) : Bool := x.all (fun r => decide (0 ≤ r.f0) && decide (r.f0 ≤ 1048576))
/-- The days rise behind d. -/
def chk : Int → List S39 → Bool
  | _, [] => true
  | d, r :: t => if r.f0 < d then false else chk r.f0 t
/-- The days rise. -/
def ordB : List S39 → Bool
  | [] => true
  | r :: t => chk r.f0 t
theorem days_l0 (x : List S39) (hlen : x.length ≤ 1000000) : ∀ (n j : Nat), j + n = x.length → Ev (fun k => history_days.l0 k x (x.length : Int) (j : Int)) (daysB (x.drop j))
  | 0, j, h => by
    rw [List.drop_of_length_le (by omega)]
    exact Ev.step (fun k => by rw [history_days.l0, if_neg (by omega)]; rfl) (Ev.now _)
  | n + 1, j, h => by
    have hj : j < x.length := by omega
    rw [rd39_drop x j hj]
    refine Ev.step (fun k => by rw [history_days.l0, if_pos (by omega), if_pos (by omega), if_pos (by omega), succ64 j _ hj hlen]) ?_
    have e : daysB (rd_T39 x (j : Int) :: x.drop (j + 1)) = ((decide (0 ≤ (rd_T39 x (j : Int)).f0) && decide ((rd_T39 x (j : Int)).f0 ≤ 1048576)) && daysB (x.drop (j + 1))) := by unfold daysB; rw [List.all_cons]
    rw [e]
    by_cases c1 : (rd_T39 x (j : Int)).f0 < 0
    · rw [decide_eq_false (show ¬ 0 ≤ (rd_T39 x (j : Int)).f0 by omega), Bool.false_and, Bool.false_and]
      exact Ev.congr (fun k => if_pos c1) (Ev.now _)
    by_cases c2 : (rd_T39 x (j : Int)).f0 > 1048576
    · rw [decide_eq_false (show ¬ (rd_T39 x (j : Int)).f0 ≤ 1048576 by omega), Bool.and_false, Bool.false_and]
      exact Ev.congr (fun k => by rw [if_neg c1, if_pos c2]) (Ev.now _)
    · rw [decide_eq_true (show 0 ≤ (rd_T39 x (j : Int)).f0 by omega), decide_eq_true (show (rd_T39 x (j : Int)).f0 ≤ 1048576 by omega), Bool.true_and, Bool.true_and]
      exact Ev.congr (fun k => by rw [if_neg c1, if_neg c2]) (days_l0 x hlen n (j + 1) (by omega))
theorem ev_days (x : List S39) (hlen : x.length ≤ 1000000) : Ev (fun k => history_days.f k x) (daysB x) := days_l0 x hlen x.length 0 (by omega)
theorem ord_l0 (x : List S39) (hlen : x.length ≤ 1000000) : ∀ (n j : Nat), j + 1 + n = x.length → Ev (fun k => history_ordered.l0 k x ((j + 1 : Nat) : Int)) (if chk (rd_T39 x (j : Int)).f0 (x.drop (j + 1)) = true then 0 else 15)
  | 0, j, h => by
    rw [List.drop_of_length_le (by omega)]
    exact Ev.step (fun k => by rw [history_ordered.l0, if_neg (by omega)]; rfl) (Ev.now _)
  | n + 1, j, h => by
    have hj : j + 1 < x.length := by omega
    have e1 : wrap64 (((j + 1 : Nat) : Int) - 1) = (j : Int) := by unfold wrap64; omega
    rw [rd39_drop x (j + 1) hj, chk]
    refine Ev.step (fun k => by rw [history_ordered.l0, if_pos (by omega), if_pos (by omega), e1, if_pos (by omega), if_pos (by omega), succ64 (j + 1) _ hj hlen]) ?_
    by_cases c : (rd_T39 x ((j + 1 : Nat) : Int)).f0 < (rd_T39 x (j : Int)).f0
    · rw [if_pos c]
      exact Ev.congr (fun k => if_pos c) (Ev.now _)
    · rw [if_neg c]
      exact Ev.congr (fun k => if_neg c) (ord_l0 x hlen n (j + 1) (by omega))
theorem ev_ord (x : List S39) (hlen : x.length ≤ 1000000) : Ev (fun k => history_ordered.f k x) (if ordB x = true then 0 else 15) := by
  cases x with
  | nil => exact Ev.step (f := fun _ => some 0) (fun k => by rw [history_ordered.f, history_ordered.l0, if_neg (by simp)]) (Ev.now _)
  | cons r t => exact ord_l0 (r :: t) hlen t.length 0 (by simp; omega)
/-- The error of Match. -/
def matchErr (x y : List S39) (s : Int) : Int := if x.length > 256 ∨ y.length > 256 then 2 else if ¬ (daysB x = true ∧ daysB y = true ∧ 0 ≤ s ∧ s ≤ 1048576) then 1 else if ordB x = true ∧ ordB y = true then 0 else 15
/-- The first place from k on, of n, whose row isn't used and corresponds. -/
def pick (r : S39) (y : List S39) (s : Int) (used : List Bool) : Nat → Nat → Option Nat
  | 0, _ => none
  | n + 1, k => if rdOf false used (k : Int) = true then pick r y s used n (k + 1) else if nearB r (rd_T39 y (k : Int)) s = true then some k else pick r y s used n (k + 1)
/-- The pairs of Match from the i-th row on. -/
def matchL (y : List S39) (s : Int) : Nat → List S39 → List Bool → List S62 → List S62
  | _, [], _, out => out
  | i, r :: t, used, out => match pick r y s used y.length 0 with
    | none => matchL y s (i + 1) t used out
    | some k => matchL y s (i + 1) t (used.set k true) (out ++ [⟨(i : Int), (k : Int)⟩])
/-- What Match gives. -/
def matchF (x y : List S39) (s : Int) : List S62 × Int := if matchErr x y s = 0 then (matchL y s 0 x (List.replicate y.length false) [], 0) else ([], matchErr x y s)
theorem hm_pick (x y : List S39) (s : Int) (used : List Bool) (out : List S62) (i : Nat) (hi : i < x.length) (hu : used.length = y.length) (hy : y.length ≤ 256) (hx : x.length ≤ 256) (ho : out.length ≤ i) (res : List S62 × Int)
    (hk : match pick (rd_T39 x (i : Int)) y s used y.length 0 with
      | none => Ev (fun k => history_Match.l0 k y s used out x (x.length : Int) ((i + 1 : Nat) : Int)) res
      | some c => Ev (fun k => history_Match.l0 k y s (used.set c true) (out ++ [⟨(i : Int), (c : Int)⟩]) x (x.length : Int) ((i + 1 : Nat) : Int)) res) :
    ∀ (n c : Nat), c + n = y.length → pick (rd_T39 x (i : Int)) y s used n c = pick (rd_T39 x (i : Int)) y s used y.length 0 → Ev (fun k => history_Match.l1 k y s used out (i : Int) x (x.length : Int) (i : Int) y (y.length : Int) (c : Int) (rd_T39 x (i : Int)).f0 (rd_T39 x (i : Int)).f1 (rd_T39 x (i : Int)).f2 (rd_T39 x (i : Int)).f3 (rd_T39 x (i : Int)).f4 (rd_T39 x (i : Int)).f5) res
  | 0, c, h, hp => by
    rw [← hp, pick] at hk
    exact Ev.step (fun k => by rw [history_Match.l1, if_neg (by omega), succ64 i _ hi (by omega)]) hk
  | n + 1, c, h, hp => by
    have hc : c < y.length := by omega
    have ec : (c : Int).toNat = c := by omega
    refine Ev.step (fun k => by rw [history_Match.l1, if_pos (by omega), if_pos (by omega), if_pos (by omega), if_pos (by omega), succ64 c _ hc (by omega), corr_eq, Option.bind_some, succ64 i _ hi (by omega), ec]) ?_
    by_cases c1 : rdOf false used (c : Int) = true
    · rw [pick, if_pos c1] at hp
      exact Ev.congr (fun k => if_pos c1) (hm_pick x y s used out i hi hu hy hx ho res hk n (c + 1) (by omega) hp)
    · by_cases c2 : nearB (rd_T39 x (i : Int)) (rd_T39 y (c : Int)) s = true
      · rw [pick, if_neg c1, if_pos c2] at hp
        rw [← hp] at hk
        exact Ev.congr (fun k => by rw [if_neg c1, if_pos c2, if_pos (by omega)]) hk
      · rw [pick, if_neg c1, if_neg c2] at hp
        exact Ev.congr (fun k => by rw [if_neg c1, if_neg c2]) (hm_pick x y s used out i hi hu hy hx ho res hk n (c + 1) (by omega) hp)
theorem hm_rows (x y : List S39) (s : Int) (hy : y.length ≤ 256) (hx : x.length ≤ 256) : ∀ (n i : Nat) (used : List Bool) (out : List S62), i + n = x.length → used.length = y.length → out.length ≤ i → Ev (fun k => history_Match.l0 k y s used out x (x.length : Int) (i : Int)) (matchL y s i (x.drop i) used out, 0)
  | 0, i, used, out, h, _, _ => by
    rw [List.drop_of_length_le (by omega), matchL]
    exact Ev.step (fun k => by rw [history_Match.l0, if_neg (by omega)]) (Ev.now _)
  | n + 1, i, used, out, h, hu, ho => by
    have hi : i < x.length := by omega
    rw [rd39_drop x i hi, matchL]
    refine Ev.step (fun k => by rw [history_Match.l0, if_pos (by omega), if_pos (by omega), if_pos (by omega)]) ?_
    refine hm_pick x y s used out i hi hu hy hx ho _ ?_ y.length 0 (by omega) rfl
    cases pick (rd_T39 x (i : Int)) y s used y.length 0 with
    | none => exact hm_rows x y s hy hx n (i + 1) used out (by omega) hu (by omega)
    | some c => exact hm_rows x y s hy hx n (i + 1) _ _ (by omega) (by rw [List.length_set]; exact hu) (by rw [List.length_append]; simp; omega)
theorem hmatch_j2 (x y : List S39) (s : Int) (hx : x.length ≤ 256) (hy : y.length ≤ 256) (b : Bool) : Ev (fun k => history_Match.j2 k x y s b) (if b = true then ([], 15) else (matchL y s 0 x (List.replicate y.length false) [], 0)) := by
  have en : ((y.length : Int)).toNat = y.length := by omega
  cases b with
  | true => exact Ev.step (fun k => by rw [history_Match.j2, if_pos rfl]; rfl) (Ev.now _)
  | false =>
    refine Ev.step (fun k => by rw [history_Match.j2, if_neg (by simp), if_pos (by omega), if_pos (by omega), en]) ?_
    exact hm_rows x y s hy hx x.length 0 _ [] (by omega) (by simp) (by simp)
theorem hmatch_j1 (x y : List S39) (s : Int) (hx : x.length ≤ 256) (hy : y.length ≤ 256) (b : Bool) : Ev (fun k => history_Match.j1 k x y s b) (if b = true then ([], 1) else if ordB x = true ∧ ordB y = true then (matchL y s 0 x (List.replicate y.length false) [], 0) else ([], 15)) := by
  cases b with
  | true => exact Ev.step (fun k => by rw [history_Match.j1, if_pos rfl]; rfl) (Ev.now _)
  | false =>
    refine Ev.step (fun k => by rw [history_Match.j1, if_neg (by simp)]) (Ev.bind (ev_ord x (by omega)) ?_)
    by_cases c1 : ordB x = true
    · rw [if_pos c1]
      refine Ev.congr (fun k => if_pos rfl) (Ev.bind (ev_ord y (by omega)) ?_)
      by_cases c2 : ordB y = true
      · rw [if_pos c2]
        have := hmatch_j2 x y s hx hy false
        simp only [Bool.false_eq_true, ↓reduceIte] at this
        simpa [c1, c2] using this
      · rw [if_neg c2]
        have := hmatch_j2 x y s hx hy true
        simp only [↓reduceIte] at this
        simpa [c1, c2] using this
    · rw [if_neg c1]
      have := hmatch_j2 x y s hx hy true
      simp only [↓reduceIte] at this
      simpa [c1] using this
theorem ev_match_h (x y : List S39) (s : Int) : Ev (fun k => history_Match.f k x y s) (matchF x y s) := by
  have long : x.length > 256 ∨ y.length > 256 → Ev (fun k => history_Match.j0 k x y s true) (matchF x y s) := by
    intro h
    have e : matchErr x y s = 2 := by unfold matchErr; rw [if_pos h]
    unfold matchF
    rw [e, if_neg (by omega)]
    exact Ev.step (fun k => by rw [history_Match.j0, if_pos rfl]) (Ev.now _)
  by_cases c1 : (x.length : Int) > 256
  · exact Ev.congr (fun k => by rw [history_Match.f, if_pos c1]) (long (by omega))
  by_cases c2 : (y.length : Int) > 256
  · exact Ev.congr (fun k => by rw [history_Match.f, if_neg c1, decide_eq_true c2]) (long (by omega))
  refine Ev.congr (fun k => by rw [history_Match.f, if_neg c1, decide_eq_false c2]) ?_
  have hn : ¬ (x.length > 256 ∨ y.length > 256) := by omega
  have bad : ¬ (daysB x = true ∧ daysB y = true ∧ 0 ≤ s ∧ s ≤ 1048576) → Ev (fun k => history_Match.j1 k x y s true) (matchF x y s) := by
    intro h
    have e : matchErr x y s = 1 := by unfold matchErr; rw [if_neg hn, if_pos h]
    have := hmatch_j1 x y s (by omega) (by omega) true
    unfold matchF
    rw [e, if_neg (by omega)]
    simpa using this
  refine Ev.step (fun k => by rw [history_Match.j0, if_neg (by simp)]) (Ev.bind (ev_days x (by omega)) ?_)
  by_cases d1 : daysB x = true
  · refine Ev.congr (fun k => if_pos d1) (Ev.bind (ev_days y (by omega)) ?_)
    by_cases d2 : daysB y = true
    · refine Ev.congr (fun k => if_pos d2) ?_
      by_cases d3 : s < 0
      · exact Ev.congr (fun k => if_pos d3) (bad (by omega))
      refine Ev.congr (fun k => if_neg d3) ?_
      by_cases d4 : s > 1048576
      · rw [decide_eq_true d4]
        exact bad (by omega)
      · rw [decide_eq_false d4]
        have := hmatch_j1 x y s (by omega) (by omega) false
        simp only [Bool.false_eq_true, ↓reduceIte] at this
        have e : matchErr x y s = if ordB x = true ∧ ordB y = true then 0 else 15 := by
          unfold matchErr
          rw [if_neg hn, if_neg (fun q => q ⟨d1, d2, by omega, by omega⟩)]
        unfold matchF
        rw [e]
        by_cases o : ordB x = true ∧ ordB y = true
        · rw [if_pos o] at this
          rw [if_pos o, if_pos rfl]
          exact this
        · rw [if_neg o] at this
          rw [if_neg o, if_neg (by omega)]
          exact this
    · exact Ev.congr (fun k => if_neg d2) (bad (fun h => d2 h.2.1))
  · exact Ev.congr (fun k => if_neg d1) (bad (fun h => d1 h.1))
theorem matchL_len (y : List S39) (s : Int) : ∀ (x : List S39) (i : Nat) (used : List Bool) (out : List S62), (matchL y s i x used out).length ≤ out.length + x.length
  | [], _, _, _ => by simp [matchL]
  | r :: t, i, used, out => by
    rw [matchL, List.length_cons]
    split
    · have := matchL_len y s t (i + 1) used out; omega
    · rename_i k _
      have := matchL_len y s t (i + 1) (used.set k true) (out ++ [⟨(i : Int), (k : Int)⟩])
      rw [List.length_append] at this
      simp at this; omega
end Go.Proofs.YtcehmgmhlmbhnaaDoor.Pure
