/- No other set of pairs has more pairs than Match: the plain law. -/
import Derived.Test.YtcehmgmhlmbhnaaDoorPureMat
namespace Go.Proofs.YtcehmgmhlmbhnaaDoor.Pure
open Go.RowKit Go.Proofs.YtcehmgmhlmbhnaaDoor Go.Proofs.YtcehmgmhlmbhnaaDoor.Pr Go.Proofs.YtcehmgmhlmbhnaaDoorW.PrintWords
/-- The set u with k. -/
def add (u : Nat → Bool) (k : Nat) : Nat → Bool := fun j => u j || decide (j = k)
theorem add_same (u : Nat → Bool) (k : Nat) : add u k k = true := by simp [add]
theorem add_ne (u : Nat → Bool) (k j : Nat) (h : j ≠ k) : add u k j = u j := by simp [add, h]
theorem add_comm (u : Nat → Bool) (k m : Nat) : add (add u k) m = add (add u m) k := by
  funext j
  simp only [add]
  cases u j <;> simp [Bool.or_comm]
/-- One round more of a greatest number: from place k on, n places. -/
def best (r : S39) (y : List S39) (s : Int) (u : Nat → Bool) (f : (Nat → Bool) → Nat) : Nat → Nat → Nat → Nat
  | 0, _, acc => acc
  | n + 1, k, acc => best r y s u f n (k + 1) (if u k = false ∧ nearB r (rd_T39 y (k : Int)) s = true then max acc (1 + f (add u k)) else acc)
/-- The greatest number of pairs, where the rows u of y are used. -/
def mst (y : List S39) (s : Int) : List S39 → (Nat → Bool) → Nat
  | [], _ => 0
  | r :: t, u => best r y s u (mst y s t) y.length 0 (mst y s t u)
theorem best_acc (r : S39) (y : List S39) (s : Int) (u : Nat → Bool) (f : (Nat → Bool) → Nat) : ∀ (n k acc : Nat), acc ≤ best r y s u f n k acc
  | 0, _, _ => Nat.le_refl _
  | n + 1, k, acc => by
    rw [best]
    refine Nat.le_trans ?_ (best_acc r y s u f n (k + 1) _)
    split
    · exact Nat.le_max_left _ _
    · exact Nat.le_refl _
theorem best_ge (r : S39) (y : List S39) (s : Int) (u : Nat → Bool) (f : (Nat → Bool) → Nat) (c : Nat) (h1 : u c = false) (h2 : nearB r (rd_T39 y (c : Int)) s = true) : ∀ (n k acc : Nat), k ≤ c → c < k + n → 1 + f (add u c) ≤ best r y s u f n k acc
  | 0, k, acc, hk, hc => by omega
  | n + 1, k, acc, hk, hc => by
    rw [best]
    by_cases e : k = c
    · subst e
      rw [if_pos ⟨h1, h2⟩]
      exact Nat.le_trans (Nat.le_max_right _ _) (best_acc r y s u f n (k + 1) _)
    · exact best_ge r y s u f c h1 h2 n (k + 1) _ (by omega) (by omega)
theorem best_le (r : S39) (y : List S39) (s : Int) (u : Nat → Bool) (f : (Nat → Bool) → Nat) (B : Nat) : ∀ (n k acc : Nat), acc ≤ B → (∀ c, k ≤ c → c < k + n → u c = false → nearB r (rd_T39 y (c : Int)) s = true → 1 + f (add u c) ≤ B) → best r y s u f n k acc ≤ B
  | 0, _, _, h, _ => h
  | n + 1, k, acc, h, hc => by
    rw [best]
    refine best_le r y s u f B n (k + 1) _ ?_ (fun c h1 h2 => hc c (by omega) (by omega))
    by_cases e : u k = false ∧ nearB r (rd_T39 y (k : Int)) s = true
    · rw [if_pos e]
      exact Nat.max_le.2 ⟨h, hc k (Nat.le_refl _) (by omega) e.1 e.2⟩
    · rw [if_neg e]; exact h
theorem mst_skip (y : List S39) (s : Int) (r : S39) (t : List S39) (u : Nat → Bool) : mst y s t u ≤ mst y s (r :: t) u := best_acc r y s u _ _ _ _
theorem mst_take (y : List S39) (s : Int) (r : S39) (t : List S39) (u : Nat → Bool) (c : Nat) (hc : c < y.length) (h1 : u c = false) (h2 : nearB r (rd_T39 y (c : Int)) s = true) : 1 + mst y s t (add u c) ≤ mst y s (r :: t) u := best_ge r y s u _ c h1 h2 _ _ _ (Nat.zero_le _) (by omega)
theorem mst_le (y : List S39) (s : Int) (r : S39) (t : List S39) (u : Nat → Bool) (B : Nat) (h0 : mst y s t u ≤ B) (h : ∀ c, c < y.length → u c = false → nearB r (rd_T39 y (c : Int)) s = true → 1 + mst y s t (add u c) ≤ B) : mst y s (r :: t) u ≤ B := best_le r y s u _ B _ _ _ h0 (fun c _ h2 => h c (by omega))
/-- One row more that is used costs one pair at the most. -/
theorem mst_one (y : List S39) (s : Int) : ∀ (t : List S39) (u : Nat → Bool) (k : Nat), k < y.length → u k = false → mst y s t u ≤ 1 + mst y s t (add u k)
  | [], _, _, _, _ => by simp [mst]
  | r :: t, u, k, hk, hu => by
    refine mst_le y s r t u _ ?_ ?_
    · have := mst_one y s t u k hk hu
      have := mst_skip y s r t (add u k)
      omega
    · intro c hc h1 h2
      by_cases e : c = k
      · subst e
        have := mst_skip y s r t (add u c)
        omega
      · have a1 := mst_one y s t (add u c) k hk (by rw [add_ne u c k (Ne.symm e)]; exact hu)
        have a2 := mst_take y s r t (add u k) c hc (by rw [add_ne u k c e]; exact h1) h2
        rw [add_comm u k c] at a2
        omega
/-- The row k serves as well as the row k0 for all rows of t. -/
def Serves (y : List S39) (s : Int) (t : List S39) (k0 k : Nat) : Prop := ∀ r ∈ t, nearB r (rd_T39 y (k0 : Int)) s = true → nearB r (rd_T39 y (k : Int)) s = true
theorem mst_swap (y : List S39) (s : Int) (k0 k : Nat) (hk0 : k0 < y.length) (hk : k < y.length) (hne : k0 ≠ k) : ∀ (t : List S39) (u : Nat → Bool), u k0 = false → u k = false → Serves y s t k0 k → mst y s t (add u k) ≤ mst y s t (add u k0)
  | [], _, _, _, _ => by simp [mst]
  | r :: t, u, h0, h1, hs => by
    have hs' : Serves y s t k0 k := fun q hq => hs q (List.mem_cons_of_mem _ hq)
    refine mst_le y s r t (add u k) _ ?_ ?_
    · have := mst_swap y s k0 k hk0 hk hne t u h0 h1 hs'
      have := mst_skip y s r t (add u k0)
      omega
    · intro m hm hu hn
      have hmk : m ≠ k := by
        intro e
        subst e
        rw [add_same] at hu
        cases hu
      rw [add_ne u k m hmk] at hu
      by_cases e : m = k0
      · subst e
        have := mst_take y s r t (add u m) k hk (by rw [add_ne u m k (Ne.symm hne)]; exact h1) (hs r (by simp) hn)
        rw [add_comm u k m]
        exact this
      · have a1 := mst_swap y s k0 k hk0 hk hne t (add u m) (by rw [add_ne u m k0 (Ne.symm e)]; exact h0) (by rw [add_ne u m k (Ne.symm hmk)]; exact h1) hs'
        have a2 := mst_take y s r t (add u k0) m hm (by rw [add_ne u k0 m e]; exact hu) hn
        rw [add_comm u k m]
        rw [add_comm u k0 m] at a2
        omega
theorem nearB_iff (a b : S39) (s : Int) : nearB a b s = true ↔ (a.f1 = b.f1 ∧ a.f2 = b.f2 ∧ a.f3 = b.f3 ∧ a.f4 = b.f4 ∧ a.f5 = b.f5) ∧ wrap64 (a.f0 - b.f0) ≤ s ∧ wrap64 (-(wrap64 (a.f0 - b.f0))) ≤ s := by
  unfold nearB
  simp only [Bool.and_eq_true, beq_iff_eq, decide_eq_true_eq]
/-- Days in range. -/
def DayOk (r : S39) : Prop := 0 ≤ r.f0 ∧ r.f0 ≤ 1048576
theorem near_days (a b : S39) (s : Int) (ha : DayOk a) (hb : DayOk b) : nearB a b s = true ↔ (a.f1 = b.f1 ∧ a.f2 = b.f2 ∧ a.f3 = b.f3 ∧ a.f4 = b.f4 ∧ a.f5 = b.f5) ∧ a.f0 - b.f0 ≤ s ∧ b.f0 - a.f0 ≤ s := by
  obtain ⟨_, _⟩ := ha
  obtain ⟨_, _⟩ := hb
  have e1 : wrap64 (a.f0 - b.f0) = a.f0 - b.f0 := by unfold wrap64; omega
  have e2 : wrap64 (-(a.f0 - b.f0)) = b.f0 - a.f0 := by unfold wrap64; omega
  rw [nearB_iff, e1, e2]
/-- The days rise by place. -/
def Rising (y : List S39) : Prop := ∀ i j : Nat, i < j → j < y.length → (rd_T39 y (i : Int)).f0 ≤ (rd_T39 y (j : Int)).f0
theorem serves_of (y : List S39) (s : Int) (r : S39) (t : List S39) (k0 k : Nat) (hlt : k0 < k) (hk : k < y.length) (hy : Rising y) (hd : ∀ q ∈ y, DayOk q) (hr : DayOk r) (ht : ∀ q ∈ t, DayOk q ∧ r.f0 ≤ q.f0) (n0 : nearB r (rd_T39 y (k0 : Int)) s = true) (n1 : nearB r (rd_T39 y (k : Int)) s = true) : Serves y s t k0 k := by
  intro q hq hn
  have d0 := hd _ (rd39_mem y k0 (by omega))
  have d1 := hd _ (rd39_mem y k hk)
  have hle := hy k0 k hlt hk
  obtain ⟨dq, hrq⟩ := ht q hq
  rw [near_days _ _ s hr d0] at n0
  rw [near_days _ _ s hr d1] at n1
  rw [near_days _ _ s dq d0] at hn
  rw [near_days _ _ s dq d1]
  obtain ⟨⟨p1, p2, p3, p4, p5⟩, p6, p7⟩ := n0
  obtain ⟨⟨q1, q2, q3, q4, q5⟩, q6, q7⟩ := n1
  obtain ⟨⟨r1, r2, r3, r4, r5⟩, r6, r7⟩ := hn
  refine ⟨⟨?_, ?_, ?_, ?_, ?_⟩, by omega, by omega⟩
  · rw [r1, ← p1, q1]
  · rw [r2, ← p2, q2]
  · rw [r3, ← p3, q3]
  · rw [r4, ← p4, q4]
  · rw [r5, ← p5, q5]
theorem pick_some (r : S39) (y : List S39) (s : Int) (used : List Bool) : ∀ (n k c : Nat), pick r y s used n k = some c → k ≤ c ∧ c < k + n ∧ rdOf false used (c : Int) = false ∧ nearB r (rd_T39 y (c : Int)) s = true ∧ ∀ m, k ≤ m → m < c → ¬ (rdOf false used (m : Int) = false ∧ nearB r (rd_T39 y (m : Int)) s = true)
  | 0, _, _, h => by simp [pick] at h
  | n + 1, k, c, h => by
    rw [pick] at h
    by_cases c1 : rdOf false used (k : Int) = true
    · rw [if_pos c1] at h
      obtain ⟨a1, a2, a3, a4, a5⟩ := pick_some r y s used n (k + 1) c h
      refine ⟨by omega, by omega, a3, a4, fun m h1 h2 => ?_⟩
      by_cases e : m = k
      · subst e; rw [c1]; simp
      · exact a5 m (by omega) h2
    rw [if_neg c1] at h
    by_cases c2 : nearB r (rd_T39 y (k : Int)) s = true
    · rw [if_pos c2] at h
      obtain rfl := Option.some.inj h
      exact ⟨Nat.le_refl _, by omega, by simpa using c1, c2, fun m h1 h2 => by omega⟩
    · rw [if_neg c2] at h
      obtain ⟨a1, a2, a3, a4, a5⟩ := pick_some r y s used n (k + 1) c h
      refine ⟨by omega, by omega, a3, a4, fun m h1 h2 => ?_⟩
      by_cases e : m = k
      · subst e; exact fun q => c2 q.2
      · exact a5 m (by omega) h2
theorem pick_none (r : S39) (y : List S39) (s : Int) (used : List Bool) : ∀ (n k : Nat), pick r y s used n k = none → ∀ m, k ≤ m → m < k + n → ¬ (rdOf false used (m : Int) = false ∧ nearB r (rd_T39 y (m : Int)) s = true)
  | 0, _, _, m, h1, h2 => by omega
  | n + 1, k, h, m, h1, h2 => by
    rw [pick] at h
    by_cases c1 : rdOf false used (k : Int) = true
    · rw [if_pos c1] at h
      by_cases e : m = k
      · subst e; rw [c1]; simp
      · exact pick_none r y s used n (k + 1) h m (by omega) (by omega)
    rw [if_neg c1] at h
    by_cases c2 : nearB r (rd_T39 y (k : Int)) s = true
    · rw [if_pos c2] at h; cases h
    · rw [if_neg c2] at h
      by_cases e : m = k
      · subst e; exact fun q => c2 q.2
      · exact pick_none r y s used n (k + 1) h m (by omega) (by omega)
/-- The used rows as a set. -/
def usedSet (used : List Bool) : Nat → Bool := fun k => rdOf false used (k : Int)
theorem usedSet_set (used : List Bool) (k : Nat) (h : k < used.length) : usedSet (used.set k true) = add (usedSet used) k := by
  funext j
  have e : (j : Int).toNat = j := by omega
  simp only [usedSet, add, rdOf, e, List.getD, List.getElem?_set]
  by_cases c : k = j
  · subst c; simp [h]
  · simp [c, Ne.symm c]
/-- Rows in order, behind a day. -/
def Sorted (d : Int) : List S39 → Prop
  | [] => True
  | r :: t => d ≤ r.f0 ∧ Sorted r.f0 t
theorem Sorted.le {d : Int} : ∀ {t : List S39}, Sorted d t → ∀ q ∈ t, d ≤ q.f0
  | [], _, q, h => by simp at h
  | r :: t, h, q, hq => by
    rcases List.mem_cons.1 hq with rfl | hq
    · exact h.1
    · have := Sorted.le h.2 q hq
      have := h.1
      omega
/-- Match has as many pairs as there can be. -/
theorem match_most (y : List S39) (s : Int) (hy : Rising y) (hd : ∀ q ∈ y, DayOk q) : ∀ (t : List S39) (d : Int) (i : Nat) (used : List Bool) (out : List S62), Sorted d t → (∀ q ∈ t, DayOk q) → used.length = y.length → (matchL y s i t used out).length = out.length + mst y s t (usedSet used)
  | [], _, _, _, _, _, _, _ => by simp [matchL, mst]
  | r :: t, d, i, used, out, hs, ht, hu => by
    have ht' : ∀ q ∈ t, DayOk q := fun q hq => ht q (List.mem_cons_of_mem _ hq)
    rw [matchL]
    cases hp : pick r y s used y.length 0 with
    | none =>
      have hn := pick_none r y s used y.length 0 hp
      have ih := match_most y s hy hd t r.f0 (i + 1) used out hs.2 ht' hu
      show (matchL y s (i + 1) t used out).length = _
      rw [ih]
      congr 1
      refine Nat.le_antisymm (mst_skip y s r t _) (mst_le y s r t _ _ (Nat.le_refl _) fun c hc h1 h2 => ?_)
      exact absurd ⟨h1, h2⟩ (hn c (Nat.zero_le _) (by omega))
    | some k0 =>
      obtain ⟨_, a2, a3, a4, a5⟩ := pick_some r y s used y.length 0 k0 hp
      have hk0 : k0 < y.length := by omega
      have ih := match_most y s hy hd t r.f0 (i + 1) (used.set k0 true) (out ++ [⟨(i : Int), (k0 : Int)⟩]) hs.2 ht' (by rw [List.length_set]; exact hu)
      show (matchL y s (i + 1) t (used.set k0 true) (out ++ [⟨(i : Int), (k0 : Int)⟩])).length = _
      rw [ih, usedSet_set used k0 (by omega), List.length_append, List.length_singleton, Nat.add_assoc]
      congr 1
      refine Nat.le_antisymm (mst_take y s r t _ k0 hk0 a3 a4) (mst_le y s r t _ _ (mst_one y s t _ k0 hk0 a3) fun c hc h1 h2 => ?_)
      by_cases e : c = k0
      · subst e; exact Nat.le_refl _
      · have hlt : k0 < c := by
          rcases Nat.lt_or_ge k0 c with h | h
          · exact h
          · exact absurd ⟨h1, h2⟩ (a5 c (Nat.zero_le _) (by omega))
        have hsv := serves_of y s r t k0 c hlt hc hy hd (ht r (by simp)) (fun q hq => ⟨ht' q hq, Sorted.le hs.2 q hq⟩) a4 h2
        have := mst_swap y s k0 c hk0 hc (by omega) t (usedSet used) a3 h1 hsv
        omega
end Go.Proofs.YtcehmgmhlmbhnaaDoor.Pure
