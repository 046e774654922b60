/- The statements that the laws build are in order, and the pairs of Match are sound. -/
import Derived.Test.YtcehmgmhlmbhnaaDoorPureState
import Derived.Test.YtcehmgmhlmbhnaaDoorPureMost
namespace Go.Proofs.YtcehmgmhlmbhnaaDoor.Pure
open Go.RowKit Go.Proofs.YtcehmgmhlmbhnaaDoor Go.Proofs.YtcehmgmhlmbhnaaDoor.Pr Go.Proofs.YtcehmgmhlmbhnaaDoorW.PrintWords
/-- In order by day. -/
def Asc (l : List S39) : Prop := l.Pairwise (fun u v => u.f0 ≤ v.f0)
theorem asc_append (l : List S39) (r : S39) (h : Asc l) (hr : ∀ q ∈ l, q.f0 ≤ r.f0) : Asc (l ++ [r]) := by
  unfold Asc
  rw [List.pairwise_append]
  exact ⟨h, by simp, fun a ha b hb => by rw [List.mem_singleton.1 hb]; exact hr a ha⟩
theorem asc_last (l : List S39) (z : S39) (h : Asc l) (hz : l.getLast? = some z) : ∀ q ∈ l, q.f0 ≤ z.f0 := by
  obtain ⟨t, rfl⟩ : ∃ t, l = t ++ [z] := by
    have hne : l ≠ [] := by intro e; rw [e] at hz; cases hz
    exact ⟨l.dropLast, by
      have := List.dropLast_concat_getLast hne
      have hz' : l.getLast? = some (l.getLast hne) := List.getLast?_eq_some_getLast hne
      rw [hz'] at hz
      rw [← Option.some.inj hz]; exact this.symm⟩
  unfold Asc at h
  rw [List.pairwise_append] at h
  intro q hq
  rcases List.mem_append.1 hq with hq | hq
  · exact h.2.2 q hq z (by simp)
  · rw [List.mem_singleton.1 hq]; exact Int.le_refl _
theorem order_ge (b : List S39) (d : Int) (hb : Asc b) : d ≤ orderDay b d ∧ ∀ q ∈ b, q.f0 ≤ orderDay b d := by
  unfold orderDay
  cases hl : b.getLast? with
  | none =>
    have : b = [] := List.getLast?_eq_none_iff.1 hl
    subst this
    exact ⟨Int.le_refl _, fun q hq => by cases hq⟩
  | some l =>
    have h := asc_last b l hb hl
    simp only
    by_cases c : d < l.f0
    · rw [if_pos c]
      exact ⟨by omega, h⟩
    · rw [if_neg c]
      exact ⟨Int.le_refl _, fun q hq => by have := h q hq; omega⟩
theorem order_le (b : List S39) (d B : Int) (hd : d ≤ B) (hb : ∀ q ∈ b, q.f0 ≤ B) : orderDay b d ≤ B := by
  unfold orderDay
  cases hl : b.getLast? with
  | none => exact hd
  | some l =>
    have hm : l ∈ b := List.mem_of_getLast? hl
    simp only
    by_cases c : d < l.f0
    · rw [if_pos c]; exact hb l hm
    · rw [if_neg c]; exact hd
theorem shift_days (sh : List Int) (hs : ∀ x ∈ sh, 0 ≤ x ∧ x ≤ 255) (i : Nat) (d : Int) (h0 : 0 ≤ d) (h1 : d ≤ 1000) : d ≤ shiftDay sh i d ∧ shiftDay sh i d ≤ d + 3 := by
  unfold shiftDay
  by_cases c : (i : Int) < (sh.length : Int)
  · rw [if_pos c]
    have hi : i < sh.length := by omega
    have e : (i : Int).toNat = i := by omega
    have er : rd sh (i : Int) = sh[i] := by rw [rd, e, List.getD, List.getElem?_eq_getElem hi]; rfl
    have hb := hs _ (List.getElem_mem hi)
    rw [er, Int.tmod_eq_emod_of_nonneg hb.1]
    have m0 : 0 ≤ sh[i] % 4 := Int.emod_nonneg _ (by omega)
    have m1 : sh[i] % 4 < 4 := Int.emod_lt_of_pos _ (by omega)
    generalize sh[i] % 4 = z at *
    have w1 : wrap64 z = z := by unfold wrap64; omega
    have w2 : wrap64 (d + z) = d + z := by unfold wrap64; omega
    rw [w1, w2]; omega
  · rw [if_neg c]; omega
/-- Days up to B. -/
def Upto (B : Int) (l : List S39) : Prop := ∀ q ∈ l, 0 ≤ q.f0 ∧ q.f0 ≤ B
theorem st_order (g : Int) (sh : List Int) (hs : ∀ x ∈ sh, 0 ≤ x ∧ x ≤ 255) : ∀ (x : List S39) (i : Nat) (a b : List S39) (m : Int), 0 ≤ m → Sorted m x → (m ≤ 900 ∧ ∀ r ∈ x, r.f0 ≤ 900) → Asc a → Upto m a → Asc b → Upto 1000 b → Asc (st g sh i x a b).1 ∧ Upto 1000 (st g sh i x a b).1 ∧ Asc (st g sh i x a b).2 ∧ Upto 1000 (st g sh i x a b).2
  | [], i, a, b, m, hm, _, hm9, h1, h2, h3, h4 => by
    rw [st]
    exact ⟨h1, fun q hq => by have := h2 q hq; exact ⟨this.1, by omega⟩, h3, h4⟩
  | r :: t, i, a, b, m, hm, hx, hm9, h1, h2, h3, h4 => by
    obtain ⟨hr, ht⟩ := hx
    have hr9 := hm9.2 r (by simp)
    rw [st]
    obtain ⟨s1, s2⟩ := shift_days sh hs i r.f0 (by omega) (by omega)
    obtain ⟨o1, o2⟩ := order_ge b (shiftDay sh i r.f0) h3
    have o3 := order_le b (shiftDay sh i r.f0) 1000 (by omega) (fun q hq => (h4 q hq).2)
    refine st_order g sh hs t (i + 1) _ _ r.f0 (by omega) ht ⟨by omega, fun q hq => hm9.2 q (List.mem_cons_of_mem _ hq)⟩ ?_ ?_ ?_ ?_
    · split
      · exact asc_append a (cutRow r) h1 (fun q hq => by have := (h2 q hq).2; show q.f0 ≤ r.f0; omega)
      · exact h1
    · split
      · intro q hq
        rcases List.mem_append.1 hq with hq | hq
        · have := h2 q hq; exact ⟨this.1, by omega⟩
        · rw [List.mem_singleton.1 hq]; show 0 ≤ r.f0 ∧ r.f0 ≤ r.f0; omega
      · intro q hq
        have := h2 q hq; exact ⟨this.1, by omega⟩
    · split
      · exact h3
      · exact asc_append b _ h3 o2
    · split
      · exact h4
      · intro q hq
        rcases List.mem_append.1 hq with hq | hq
        · exact h4 q hq
        · rw [List.mem_singleton.1 hq]; show 0 ≤ orderDay b (shiftDay sh i r.f0) ∧ orderDay b (shiftDay sh i r.f0) ≤ 1000; omega
theorem rise_sorted : ∀ (P : Int) (l : List S67) (d : Int), Sorted d (rowsF P d l)
  | _, [], _ => trivial
  | P, x :: t, d => by
    have e0 : 0 ≤ x.f0 % 6 := Int.emod_nonneg _ (by omega)
    rw [rowsF]
    exact ⟨by simp only [rowOf]; omega, rise_sorted P t (d + x.f0 % 6)⟩
theorem stOf_order (l : List S67) (g : Int) (sh : List Int) (hl : ∀ x ∈ l, Ok67 x) (hs : ∀ x ∈ sh, 0 ≤ x ∧ x ≤ 255) : Asc (stOf l g sh).1 ∧ Upto 1000 (stOf l g sh).1 ∧ Asc (stOf l g sh).2 ∧ Upto 1000 (stOf l g sh).2 := by
  have hb := fun r hr => (rows_built l 2 9 (by omega) hl r hr).2
  exact st_order g sh hs _ 0 [] [] 0 (by omega) (rise_sorted 2 _ 0) ⟨by omega, fun r hr => by have := hb r hr; omega⟩ List.Pairwise.nil (fun q hq => by cases hq) List.Pairwise.nil (fun q hq => by cases hq)
theorem asc_take (l : List S39) (n : Nat) (h : Asc l) : Asc (l.take n) := List.Pairwise.sublist (List.take_sublist n l) h
theorem upto_take (B : Int) (l : List S39) (n : Nat) (h : Upto B l) : Upto B (l.take n) := fun q hq => h q (List.mem_of_mem_take hq)
theorem asc_sorted : ∀ (l : List S39) (d : Int), Asc l → (∀ q ∈ l, d ≤ q.f0) → Sorted d l
  | [], _, _, _ => trivial
  | r :: t, d, h, hd => by
    unfold Asc at h
    rw [List.pairwise_cons] at h
    exact ⟨hd r (by simp), asc_sorted t r.f0 h.2 h.1⟩
theorem asc_rising (l : List S39) (h : Asc l) : Rising l := by
  intro i j hij hj
  have := List.pairwise_iff_getElem.1 h i j (by omega) hj hij
  have ei : rd_T39 l (i : Int) = l[i] := by simp [rd_T39, List.getD, List.getElem?_eq_getElem (show i < l.length by omega)]
  have ej : rd_T39 l (j : Int) = l[j] := by simp [rd_T39, List.getD, List.getElem?_eq_getElem hj]
  rw [ei, ej]
  exact this
theorem sorted_chk : ∀ (l : List S39) (d : Int), Sorted d l → chk d l = true
  | [], _, _ => rfl
  | r :: t, d, h => by rw [chk, if_neg (by have := h.1; omega)]; exact sorted_chk t r.f0 h.2
theorem asc_ord (l : List S39) (h : Asc l) : ordB l = true := by
  cases l with
  | nil => rfl
  | cons r t =>
    unfold Asc at h
    rw [List.pairwise_cons] at h
    exact sorted_chk t r.f0 (asc_sorted t r.f0 h.2 h.1)
theorem upto_days (l : List S39) (h : Upto 1000 l) : daysB l = true := by
  unfold daysB
  rw [List.all_eq_true]
  intro q hq
  have := h q hq
  simp; omega
theorem upto_ok (l : List S39) (h : Upto 1000 l) : ∀ q ∈ l, DayOk q := fun q hq => by have := h q hq; exact ⟨this.1, by omega⟩
end Go.Proofs.YtcehmgmhlmbhnaaDoor.Pure
