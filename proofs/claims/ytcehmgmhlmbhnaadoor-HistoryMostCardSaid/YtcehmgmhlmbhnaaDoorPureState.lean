/- The statements that the laws build. -/
import Derived.Test.YtcehmgmhlmbhnaaDoorPr34
import Derived.Test.YtcehmgmhlmbhnaaDoorPureList
namespace Go.Proofs.YtcehmgmhlmbhnaaDoor.Pure
open Go.RowKit Go.Proofs.YtcehmgmhlmbhnaaDoor Go.Proofs.YtcehmgmhlmbhnaaDoor.Pr Go.Proofs.YtcehmgmhlmbhnaaDoorW.PrintWords
/-- A row of the statements: a small amount, no worth. -/
def cutRow (r : S39) : S39 := ⟨r.f0, r.f1, r.f2, r.f3, Int.tmod r.f4 3, 0⟩
/-- The day of the i-th row in the second statement, before it is put in order. -/
def shiftDay (sh : List Int) (i : Nat) (d : Int) : Int := if (i : Int) < (sh.length : Int) then wrap64 (d + wrap64 (Int.tmod (rd sh (i : Int)) 4)) else d
/-- The day in order: not before the last one's. -/
def orderDay (b : List S39) (d : Int) : Int := match b.getLast? with
  | none => d
  | some l => if d < l.f0 then l.f0 else d
/-- Whether the i-th row is in the first statement. -/
def inFirst (g : Int) (i : Nat) : Bool := decide (Go.bits .and .u16 (shr .u16 g (IntKind.u64.wrap (Int.tmod (i : Int) 16))) 1 = 0)
/-- The two statements. -/
def st (g : Int) (sh : List Int) : Nat → List S39 → List S39 → List S39 → List S39 × List S39
  | _, [], a, b => (a, b)
  | i, r :: t, a, b => st g sh (i + 1) t (if inFirst g i = true then a ++ [cutRow r] else a)
      (if Int.tmod (i : Int) 5 = 4 then b else b ++ [⟨orderDay b (shiftDay sh i r.f0), r.f1, r.f2, r.f3, Int.tmod r.f4 3, 0⟩])
theorem rd_last (b : List S39) (h : 0 < b.length) (hb : b.length ≤ 1000000) : wrap64 ((b.length : Int) - 1) = ((b.length - 1 : Nat) : Int) ∧ b.getLast? = some (rd_T39 b ((b.length - 1 : Nat) : Int)) := by
  refine ⟨by unfold wrap64; omega, ?_⟩
  have hl : b.length - 1 < b.length := by omega
  rw [List.getLast?_eq_getElem?, List.getElem?_eq_getElem hl]
  simp [rd_T39, List.getD, List.getElem?_eq_getElem hl]
theorem rd_set (x : List S39) (j : Nat) (h : j < x.length) (v : S39) : rd_T39 (x.set j v) (j : Int) = v := by
  simp [rd_T39, List.getD, h]
theorem wrap_nonneg (n : Int) : 0 ≤ IntKind.u64.wrap n := Int.emod_nonneg _ (by decide)
theorem st_j3 (g : Int) (sh : List Int) (x a b : List S39) (i : Nat) (hi : i < 1000) (hb : b.length ≤ 1000) (d f1 f2 f3 f4 f5 : Int) (q : Bool) (hq : q = true ↔ ∃ l, b.getLast? = some l ∧ d < l.f0) (res : List S39 × List S39)
    (h : Ev (fun k => insolvencylaw25_statements.l0 k g sh x a (if Int.tmod (i : Int) 5 = 4 then b else b ++ [⟨orderDay b d, f1, f2, f3, f4, f5⟩]) ((i + 1 : Nat) : Int)) res) :
    Ev (fun k => insolvencylaw25_statements.j3 k g sh x a b (i : Int) q d f1 f2 f3 f4 f5) res := by
  have e1 : wrap64 ((i : Int) + 1) = ((i + 1 : Nat) : Int) := by unfold wrap64; omega
  cases q with
  | true =>
    obtain ⟨l, hl, hd⟩ := hq.1 rfl
    have h0 : 0 < b.length := by
      cases b with
      | nil => simp at hl
      | cons _ _ => simp
    obtain ⟨w1, w2⟩ := rd_last b h0 (by omega)
    have el : rd_T39 b ((b.length - 1 : Nat) : Int) = l := Option.some.inj (w2.symm.trans hl)
    have eo : orderDay b d = l.f0 := by unfold orderDay; rw [hl]; exact if_pos hd
    rw [eo] at h
    refine Ev.step (fun k => by rw [insolvencylaw25_statements.j3, if_pos rfl, w1, if_pos (by omega), if_pos (by omega), el, e1]) ?_
    by_cases c : Int.tmod (i : Int) 5 = 4
    · rw [if_pos c] at h
      exact Ev.congr (fun k => if_pos c) h
    · rw [if_neg c] at h
      exact Ev.congr (fun k => by rw [if_neg c, if_pos (by omega)]) h
  | false =>
    have eo : orderDay b d = d := by
      unfold orderDay
      cases hb' : b.getLast? with
      | none => rfl
      | some l => exact if_neg (fun hd => absurd (hq.2 ⟨l, hb', hd⟩) (by simp))
    rw [eo] at h
    refine Ev.step (fun k => by rw [insolvencylaw25_statements.j3, if_neg (by simp), e1]) ?_
    by_cases c : Int.tmod (i : Int) 5 = 4
    · rw [if_pos c] at h
      exact Ev.congr (fun k => if_pos c) h
    · rw [if_neg c] at h
      exact Ev.congr (fun k => by rw [if_neg c, if_pos (by omega)]) h
theorem st_j2 (g : Int) (sh : List Int) (x a b : List S39) (i : Nat) (hi : i < 1000) (hb : b.length ≤ 1000) (d f1 f2 f3 f4 f5 : Int) (res : List S39 × List S39)
    (h : Ev (fun k => insolvencylaw25_statements.l0 k g sh x a (if Int.tmod (i : Int) 5 = 4 then b else b ++ [⟨orderDay b d, f1, f2, f3, f4, f5⟩]) ((i + 1 : Nat) : Int)) res) :
    Ev (fun k => insolvencylaw25_statements.j2 k g sh x a b (i : Int) d f1 f2 f3 f4 f5) res := by
  by_cases c : (b.length : Int) > 0
  · obtain ⟨w1, w2⟩ := rd_last b (by omega) (by omega)
    refine Ev.step (fun k => by rw [insolvencylaw25_statements.j2, if_pos c, w1, if_pos (by omega), if_pos (by omega)]) ?_
    refine st_j3 g sh x a b i hi hb d f1 f2 f3 f4 f5 _ ?_ res h
    rw [w2]; simp
  · refine Ev.step (fun k => by rw [insolvencylaw25_statements.j2, if_neg c]) ?_
    refine st_j3 g sh x a b i hi hb d f1 f2 f3 f4 f5 _ ?_ res h
    have : b = [] := by
      cases b with
      | nil => rfl
      | cons _ _ => simp at c
    rw [this]; simp
theorem st_l0 (g : Int) (sh : List Int) : ∀ (n i : Nat) (x a b : List S39), i + n = x.length → x.length ≤ 900 → a.length ≤ i → b.length ≤ i → Ev (fun k => insolvencylaw25_statements.l0 k g sh x a b (i : Int)) (st g sh i (x.drop i) a b)
  | 0, i, x, a, b, h, hl, _, _ => by
    rw [List.drop_of_length_le (by omega), st]
    exact Ev.step (fun k => by rw [insolvencylaw25_statements.l0, if_neg (by omega)]) (Ev.now _)
  | n + 1, i, x, a, b, h, hl, ha, hb => by
    have hi : i < x.length := by omega
    have ei : (i : Int).toNat = i := by omega
    have ih := fun a' b' h1 h2 => st_l0 g sh n (i + 1) (x.set i (cutRow (rd_T39 x (i : Int)))) a' b' (by rw [List.length_set]; omega) (by rw [List.length_set]; omega) h1 h2
    have hdrop : (x.set i (cutRow (rd_T39 x (i : Int)))).drop (i + 1) = x.drop (i + 1) := List.drop_set_of_lt (by omega)
    rw [hdrop] at ih
    rw [rd39_drop x i hi, st]
    have es : ((x.set i (⟨(rd_T39 x (i : Int)).f0, (rd_T39 x (i : Int)).f1, (rd_T39 x (i : Int)).f2, (rd_T39 x (i : Int)).f3, Int.tmod ((rd_T39 x (i : Int)).f4) 3, (rd_T39 x (i : Int)).f5⟩ : S39)).set i (cutRow (rd_T39 x (i : Int)))) = x.set i (cutRow (rd_T39 x (i : Int))) := List.set_set ..
    have next : ∀ a' : List S39, a'.length ≤ i + 1 → a' = (if inFirst g i = true then a ++ [cutRow (rd_T39 x (i : Int))] else a) → Ev (fun k => insolvencylaw25_statements.j1 k g sh (x.set i (cutRow (rd_T39 x (i : Int)))) a' b (i : Int)) (st g sh (i + 1) (x.drop (i + 1)) (if inFirst g i = true then a ++ [cutRow (rd_T39 x (i : Int))] else a) (if Int.tmod (i : Int) 5 = 4 then b else b ++ [⟨orderDay b (shiftDay sh i (rd_T39 x (i : Int)).f0), (rd_T39 x (i : Int)).f1, (rd_T39 x (i : Int)).f2, (rd_T39 x (i : Int)).f3, Int.tmod (rd_T39 x (i : Int)).f4 3, 0⟩])) := by
      intro a' hla ea
      rw [← ea]
      have er := rd_set x i hi (cutRow (rd_T39 x (i : Int)))
      have bl : (if Int.tmod (i : Int) 5 = 4 then b else b ++ [(⟨orderDay b (shiftDay sh i (rd_T39 x (i : Int)).f0), (rd_T39 x (i : Int)).f1, (rd_T39 x (i : Int)).f2, (rd_T39 x (i : Int)).f3, Int.tmod (rd_T39 x (i : Int)).f4 3, 0⟩ : S39)]).length ≤ i + 1 := by
        split
        · omega
        · rw [List.length_append]; simp; omega
      have u := ih a' _ hla bl
      by_cases c : (i : Int) < (sh.length : Int)
      · refine Ev.step (fun k => by rw [insolvencylaw25_statements.j1, if_pos (by omega), if_pos (by rw [List.length_set]; omega), if_pos c, er]) ?_
        have ed : shiftDay sh i (rd_T39 x (i : Int)).f0 = wrap64 ((rd_T39 x (i : Int)).f0 + wrap64 (Int.tmod (rd sh (i : Int)) 4)) := if_pos c
        rw [ed] at u ⊢
        exact st_j2 g sh _ a' b i (by omega) (by omega) _ _ _ _ _ _ _ u
      · refine Ev.step (fun k => by rw [insolvencylaw25_statements.j1, if_pos (by omega), if_pos (by rw [List.length_set]; omega), if_neg c, er]) ?_
        have ed : shiftDay sh i (rd_T39 x (i : Int)).f0 = (rd_T39 x (i : Int)).f0 := if_neg c
        rw [ed] at u ⊢
        exact st_j2 g sh _ a' b i (by omega) (by omega) _ _ _ _ _ _ _ u
    have er1 := rd_set x i hi (⟨(rd_T39 x (i : Int)).f0, (rd_T39 x (i : Int)).f1, (rd_T39 x (i : Int)).f2, (rd_T39 x (i : Int)).f3, Int.tmod ((rd_T39 x (i : Int)).f4) 3, (rd_T39 x (i : Int)).f5⟩ : S39)
    have er2 := rd_set x i hi (cutRow (rd_T39 x (i : Int)))
    refine Ev.step (fun k => by rw [insolvencylaw25_statements.l0, if_pos (by omega), if_pos (by omega), Option.bind_some, Option.bind_some, if_pos (wrap_nonneg _), ei, er1]) ?_
    have es' : ((x.set i (⟨(rd_T39 x (i : Int)).f0, (rd_T39 x (i : Int)).f1, (rd_T39 x (i : Int)).f2, (rd_T39 x (i : Int)).f3, Int.tmod ((rd_T39 x (i : Int)).f4) 3, (rd_T39 x (i : Int)).f5⟩ : S39)).set i (⟨(rd_T39 x (i : Int)).f0, (rd_T39 x (i : Int)).f1, (rd_T39 x (i : Int)).f2, (rd_T39 x (i : Int)).f3, Int.tmod ((rd_T39 x (i : Int)).f4) 3, 0⟩ : S39)) = x.set i (cutRow (rd_T39 x (i : Int))) := es
    simp only [es', er2]
    by_cases c : Go.bits .and .u16 (shr .u16 g (IntKind.u64.wrap (Int.tmod (i : Int) 16))) 1 = 0
    · refine Ev.congr (fun k => by rw [if_pos c, if_pos (by omega)]) (next (a ++ [cutRow (rd_T39 x (i : Int))]) (by rw [List.length_append]; simp; omega) ?_)
      rw [if_pos (show inFirst g i = true from decide_eq_true c)]
    · refine Ev.congr (fun k => by rw [if_neg c]) (next a (by omega) ?_)
      rw [if_neg (show ¬ inFirst g i = true from fun q => c (of_decide_eq_true q))]
theorem st_len (g : Int) (sh : List Int) : ∀ (x : List S39) (i : Nat) (a b : List S39), (st g sh i x a b).1.length ≤ a.length + x.length ∧ (st g sh i x a b).2.length ≤ b.length + x.length
  | [], _, _, _ => by simp [st]
  | r :: t, i, a, b => by
    rw [st, List.length_cons]
    have ih := st_len g sh t (i + 1) (if inFirst g i = true then a ++ [cutRow r] else a) (if Int.tmod (i : Int) 5 = 4 then b else b ++ [⟨orderDay b (shiftDay sh i r.f0), r.f1, r.f2, r.f3, Int.tmod r.f4 3, 0⟩])
    have la : (if inFirst g i = true then a ++ [cutRow r] else a).length ≤ a.length + 1 := by split <;> simp
    have lb : (if Int.tmod (i : Int) 5 = 4 then b else b ++ [(⟨orderDay b (shiftDay sh i r.f0), r.f1, r.f2, r.f3, Int.tmod r.f4 3, 0⟩ : S39)]).length ≤ b.length + 1 := by split <;> simp
    omega
/-- What the laws' statements are. -/
def stOf (l : List S67) (g : Int) (sh : List Int) : List S39 × List S39 := st g sh 0 (rowsF 2 0 (l.take (Int.toNat 9))) [] []
theorem ev_st (l : List S67) (g : Int) (sh : List Int) (hl : ∀ x ∈ l, Ok67 x) : Ev (fun k => insolvencylaw25_statements.f k l g sh) (stOf l g sh) := by
  refine Ev.congr (fun k => by rw [insolvencylaw25_statements.f, rows_eq l 2 9 (by omega) (by omega) hl, Option.bind_some]) ?_
  have hlen : (rowsF 2 0 (l.take (Int.toNat 9))).length ≤ 9 := by rw [rowsF_length, List.length_take]; omega
  exact st_l0 g sh (rowsF 2 0 (l.take (Int.toNat 9))).length 0 _ [] [] (by omega) (by omega) (by simp) (by simp)
theorem stOf_len (l : List S67) (g : Int) (sh : List Int) : (stOf l g sh).1.length ≤ 9 ∧ (stOf l g sh).2.length ≤ 9 := by
  have hlen : (rowsF 2 0 (l.take (Int.toNat 9))).length ≤ 9 := by rw [rowsF_length, List.length_take]; omega
  have := st_len g sh (rowsF 2 0 (l.take (Int.toNat 9))) 0 [] []
  simp only [List.length_nil, Nat.zero_add] at this
  unfold stOf
  omega
end Go.Proofs.YtcehmgmhlmbhnaaDoor.Pure
