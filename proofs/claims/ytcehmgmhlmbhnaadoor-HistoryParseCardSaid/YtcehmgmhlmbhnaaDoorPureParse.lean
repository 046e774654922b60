/- What the two Parses of histories compute. -/
import Derived.Test.YtcehmgmhlmbhnaaDoorPureLine
namespace Go.Proofs.YtcehmgmhlmbhnaaDoor.Pure
open Go.RowKit Go.Proofs.YtcehmgmhlmbhnaaDoor Go.Proofs.YtcehmgmhlmbhnaaDoor.Pr Go.Proofs.YtcehmgmhlmbhnaaDoorW.PrintWords
/-- What Parse gives for the text s behind the rows acc; at most n lines. -/
def parseL : Nat → List UInt8 → List S39 → List S39 × Int × Int
  | 0, _, acc => (acc, 0, 0)
  | n + 1, s, acc => if s = [] then (acc, 0, 0) else if 256 ≤ acc.length then ([], (acc.length : Int) + 1, 2) else match rowOfLine (cutAt 10 s).1 with
    | none => ([], (acc.length : Int) + 1, 10)
    | some r => if (cutAt 10 s).2.2 = true then parseL n (cutAt 10 s).2.1 (acc ++ [r]) else ([], (acc.length : Int) + 1, 10)
/-- What Parse gives. -/
def parse (s : List UInt8) : List S39 × Int × Int := if s.length ≤ 8192 then parseL (s.length + 1) s [] else ([], 0, 2)
theorem cut_whole (c : UInt8) : ∀ s : List UInt8, s = (cutAt c s).1 ++ (if (cutAt c s).2.2 = true then c :: (cutAt c s).2.1 else [])
  | [] => by simp [cutAt]
  | b :: t => by
    have ih := cut_whole c t
    rw [cutAt]
    by_cases h : b = c
    · rw [if_pos h, h]; simp
    · rw [if_neg h]
      simp only [List.cons_append]
      rw [← ih]
theorem cut_len (c : UInt8) (s : List UInt8) : (cutAt c s).1.length ≤ s.length ∧ ((cutAt c s).2.2 = true → (cutAt c s).1.length + 1 + (cutAt c s).2.1.length = s.length) ∧ ((cutAt c s).2.2 = false → (cutAt c s).1.length = s.length) := by
  have h := congrArg List.length (cut_whole c s)
  rw [List.length_append] at h
  refine ⟨by omega, fun q => ?_, fun q => ?_⟩
  · rw [if_pos q, List.length_cons] at h; omega
  · rw [if_neg (by simp [q])] at h; simp at h; omega
theorem cut_take (c : UInt8) (s : List UInt8) : s.take (cutAt c s).1.length = (cutAt c s).1 := by
  conv => lhs; arg 2; rw [cut_whole c s]
  rw [List.take_left']
  rfl
theorem cut_drop (c : UInt8) (s : List UInt8) (h : (cutAt c s).2.2 = true) : s.drop ((cutAt c s).1.length + 1) = (cutAt c s).2.1 := by
  conv => lhs; arg 2; rw [cut_whole c s]
  rw [if_pos h, ← List.drop_drop, List.drop_left']
  · rfl
  · rfl
theorem hparse_l0 : ∀ (n : Nat) (s : List UInt8) (acc : List S39), s.length < n → s.length ≤ 8192 → acc.length ≤ 256 → Ev (fun k => history_Parse.l0 k (bs s) acc ((acc.length : Int) + 1)) (parseL n s acc)
  | 0, s, acc, h, _, _ => absurd h (by omega)
  | n + 1, s, acc, h, hs, ha => by
    rw [parseL]
    by_cases c : s = []
    · rw [if_pos c]
      exact Ev.step (fun k => by rw [history_Parse.l0, if_pos (by rw [toList_bs]; exact c)]) (Ev.now _)
    rw [if_neg c]
    by_cases c2 : 256 ≤ acc.length
    · rw [if_pos c2]
      exact Ev.step (fun k => by rw [history_Parse.l0, if_neg (by rw [toList_bs]; exact c), if_pos (by omega)]) (Ev.now _)
    rw [if_neg c2]
    have e1 : wrap64 ((acc.length : Int) + 1 + 1) = (acc.length : Int) + 1 + 1 := by unfold wrap64; omega
    have ec : strings_Cut.f (bs s) (⟨#[10]⟩ : ByteArray) = some (bs (cutAt 10 s).1, bs (cutAt 10 s).2.1, (cutAt 10 s).2.2) := by
      rw [strings_Cut.f, if_pos (by rw [bs_size]; omega)]
      rw [show (⟨#[10]⟩ : ByteArray) = bs [10] from rfl, bs_data, bs_data, cut_eq]
      rfl
    have hl := cut_len 10 s
    refine Ev.step (fun k => by rw [history_Parse.l0, if_neg (by rw [toList_bs]; exact c), if_neg (by omega), ec, Option.bind_some, e1]) (Ev.bind (ev_parseLine _ (by omega)) ?_)
    cases hr : rowOfLine (cutAt 10 s).1 with
    | none => exact Ev.congr (fun k => if_neg (by simp [tup])) (Ev.now _)
    | some r =>
      refine Ev.congr (fun k => if_pos rfl) ?_
      by_cases c3 : (cutAt 10 s).2.2 = true
      · have hq := hl.2.1 c3
        simp only [c3, ↓reduceIte]
        have ih := hparse_l0 n (cutAt 10 s).2.1 (acc ++ [r]) (by omega) (by omega) (by rw [List.length_append]; simp; omega)
        rw [List.length_append, List.length_singleton] at ih
        refine Ev.congr (fun k => by rw [if_pos (by omega)]) ?_
        exact ih
      · simp only [c3, ↓reduceIte, Bool.false_eq_true]
        exact Ev.now _
theorem ev_parse_h (s : List UInt8) : Ev (fun k => history_Parse.f k (bs s)) (parse s) := by
  unfold parse
  by_cases c : ((bs s).size : Int) > 8192
  · rw [if_neg (by rw [bs_size] at c; omega)]
    exact Ev.congr (fun k => by rw [history_Parse.f, if_pos c]) (Ev.now _)
  · rw [if_pos (by rw [bs_size] at c; omega)]
    exact Ev.congr (fun k => by rw [history_Parse.f, if_neg c]; rfl) (hparse_l0 (s.length + 1) s [] (by omega) (by rw [bs_size] at c; omega) (by simp))
theorem rparse_l1 (s : List UInt8) (hs : s.length ≤ 8192) (acc : List S39) (i : Nat) (r : List S39 × Int × Int) : ∀ (n t : Nat), t + n = s.length → Ev (fun k => insolvencyref25_Parse.j2 k (bs s) acc (i : Int) ((t + (cutAt 10 (s.drop t)).1.length : Nat) : Int)) r → Ev (fun k => insolvencyref25_Parse.l1 k (bs s) acc (i : Int) (t : Int)) r
  | 0, t, h, hk => by
    rw [List.drop_of_length_le (by omega)] at hk
    exact Ev.step (fun k => by rw [insolvencyref25_Parse.l1, bs_size, if_neg (by omega)]; rfl) hk
  | n + 1, t, h, hk => by
    have ht : t < s.length := by omega
    have e1 : wrap64 ((t : Int) + 1) = ((t + 1 : Nat) : Int) := by unfold wrap64; omega
    rw [List.drop_eq_getElem_cons ht, cutAt] at hk
    refine Ev.step (fun k => by rw [insolvencyref25_Parse.l1, bs_size, if_pos (by omega), if_pos (by omega), bt_bs s t ht, e1]) ?_
    by_cases c : s[t] = 10
    · have c' : ((s[t].toNat : Nat) : Int) = 10 := by rw [c]; rfl
      rw [if_pos c] at hk
      exact Ev.congr (fun k => if_pos c') hk
    · have c' : ¬ ((s[t].toNat : Nat) : Int) = 10 := fun q => c (UInt8.toNat_inj.1 (by have : (10 : UInt8).toNat = 10 := rfl; omega))
      rw [if_neg c] at hk
      simp only [List.length_cons] at hk
      refine Ev.congr (fun k => if_neg c') (rparse_l1 s hs acc i r n (t + 1) (by omega) ?_)
      rw [show t + 1 + (cutAt 10 (s.drop (t + 1))).1.length = t + ((cutAt 10 (s.drop (t + 1))).1.length + 1) by omega]
      exact hk
theorem rparse_l0 (s : List UInt8) (hs : s.length ≤ 8192) : ∀ (n i : Nat) (acc : List S39), s.length - i < n → i ≤ s.length → acc.length ≤ 256 → Ev (fun k => insolvencyref25_Parse.l0 k (bs s) acc (i : Int)) (parseL n (s.drop i) acc)
  | 0, i, acc, h, _, _ => absurd h (by omega)
  | n + 1, i, acc, h, hi, ha => by
    rw [parseL]
    by_cases c : i = s.length
    · rw [if_pos (by rw [List.drop_of_length_le (by omega)])]
      exact Ev.step (fun k => by rw [insolvencyref25_Parse.l0, bs_size, if_neg (by omega)]) (Ev.now _)
    have hne : s.drop i ≠ [] := by
      intro q
      have := congrArg List.length q
      simp at this; omega
    rw [if_neg hne]
    refine Ev.step (fun k => by rw [insolvencyref25_Parse.l0, bs_size, if_pos (by omega)]) (rparse_l1 s hs acc i _ (s.length - i) i (by omega) ?_)
    have e1 : wrap64 ((acc.length : Int) + 1) = (acc.length : Int) + 1 := by unfold wrap64; omega
    by_cases c2 : 256 ≤ acc.length
    · rw [if_pos c2]
      exact Ev.step (fun k => by rw [insolvencyref25_Parse.j2, if_pos (by omega), e1]) (Ev.now _)
    rw [if_neg c2]
    obtain ⟨line, hli⟩ : ∃ line, line = (cutAt 10 (s.drop i)).1 := ⟨_, rfl⟩
    obtain ⟨rest, hre⟩ : ∃ rest, rest = (cutAt 10 (s.drop i)).2.1 := ⟨_, rfl⟩
    obtain ⟨fl, hfl⟩ : ∃ fl, fl = (cutAt 10 (s.drop i)).2.2 := ⟨_, rfl⟩
    have hl := cut_len 10 (s.drop i)
    have hdl : (s.drop i).length = s.length - i := List.length_drop
    have ht := cut_take 10 (s.drop i)
    have hd := cut_drop 10 (s.drop i)
    rw [← hli, ← hre, ← hfl, hdl] at hl
    rw [← hli] at ht
    rw [← hli, ← hre, ← hfl] at hd
    rw [← hli, ← hre, ← hfl]
    clear hli hre hfl hne
    have ee : (bs s).extract ((i : Int)).toNat (((i + line.length : Nat) : Int)).toNat = bs line := by
      have q1 : ((i : Int)).toNat = i := by omega
      have q2 : (((i + line.length : Nat) : Int)).toNat = i + line.length := by omega
      rw [q1, q2, extract_bs, Nat.add_sub_cancel_left, ht]
    refine Ev.step (fun k => by rw [insolvencyref25_Parse.j2, if_neg (by omega), if_pos (by omega), if_pos (by omega), if_pos (by rw [bs_size]; omega), ee, e1]) (Ev.bind (ev_row line (by omega)) ?_)
    cases hr : rowOfLine line with
    | none => exact Ev.congr (fun k => if_neg (by simp [tup])) (Ev.now _)
    | some r =>
      refine Ev.congr (fun k => if_pos rfl) ?_
      cases fl with
      | true =>
        have hq := hl.2.1 rfl
        have e2 : wrap64 (((i + line.length : Nat) : Int) + 1) = ((i + (line.length + 1) : Nat) : Int) := by unfold wrap64; omega
        have ih := rparse_l0 s hs n (i + (line.length + 1)) (acc ++ [r]) (by omega) (by omega) (by rw [List.length_append]; simp; omega)
        rw [← List.drop_drop, hd rfl] at ih
        exact Ev.congr (fun k => by rw [if_neg (by rw [bs_size]; omega), if_pos (by omega), e2]; rfl) ih
      | false =>
        have hq := hl.2.2 rfl
        exact Ev.congr (fun k => if_pos (by rw [bs_size]; omega)) (Ev.now _)
theorem ev_parse_r (s : List UInt8) : Ev (fun k => insolvencyref25_Parse.f k (bs s)) (parse s) := by
  unfold parse
  by_cases c : ((bs s).size : Int) > 8192
  · rw [if_neg (by rw [bs_size] at c; omega)]
    exact Ev.congr (fun k => by rw [insolvencyref25_Parse.f, if_pos c]) (Ev.now _)
  · rw [if_pos (by rw [bs_size] at c; omega)]
    exact Ev.congr (fun k => by rw [insolvencyref25_Parse.f, if_neg c]; rfl) (rparse_l0 s (by rw [bs_size] at c; omega) (s.length + 1) 0 [] (by omega) (by omega) (by simp))
theorem parseL_len : ∀ (n : Nat) (s : List UInt8) (acc : List S39), acc.length ≤ 256 → (parseL n s acc).1.length ≤ 256
  | 0, _, acc, h => h
  | n + 1, s, acc, h => by
    rw [parseL]
    split
    · exact h
    split
    · simp
    split
    · simp
    split
    · exact parseL_len n _ _ (by rw [List.length_append]; simp; omega)
    · simp
theorem parse_len (s : List UInt8) : (parse s).1.length ≤ 256 := by
  unfold parse
  split
  · exact parseL_len _ _ _ (by simp)
  · simp
theorem same_l0 (x : List S39) (hlen : x.length ≤ 1000000) : ∀ (n j : Nat), j + n = x.length → Ev (fun k => insolvencyref25_SameRows.l0 k x x (j : Int)) true
  | 0, j, h => Ev.step (fun k => by rw [insolvencyref25_SameRows.l0, if_neg (by omega)]) (Ev.now _)
  | n + 1, j, h => by
    have hj : j < x.length := by omega
    refine Ev.step (fun k => by rw [insolvencyref25_SameRows.l0, if_pos (by omega), if_pos (by omega), if_pos (by omega), if_neg (by simp), succ64 j _ hj (by omega)]) ?_
    exact same_l0 x hlen n (j + 1) (by omega)
theorem ev_same_rows (x : List S39) (hlen : x.length ≤ 1000000) : Ev (fun k => insolvencyref25_SameRows.f k x x) true :=
  Ev.congr (fun k => by rw [insolvencyref25_SameRows.f, if_pos rfl]; rfl) (same_l0 x hlen x.length 0 (by omega))
end Go.Proofs.YtcehmgmhlmbhnaaDoor.Pure
