/- Cutting and splitting texts at a byte, and the numbers that words stand for. -/
import Derived.Test.YtcehmgmhlmbhnaaDoorPr4
import Derived.Test.YtcehmgmhlmbhnaaDoorPr5
import Derived.Test.YtcehmgmhlmbhnaaDoorPr6
import Derived.Test.YtcehmgmhlmbhnaaDoorPureText
import Derived.Lib.SplitLaws
namespace Go.Proofs.YtcehmgmhlmbhnaaDoor.Pure
open Go.RowKit Go.Proofs.YtcehmgmhlmbhnaaDoor Go.Proofs.YtcehmgmhlmbhnaaDoor.Pr Go.Proofs.YtcehmgmhlmbhnaaDoorW.PrintWords
/-- The text before and after the first byte c, and whether there is one. -/
def cutAt (c : UInt8) : List UInt8 → List UInt8 × List UInt8 × Bool
  | [] => ([], [], false)
  | b :: t => if b = c then ([], t, true) else (b :: (cutAt c t).1, (cutAt c t).2.1, (cutAt c t).2.2)
/-- A prefix glued to the first piece. -/
def glue (p : List UInt8) : List (List UInt8) → List (List UInt8)
  | [] => [p]
  | w :: ws => (p ++ w) :: ws
/-- The pieces between the bytes c. -/
def splitAt (c : UInt8) : List UInt8 → List (List UInt8)
  | [] => [[]]
  | b :: t => if b = c then [] :: splitAt c t else glue [b] (splitAt c t)
theorem idx_cons (b c : UInt8) (l : List UInt8) : Lib.index (b :: l) [c] = if b = c then 0 else if Lib.index l [c] = -1 then -1 else Lib.index l [c] + 1 := by
  by_cases h : b = c
  · subst h
    rw [Lib.index]; simp [List.isPrefixOf]
  · have hp : ([c] : List UInt8).isPrefixOf (b :: l) = false := by simp [List.isPrefixOf, Ne.symm h]
    rw [Lib.index, hp, if_neg h]; simp
theorem cut_eq (c : UInt8) : ∀ s : List UInt8, Lib.cut s [c] = cutAt c s
  | [] => by simp [Lib.cut, Lib.index, cutAt]
  | b :: l => by
    have ih := cut_eq c l
    have hge := Lib.index_ge l [c]
    unfold Lib.cut at ih ⊢
    rw [idx_cons, cutAt]
    by_cases h : b = c
    · rw [if_pos h, if_pos h]; simp
    · rw [if_neg h, if_neg h, ← ih]
      by_cases m : Lib.index l [c] = -1
      · rw [if_pos m, m]; simp
      · obtain ⟨j, hj⟩ : ∃ j : Nat, Lib.index l [c] = j := ⟨(Lib.index l [c]).toNat, by omega⟩
        have e1 : ((j : Int) + 1).toNat = j + 1 := by omega
        have e2 : (j : Int).toNat = j := by omega
        rw [if_neg m, hj, if_pos (by omega), if_pos (by omega), e1, e2]; simp
theorem splitK_eq (c : UInt8) : ∀ s : List UInt8, Lib.splitK [c] 0 (Lib.count s [c]) s = splitAt c s
  | [] => by rw [Lib.count_miss (by simp [Lib.index])]; rfl
  | b :: l => by
    have ih := splitK_eq c l
    have hge := Lib.index_ge l [c]
    rw [splitAt]
    by_cases h : b = c
    · subst h
      rw [Lib.count_cons_eq, Nat.add_comm, Lib.splitK, idx_cons, if_pos rfl, if_pos rfl, if_neg (by simp), ← ih]
      simp
    · rw [if_neg h, Lib.count_cons_ne b c l h]
      by_cases m : Lib.index l [c] = -1
      · rw [Lib.count_miss m] at ih ⊢
        rw [← ih]; rfl
      · obtain ⟨j, hj⟩ : ∃ j : Nat, Lib.index l [c] = j := ⟨(Lib.index l [c]).toNat, by omega⟩
        have e1 : ((j : Int) + 1).toNat = j + 1 := by omega
        have e2 : (j : Int).toNat = j := by omega
        rw [Lib.count_hit (by simp) hj, Nat.add_comm] at ih ⊢
        rw [Lib.splitK, hj, if_neg (by simp), e2] at ih
        rw [← ih, Lib.splitK, idx_cons, if_neg h, if_neg m, hj, if_neg (by simp; omega), e1]
        simp [glue]
/-- strings.Split at a byte. -/
theorem split_eq (c : UInt8) (s : List UInt8) (h : s.length < 4294967281) : strings_Split.f (bs s) (bs [c]) = some ((splitAt c s).map bs) := by
  have e : Lib.countB (bs s) (bs [c]) = Lib.count s [c] := rfl
  have d := Lib.splitB_data (bs [c]) 0 (Lib.count s [c]) (bs s)
  rw [bs_data, bs_data, splitK_eq] at d
  rw [strings_Split.f, if_pos (by rw [bs_size]; omega), if_pos (by rw [bs_size]; simp), e, ← d, List.map_map]
  congr 1
  conv => lhs; rw [← List.map_id (Lib.splitB (bs [c]) 0 (Lib.count s [c]) (bs s))]
  apply List.map_congr_left
  intro x _
  exact (bs_of x).symm
theorem extract_bs (s : List UInt8) (a b : Nat) : (bs s).extract a b = bs ((s.drop a).take (b - a)) := by
  rw [← bs_of ((bs s).extract a b), Lib.extract_data, bs_data]
theorem bt_bs (s : List UInt8) (j : Nat) (h : j < s.length) : bt (bs s) (j : Int) = ((s[j]).toNat : Int) := by
  have e : (j : Int).toNat = j := by omega
  unfold bt
  rw [dif_pos (by rw [bs_size, e]; exact h)]
  simp only [e]
  rfl
theorem glue_glue (p q : List UInt8) (l : List (List UInt8)) : glue p (glue q l) = glue (p ++ q) l := by
  cases l with
  | nil => rfl
  | cons w ws => simp [glue]
theorem glue_nil (c : UInt8) (s : List UInt8) : glue [] (splitAt c s) = splitAt c s := by
  cases s with
  | nil => rfl
  | cons b t =>
    rw [splitAt]
    split
    · rfl
    · rw [glue_glue]; rfl
theorem words_l0 (s : List UInt8) (hs : s.length ≤ 1000000) : ∀ (n i : Nat) (frm : Nat) (acc : List ByteArray), i + n = s.length → frm ≤ i → acc.length ≤ i → Ev (fun k => insolvencyref25_words.l0 k (bs s) acc (frm : Int) (i : Int)) (acc ++ (glue ((s.drop frm).take (i - frm)) (splitAt 32 (s.drop i))).map bs)
  | 0, i, frm, acc, h, hf, ha => by
    have ei : (i : Int).toNat = i := by omega
    have ef : (frm : Int).toNat = frm := by omega
    have e1 : wrap64 ((i : Int) + 1) = ((i + 1 : Nat) : Int) := by unfold wrap64; omega
    rw [List.drop_of_length_le (show s.length ≤ i by omega)]
    refine Ev.step (fun k => by rw [insolvencyref25_words.l0, bs_size, if_pos (by omega), if_pos (by omega), if_pos (by omega), if_pos (by omega), if_pos (by omega), e1, ei, ef, extract_bs]) ?_
    refine Ev.step (fun k => by rw [insolvencyref25_words.l0, bs_size, if_neg (by omega)]) ?_
    have : glue ((s.drop frm).take (i - frm)) (splitAt 32 []) = [(s.drop frm).take (i - frm)] := by simp [glue, splitAt]
    rw [this]
    exact Ev.now _
  | n + 1, i, frm, acc, h, hf, ha => by
    have hi : i < s.length := by omega
    have ei : (i : Int).toNat = i := by omega
    have ef : (frm : Int).toNat = frm := by omega
    have e1 : wrap64 ((i : Int) + 1) = ((i + 1 : Nat) : Int) := by unfold wrap64; omega
    rw [List.drop_eq_getElem_cons hi, splitAt]
    refine Ev.step (fun k => by rw [insolvencyref25_words.l0, bs_size, if_pos (by omega), if_neg (by omega), if_pos (by omega), if_pos (by omega), bt_bs s i hi, e1, ei, ef, extract_bs]) ?_
    by_cases c : s[i] = 32
    · have c' : ((s[i].toNat : Nat) : Int) = 32 := by rw [c]; rfl
      rw [if_pos c]
      refine Ev.congr (fun k => by rw [if_pos c', if_pos (by omega), if_pos (by omega), if_pos (by omega)]) ?_
      have ih := words_l0 s hs n (i + 1) (i + 1) (acc ++ [bs ((s.drop frm).take (i - frm))]) (by omega) (by omega) (by rw [List.length_append]; simp; omega)
      rw [Nat.sub_self, List.take_zero, glue_nil, List.append_assoc] at ih
      rw [glue, List.append_nil]
      exact ih
    · have c' : ¬ ((s[i].toNat : Nat) : Int) = 32 := by
        intro q
        exact c (UInt8.toNat_inj.1 (by have : (32 : UInt8).toNat = 32 := rfl; omega))
      rw [if_neg c]
      refine Ev.congr (fun k => by rw [if_neg c']) ?_
      have ih := words_l0 s hs n (i + 1) frm acc (by omega) (by omega) (by omega)
      have et : (s.drop frm).take (i + 1 - frm) = (s.drop frm).take (i - frm) ++ [s[i]] := by
        have : i + 1 - frm = (i - frm) + 1 := by omega
        rw [this, List.take_add_one, List.getElem?_drop]
        have : frm + (i - frm) = i := by omega
        rw [this, List.getElem?_eq_getElem hi]; rfl
      rw [et, ← glue_glue] at ih
      exact ih
theorem ev_words (s : List UInt8) (hs : s.length ≤ 1000000) : Ev (fun k => insolvencyref25_words.f k (bs s)) ((splitAt 32 s).map bs) := by
  have := words_l0 s hs s.length 0 0 [] (by omega) (by omega) (by simp)
  rw [Nat.sub_self, List.take_zero, List.drop_zero, glue_nil, List.nil_append] at this
  exact this
/-- The number that digits stand for, behind acc. -/
def numVal : Int → List UInt8 → Option Int
  | acc, [] => some acc
  | acc, c :: t => if ((c.toNat : Nat) : Int) < 48 then none else if ((c.toNat : Nat) : Int) > 57 then none else numVal (wrap64 (wrap64 (10 * acc) + (((c.toNat : Nat) : Int) - 48) % 256)) t
/-- The number that a word stands for. -/
def numOf (s : List UInt8) : Option Int := if s = [] then none else if s.length > 18 then none else if s.head? = some 48 ∧ s.length > 1 then none else numVal 0 s
/-- A number and whether there is one. -/
def pair : Option Int → Int × Bool
  | none => (0, false)
  | some n => (n, true)
theorem hnum_l0 (s : List UInt8) (hs : s.length ≤ 1000000) : ∀ (n j : Nat) (acc : Int), j + n = s.length → Ev (fun k => history_number.l0 k (bs s) acc (s.length : Int) (j : Int)) (pair (numVal acc (s.drop j)))
  | 0, j, acc, h => by
    rw [List.drop_of_length_le (by omega), numVal]
    exact Ev.step (fun k => by rw [history_number.l0, if_neg (by omega)]; rfl) (Ev.now _)
  | n + 1, j, acc, h => by
    have hj : j < s.length := by omega
    have e1 : wrap64 ((j : Int) + 1) = ((j + 1 : Nat) : Int) := by unfold wrap64; omega
    rw [List.drop_eq_getElem_cons hj, numVal]
    refine Ev.step (fun k => by rw [history_number.l0, if_pos (by omega), if_pos (by omega), if_pos (by rw [bs_size]; omega), bt_bs s j hj, e1]) ?_
    by_cases c1 : ((s[j].toNat : Nat) : Int) < 48
    · rw [if_pos c1]
      exact Ev.congr (fun k => by rw [if_pos c1]; rfl) (Ev.now _)
    by_cases c2 : ((s[j].toNat : Nat) : Int) > 57
    · rw [if_neg c1, if_pos c2]
      exact Ev.congr (fun k => by rw [if_neg c1, if_pos c2]; rfl) (Ev.now _)
    · rw [if_neg c1, if_neg c2]
      exact Ev.congr (fun k => by rw [if_neg c1, if_neg c2]) (hnum_l0 s hs n (j + 1) _ (by omega))
theorem rnum_l0 (s : List UInt8) (hs : s.length ≤ 1000000) : ∀ (n j : Nat) (acc : Int), j + n = s.length → Ev (fun k => insolvencyref25_number.l0 k (bs s) acc (j : Int)) (pair (numVal acc (s.drop j)))
  | 0, j, acc, h => by
    rw [List.drop_of_length_le (by omega), numVal]
    exact Ev.step (fun k => by rw [insolvencyref25_number.l0, bs_size, if_neg (by omega)]; rfl) (Ev.now _)
  | n + 1, j, acc, h => by
    have hj : j < s.length := by omega
    have e1 : wrap64 ((j : Int) + 1) = ((j + 1 : Nat) : Int) := by unfold wrap64; omega
    rw [List.drop_eq_getElem_cons hj, numVal]
    refine Ev.step (fun k => by rw [insolvencyref25_number.l0, bs_size, if_pos (by omega), if_pos (by omega), bt_bs s j hj, e1]) ?_
    by_cases c1 : ((s[j].toNat : Nat) : Int) < 48
    · rw [if_pos c1]
      exact Ev.congr (fun k => by rw [if_pos c1]; rfl) (Ev.now _)
    by_cases c2 : ((s[j].toNat : Nat) : Int) > 57
    · rw [if_neg c1, if_pos c2]
      exact Ev.congr (fun k => by rw [if_neg c1, if_pos c2]; rfl) (Ev.now _)
    · rw [if_neg c1, if_neg c2]
      exact Ev.congr (fun k => by rw [if_neg c1, if_neg c2]) (rnum_l0 s hs n (j + 1) _ (by omega))
theorem hnum_j0 (s : List UInt8) (hs : s.length ≤ 1000000) (b : Bool) : Ev (fun k => history_number.j0 k (bs s) b) (pair (if b = true then none else numVal 0 s)) := by
  cases b with
  | true => exact Ev.step (fun k => by rw [history_number.j0, if_pos rfl]; rfl) (Ev.now _)
  | false =>
    refine Ev.step (fun k => by rw [history_number.j0, if_neg (by simp), bs_size]) ?_
    exact hnum_l0 s hs s.length 0 0 (by omega)
theorem rnum_j0 (s : List UInt8) (hs : s.length ≤ 1000000) (b : Bool) : Ev (fun k => insolvencyref25_number.j0 k (bs s) b) (pair (if b = true then none else numVal 0 s)) := by
  cases b with
  | true => exact Ev.step (fun k => by rw [insolvencyref25_number.j0, if_pos rfl]; rfl) (Ev.now _)
  | false =>
    refine Ev.step (fun k => by rw [insolvencyref25_number.j0, if_neg (by simp)]) ?_
    exact rnum_l0 s hs s.length 0 0 (by omega)
theorem byte_48 (c : UInt8) : ((c.toNat : Nat) : Int) = 48 ↔ c = 48 := by
  constructor
  · intro q
    exact UInt8.toNat_inj.1 (by have : (48 : UInt8).toNat = 48 := rfl; omega)
  · intro q; rw [q]; rfl
theorem ev_num_h (s : List UInt8) (hs : s.length ≤ 1000000) : Ev (fun k => history_number.f k (bs s)) (pair (numOf s)) := by
  have t := hnum_j0 s hs true
  rw [if_pos rfl] at t
  unfold numOf
  cases s with
  | nil => exact Ev.congr (fun k => by rw [history_number.f, if_pos (by rw [Lib.toList_data, bs_data])]) t
  | cons c l =>
    have hn : ¬ (bs (c :: l)).toList = [] := by rw [Lib.toList_data, bs_data]; simp
    rw [if_neg (by simp)]
    by_cases c2 : (c :: l).length > 18
    · rw [if_pos c2]
      exact Ev.congr (fun k => by rw [history_number.f, if_neg hn, if_pos (by rw [bs_size]; omega)]) t
    · rw [if_neg c2]
      have hb : bt (bs (c :: l)) 0 = ((c.toNat : Nat) : Int) := bt_bs (c :: l) 0 (by simp)
      refine Ev.congr (fun k => by rw [history_number.f, if_neg hn, if_neg (by rw [bs_size]; omega), if_pos (by rw [bs_size, List.length_cons]; omega), hb]) ?_
      by_cases c3 : c = 48
      · refine Ev.congr (fun k => if_pos ((byte_48 c).2 c3)) ?_
        have := hnum_j0 (c :: l) hs (decide (((bs (c :: l)).size : Int) > 1))
        rw [bs_size] at this ⊢
        by_cases c4 : (c :: l).length > 1
        · rw [if_pos ⟨by rw [c3]; rfl, c4⟩]
          rw [if_pos (decide_eq_true (by omega))] at this
          exact this
        · rw [if_neg (fun q => c4 q.2)]
          rw [if_neg (fun q => c4 (by have := of_decide_eq_true q; omega))] at this
          exact this
      · refine Ev.congr (fun k => if_neg (fun q => c3 ((byte_48 c).1 q))) ?_
        rw [if_neg (fun q => c3 (by simpa using q.1))]
        exact hnum_j0 (c :: l) hs false
theorem ev_num_r (s : List UInt8) (hs : s.length ≤ 1000000) : Ev (fun k => insolvencyref25_number.f k (bs s)) (pair (numOf s)) := by
  have t := rnum_j0 s hs true
  rw [if_pos rfl] at t
  unfold numOf
  cases s with
  | nil => exact Ev.congr (fun k => by rw [insolvencyref25_number.f, if_pos (by rw [Lib.toList_data, bs_data])]) t
  | cons c l =>
    have hn : ¬ (bs (c :: l)).toList = [] := by rw [Lib.toList_data, bs_data]; simp
    rw [if_neg (by simp)]
    by_cases c2 : (c :: l).length > 18
    · rw [if_pos c2]
      exact Ev.congr (fun k => by rw [insolvencyref25_number.f, if_neg hn, if_pos (by rw [bs_size]; omega)]) t
    · rw [if_neg c2]
      have hb : bt (bs (c :: l)) 0 = ((c.toNat : Nat) : Int) := bt_bs (c :: l) 0 (by simp)
      refine Ev.congr (fun k => by rw [insolvencyref25_number.f, if_neg hn, if_neg (by rw [bs_size]; omega), hb]) ?_
      by_cases c4 : (c :: l).length > 1
      · refine Ev.congr (fun k => by rw [if_pos (by rw [bs_size]; omega), if_pos (by rw [bs_size, List.length_cons]; omega)]) ?_
        have := rnum_j0 (c :: l) hs (((c.toNat : Nat) : Int) == 48)
        by_cases c3 : c = 48
        · rw [if_pos ⟨by rw [c3]; rfl, c4⟩]
          rw [if_pos (by rw [(byte_48 c).2 c3]; rfl)] at this
          exact this
        · rw [if_neg (fun q => c3 (by simpa using q.1))]
          rw [if_neg (by intro q; exact c3 ((byte_48 c).1 (by simpa using q)))] at this
          exact this
      · refine Ev.congr (fun k => by rw [if_neg (by rw [bs_size]; omega)]) ?_
        rw [if_neg (fun q => c4 q.2)]
        exact rnum_j0 (c :: l) hs false
end Go.Proofs.YtcehmgmhlmbhnaaDoor.Pure
