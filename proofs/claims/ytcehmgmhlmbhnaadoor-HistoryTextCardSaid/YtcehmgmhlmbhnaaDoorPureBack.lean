/- What Parse makes of a text that Format wrote. -/
import Derived.Test.YtcehmgmhlmbhnaaDoorPureParse
import Derived.Test.YtcehmgmhlmbhnaaDoorPureFormat
namespace Go.Proofs.YtcehmgmhlmbhnaaDoor.Pure
open Go.RowKit Go.Proofs.YtcehmgmhlmbhnaaDoor Go.Proofs.YtcehmgmhlmbhnaaDoor.Pr Go.Proofs.YtcehmgmhlmbhnaaDoorW.PrintWords
theorem split_word (c : UInt8) : ∀ (w : List UInt8), c ∉ w → splitAt c w = [w]
  | [], _ => rfl
  | b :: t, h => by
    rw [splitAt, if_neg (fun e => h (by simp [e])), split_word c t (fun e => h (by simp [e]))]; rfl
theorem split_words (c : UInt8) (rest : List UInt8) : ∀ (w : List UInt8), c ∉ w → splitAt c (w ++ c :: rest) = w :: splitAt c rest
  | [], _ => by rw [List.nil_append, splitAt, if_pos rfl]
  | b :: t, h => by
    rw [List.cons_append, splitAt, if_neg (fun e => h (by simp [e])), split_words c rest t (fun e => h (by simp [e]))]; rfl
theorem cut_line (c : UInt8) (rest : List UInt8) : ∀ (w : List UInt8), c ∉ w → cutAt c (w ++ c :: rest) = (w, rest, true)
  | [], _ => by rw [List.nil_append, cutAt, if_pos rfl]
  | b :: t, h => by
    rw [List.cons_append, cutAt, if_neg (fun e => h (by simp [e])), cut_line c rest t (fun e => h (by simp [e]))]
theorem digit_nat (d : Nat) (h : d < 10) : (UInt8.ofNat (48 + d)).toNat = 48 + d := by
  rw [UInt8.toNat_ofNat']; omega
theorem dec_digits : ∀ (n u : Nat), u < n → ∀ c ∈ Lib.decDigits u, 48 ≤ c.toNat ∧ c.toNat ≤ 57
  | 0, _, h, _, _ => absurd h (by omega)
  | n + 1, u, h, c, hc => by
    rw [Lib.decDigits] at hc
    split at hc
    · rename_i q
      rw [List.mem_singleton.1 hc, digit_nat u q]; omega
    · rcases List.mem_append.1 hc with hc | hc
      · exact dec_digits n (u / 10) (by omega) c hc
      · rw [List.mem_singleton.1 hc, digit_nat (u % 10) (by omega)]; omega
theorem dec_head : ∀ (n u : Nat), u < n → u ≠ 0 → (Lib.decDigits u).head? ≠ some 48
  | 0, _, h, _ => absurd h (by omega)
  | n + 1, u, h, h0 => by
    rw [Lib.decDigits]
    split
    · rename_i q
      intro e
      have e := Option.some.inj e
      have := digit_nat u q
      rw [e] at this
      have e48 : (48 : UInt8).toNat = 48 := rfl
      omega
    · have ih := dec_head n (u / 10) (by omega) (by omega)
      have hne : Lib.decDigits (u / 10) ≠ [] := by
        intro e
        have := Lib.decDigits_length (u / 10)
        rw [e] at this
        have := Lib.nDigits_pos (u / 10)
        simp at *; omega
      obtain ⟨b, t, hbt⟩ := List.exists_cons_of_ne_nil hne
      rw [hbt] at ih ⊢
      exact ih
theorem numVal_append : ∀ (a b : List UInt8) (acc : Int), numVal acc (a ++ b) = (numVal acc a).bind (fun n => numVal n b)
  | [], b, acc => rfl
  | c :: t, b, acc => by
    rw [List.cons_append, numVal, numVal]
    split
    · rfl
    split
    · rfl
    · exact numVal_append t b _
theorem numVal_dec : ∀ (n u : Nat), u < n → u < 1000000000000000000 → numVal 0 (Lib.decDigits u) = some (u : Int)
  | 0, _, h, _ => absurd h (by omega)
  | n + 1, u, h, hu => by
    rw [Lib.decDigits]
    split
    · rename_i q
      have e := digit_nat u q
      have w : wrap64 (wrap64 (10 * 0) + (((48 + u : Nat) : Int) - 48) % 256) = (u : Int) := by unfold wrap64; omega
      rw [numVal, e, if_neg (by omega), if_neg (by omega), numVal, w]
    · have e := digit_nat (u % 10) (by omega)
      have w : wrap64 (wrap64 (10 * ((u / 10 : Nat) : Int)) + (((48 + u % 10 : Nat) : Int) - 48) % 256) = (u : Int) := by unfold wrap64; omega
      rw [numVal_append, numVal_dec n (u / 10) (by omega) (by omega), Option.bind_some, numVal, e, if_neg (by omega), if_neg (by omega), numVal, w]
theorem numOf_itoa (n : Int) (h : fitsNum n = true) : numOf (Lib.itoa n) = some n := by
  have hf := h
  unfold fitsNum at hf
  simp only [Bool.and_eq_true, decide_eq_true_eq] at hf
  obtain ⟨u, rfl⟩ : ∃ u : Nat, n = u := ⟨n.toNat, by omega⟩
  have h18 := (itoa_18 (u : Int) hf.1).2 hf.2
  rw [Lib.itoa_nonneg] at h18 ⊢
  have hne : Lib.decDigits u ≠ [] := by
    intro e
    have := Lib.decDigits_length u
    rw [e] at this
    have := Lib.nDigits_pos u
    simp at *; omega
  unfold numOf
  rw [if_neg hne, if_neg (by omega), if_neg, numVal_dec (u + 1) u (by omega) (by omega)]
  rintro ⟨q1, q2⟩
  by_cases c : u = 0
  · subst c
    rw [Lib.decDigits_one (by omega)] at q2
    simp at q2
  · exact dec_head (u + 1) u (by omega) c q1
theorem itoa_free (n : Int) (h : fitsNum n = true) (c : UInt8) (hc : c.toNat < 48) : c ∉ Lib.itoa n := by
  unfold fitsNum at h
  simp only [Bool.and_eq_true, decide_eq_true_eq] at h
  obtain ⟨u, rfl⟩ : ∃ u : Nat, n = u := ⟨n.toNat, by omega⟩
  rw [Lib.itoa_nonneg]
  intro q
  have := dec_digits (u + 1) u (by omega) c q
  omega
theorem key_free (k : Int) (c : UInt8) (hc : c = 32 ∨ c = 10) : c ∉ keyOf k := by
  unfold keyOf
  rcases hc with rfl | rfl <;> (repeat' split) <;> decide
theorem join_split (c : UInt8) : ∀ (ws : List (List UInt8)), ws ≠ [] → (∀ w ∈ ws, c ∉ w) → splitAt c (Lib.join ws [c]) = ws
  | [], h, _ => absurd rfl h
  | [w], _, h => by rw [Lib.join_one, split_word c w (h w (by simp))]
  | w :: v :: t, _, h => by
    have e : Lib.join (w :: v :: t) [c] = w ++ c :: Lib.join (v :: t) [c] := by
      rw [Lib.join_cons, Lib.join_cons]; simp [Lib.joinTail]
    rw [e, split_words c _ w (h w (by simp)), join_split c (v :: t) (by simp) (fun u hu => h u (List.mem_cons_of_mem _ hu))]
theorem join_free (c d : UInt8) (hcd : d ≠ c) (ws : List (List UInt8)) (h : ∀ w ∈ ws, d ∉ w) : d ∉ Lib.join ws [c] := by
  cases ws with
  | nil => simp [Lib.join_nil]
  | cons w t =>
    rw [Lib.join_cons]
    intro q
    rcases List.mem_append.1 q with q | q
    · exact h w (by simp) q
    · unfold Lib.joinTail at q
      obtain ⟨l, hl, hd⟩ := List.mem_flatten.1 q
      obtain ⟨v, hv, rfl⟩ := List.mem_map.1 hl
      rcases List.mem_append.1 hd with hd | hd
      · simp at hd; exact hcd hd
      · exact h v (List.mem_cons_of_mem _ hv) hd
theorem words_free (r : S39) (h : fitsRow r = true) (c : UInt8) (hc : c = 32 ∨ c = 10) : ∀ w ∈ wordsOf r, c ∉ w := by
  have hn := fits_nums r h
  have hc' : c.toNat < 48 := by rcases hc with rfl | rfl <;> decide
  have g := fun x (hx : x ∈ numsOf r) => itoa_free x (hn x hx) c hc'
  intro w hw
  unfold wordsOf at hw
  rcases List.mem_append.1 hw with hw | hw
  · simp only [List.mem_cons, List.not_mem_nil, or_false] at hw
    rcases hw with rfl | rfl | rfl | rfl | rfl
    · exact g _ (by simp [numsOf])
    · exact key_free _ c hc
    · exact g _ (by simp [numsOf])
    · exact g _ (by simp [numsOf])
    · exact g _ (by simp [numsOf])
  · split at hw
    · simp at hw
      rw [hw]
      exact g _ (by simp [numsOf])
    · simp at hw
theorem row_back (r : S39) (h : fitsRow r = true) : rowOfLine (Lib.join (wordsOf r) [32]) = some r := by
  have hn := fits_nums r h
  have e0 := numOf_itoa _ (hn r.f0 (by simp [numsOf]))
  have e2 := numOf_itoa _ (hn r.f2 (by simp [numsOf]))
  have e3 := numOf_itoa _ (hn r.f3 (by simp [numsOf]))
  have e4 := numOf_itoa _ (hn r.f4 (by simp [numsOf]))
  have e5 := numOf_itoa _ (hn r.f5 (by simp [numsOf]))
  rw [rowOfLine, join_split 32 _ (by simp [wordsOf]) (words_free r h 32 (.inl rfl))]
  unfold fitsRow at h
  simp only [Bool.and_eq_true, Bool.or_eq_true, decide_eq_true_eq] at h
  obtain ⟨a, k, b, c, d, e⟩ := r
  simp only at *
  rcases h.1 with ⟨hk, h5⟩ | ⟨hk, h5⟩
  · subst h5
    rcases hk with rfl | rfl
    · simp only [wordsOf, keyOf, rowOfWords, List.append_nil, ↓reduceIte, Int.reduceEq]
      rw [if_pos (show ([112, 97, 121, 109, 101, 110, 116] : List UInt8) = wPay from rfl), row5, e0, e2, e3, e4]; rfl
    · simp only [wordsOf, keyOf, rowOfWords, List.append_nil, ↓reduceIte, Int.reduceEq]
      rw [if_neg (show ¬ ([115, 117, 112, 112, 108, 121] : List UInt8) = wPay by decide), if_pos (show ([115, 117, 112, 112, 108, 121] : List UInt8) = wSup from rfl), row5, e0, e2, e3, e4]; rfl
  · subst hk
    simp only [wordsOf, keyOf, rowOfWords, List.cons_append, List.nil_append, ↓reduceIte, Int.reduceEq]
    rw [if_neg (show ¬ ([116, 114, 97, 110, 115, 102, 101, 114] : List UInt8) = wPay by decide), if_neg (show ¬ ([116, 114, 97, 110, 115, 102, 101, 114] : List UInt8) = wSup by decide), if_pos (show ([116, 114, 97, 110, 115, 102, 101, 114] : List UInt8) = wTra from rfl), row6, e0, e2, e3, e4, e5]; rfl
theorem parseL_back : ∀ (x : List S39) (n : Nat) (acc : List S39), x.length < n → acc.length + x.length ≤ 256 → (∀ r ∈ x, fitsRow r = true) → parseL n (textOf x) acc = (acc ++ x, 0, 0)
  | [], n, acc, hn, _, _ => by
    obtain ⟨m, rfl⟩ : ∃ m, n = m + 1 := ⟨n - 1, by simp at hn; omega⟩
    rw [parseL, if_pos (show textOf [] = [] from rfl), List.append_nil]
  | r :: t, n, acc, hn, hl, h => by
    rw [List.length_cons] at hn hl
    obtain ⟨m, rfl⟩ : ∃ m, n = m + 1 := ⟨n - 1, by omega⟩
    have hr := h r (by simp)
    have e : textOf (r :: t) = Lib.join (wordsOf r) [32] ++ 10 :: textOf t := by rw [textOf_cons, lineOf]; simp
    have ec := cut_line 10 (textOf t) (Lib.join (wordsOf r) [32]) (join_free 32 10 (by decide) _ (words_free r hr 10 (.inr rfl)))
    rw [parseL, e, if_neg (by simp), if_neg (by omega), ec, row_back r hr]
    simp only [↓reduceIte]
    rw [parseL_back t m (acc ++ [r]) (by omega) (by rw [List.length_append]; simp; omega) (fun s hs => h s (List.mem_cons_of_mem _ hs))]
    simp
theorem textOf_ge : ∀ (x : List S39), x.length ≤ (textOf x).length
  | [] => by simp
  | r :: t => by
    have := textOf_ge t
    rw [textOf_cons, List.length_append, List.length_cons, lineOf, List.length_append]; simp; omega
theorem parse_back (x : List S39) (h : ∀ r ∈ x, fitsRow r = true) (hl : x.length ≤ 256) (ht : (textOf x).length ≤ 8192) : parse (textOf x) = (x, 0, 0) := by
  have := textOf_ge x
  rw [parse, if_pos ht, parseL_back x _ [] (by omega) (by simpa using hl) h]; rfl
theorem Built.fits {P : Int} {r : S39} (h : Built P r) (hP : P ≤ 1000) (hd : r.f0 ≤ 1000000) : fitsRow r = true := by
  unfold Built at h
  unfold fitsRow fitsNum
  simp only [Bool.and_eq_true, Bool.or_eq_true, decide_eq_true_eq]
  omega
end Go.Proofs.YtcehmgmhlmbhnaaDoor.Pure
