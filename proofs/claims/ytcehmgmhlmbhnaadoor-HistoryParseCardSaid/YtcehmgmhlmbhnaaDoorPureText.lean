/- Texts as lists of bytes, and the numerals that the histories write. -/
import Derived.Test.YtcehmgmhlmbhnaaDoorPr2
import Derived.Test.YtcehmgmhlmbhnaaDoorPr13
import Derived.Test.YtcehmgmhlmbhnaaDoorPureMoney
import Derived.Lib.ItoaMem
namespace Go.Proofs.YtcehmgmhlmbhnaaDoor.Pure
open Go.RowKit Go.Proofs.YtcehmgmhlmbhnaaDoor Go.Proofs.YtcehmgmhlmbhnaaDoor.Pr Go.Proofs.YtcehmgmhlmbhnaaDoorW.PrintWords
/-- A text out of its bytes. -/
def bs (l : List UInt8) : ByteArray := ⟨l.toArray⟩
theorem bs_append (a b : List UInt8) : bs a ++ bs b = bs (a ++ b) := by
  apply ByteArray.ext
  simp [bs, ByteArray.data_append]
theorem bs_size (a : List UInt8) : (bs a).size = a.length := by simp [bs, ByteArray.size]
theorem bs_data (a : List UInt8) : (bs a).data.toList = a := rfl
theorem bs_of (s : ByteArray) : bs s.data.toList = s := by
  apply ByteArray.ext
  simp [bs]
theorem bs_inj {a b : List UInt8} (h : bs a = bs b) : a = b := by rw [← bs_data a, ← bs_data b, h]
/-- The digits of a number, the last ahead. -/
def dgs (u : Nat) : List Int := if h : u = 0 then [] else (48 + (u : Int) % 10) :: dgs (u / 10)
termination_by u
decreasing_by omega
theorem dgs_pos {u : Nat} (h : u ≠ 0) : dgs u = (48 + (u : Int) % 10) :: dgs (u / 10) := by rw [dgs, dif_neg h]
theorem dgs_length : ∀ (n u : Nat), u < 10 ^ n → (dgs u).length ≤ n
  | 0, u, h => by
    have : u = 0 := by simpa using h
    rw [this, dgs]; simp
  | n + 1, u, h => by
    by_cases c : u = 0
    · rw [c, dgs]; simp
    · have := dgs_length n (u / 10) (by rw [Nat.pow_succ] at h; omega)
      rw [dgs_pos c, List.length_cons]; omega
theorem strOfNums_bs (l : List Int) : strOfNums l = bs (l.map (fun n => UInt8.ofNat n.toNat)) := rfl
theorem dgs_text (u : Nat) (h : u ≠ 0) : strOfNums (dgs u).reverse = bs (Lib.decDigits u) := by
  rw [strOfNums_bs]
  congr 1
  induction u using Nat.strongRecOn with
  | _ u ih =>
    by_cases c : u < 10
    · have e : u / 10 = 0 := by omega
      have m : (48 + (u : Int) % 10).toNat = 48 + u := by omega
      rw [dgs_pos h, Lib.decDigits, dif_pos c, e, dgs, dif_pos rfl]
      simp [m]
    · have m : (48 + (u : Int) % 10).toNat = 48 + u % 10 := by omega
      rw [dgs_pos h, Lib.decDigits, dif_neg c, ← ih (u / 10) (by omega) (by omega)]
      simp [m]
theorem rev_l1 (x : List Int) (hx : x.length ≤ 1000) : ∀ (n : Nat) (acc : List Int), n + acc.length = x.length → Ev (fun k => insolvencyref25_digits.l1 k x acc ((n : Int) - 1)) (strOfNums (acc ++ (x.take n).reverse))
  | 0, acc, h => by
    rw [List.take_zero, List.reverse_nil, List.append_nil]
    exact Ev.step (fun k => by rw [insolvencyref25_digits.l1, if_neg (by omega)]) (Ev.now _)
  | n + 1, acc, h => by
    have hn : n < x.length := by omega
    have e : wrap64 (((n + 1 : Nat) : Int) - 1 - 1) = (n : Int) - 1 := by unfold wrap64; omega
    have er : rd x (((n + 1 : Nat) : Int) - 1) = x[n] := by
      have : (((n + 1 : Nat) : Int) - 1).toNat = n := by omega
      rw [rd, this, List.getD, List.getElem?_eq_getElem hn]; rfl
    have et : (x.take (n + 1)).reverse = x[n] :: (x.take n).reverse := by
      rw [List.take_add_one, List.getElem?_eq_getElem hn, List.reverse_append]; rfl
    rw [et, ← List.singleton_append, ← List.append_assoc]
    refine Ev.step (fun k => by rw [insolvencyref25_digits.l1, if_pos (by omega), if_pos (by omega), if_pos (by omega), if_pos (by omega), e, er]) ?_
    exact rev_l1 x hx n (acc ++ [x[n]]) (by rw [List.length_append]; simp; omega)
theorem dig_l0 : ∀ (m u : Nat) (acc : List Int), u < 10 ^ m → m + acc.length ≤ 100 → u < 9223372036854775808 → Ev (fun k => insolvencyref25_digits.l0 k (u : Int) acc) (strOfNums (acc ++ dgs u).reverse)
  | m, 0, acc, h, hl, _ => by
    rw [dgs, dif_pos rfl, List.append_nil]
    have e : wrap64 ((acc.length : Int) - 1) = (acc.length : Int) - 1 := by unfold wrap64; omega
    refine Ev.step (fun k => by rw [insolvencyref25_digits.l0, if_neg (by omega), e]) ?_
    have := rev_l1 acc (by omega) acc.length [] (by simp)
    rwa [List.take_length, List.nil_append] at this
  | 0, u + 1, acc, h, hl, _ => by simp at h
  | m + 1, u + 1, acc, h, hl, h64 => by
    have ed : wrap64 (Int.tdiv ((u + 1 : Nat) : Int) 10) = (((u + 1) / 10 : Nat) : Int) := by
      rw [Int.tdiv_eq_ediv_of_nonneg (by omega)]; unfold wrap64; omega
    have em : (wrap64 (48 + Int.tmod ((u + 1 : Nat) : Int) 10)) % 256 = 48 + ((u + 1 : Nat) : Int) % 10 := by
      rw [Int.tmod_eq_emod_of_nonneg (by omega)]; unfold wrap64; omega
    refine Ev.step (fun k => by rw [insolvencyref25_digits.l0, if_pos (by omega), if_pos (by omega), ed, em]) ?_
    rw [dgs_pos (by omega), List.append_cons acc (48 + ((u + 1 : Nat) : Int) % 10) (dgs ((u + 1) / 10))]
    exact dig_l0 m ((u + 1) / 10) (acc ++ [48 + ((u + 1 : Nat) : Int) % 10]) (by rw [Nat.pow_succ] at h; omega) (by rw [List.length_append]; simp; omega) (by omega)
theorem ev_digits (n : Int) (h0 : 0 ≤ n) (h : n ≤ 9223372036854775807) : Ev (fun k => insolvencyref25_digits.f k n) (bs (Lib.itoa n)) := by
  obtain ⟨u, rfl⟩ : ∃ u : Nat, n = u := ⟨n.toNat, by omega⟩
  rw [Lib.itoa_nonneg]
  by_cases c : u = 0
  · subst c
    rw [Lib.decDigits_one (by omega)]
    exact Ev.congr (fun k => by rw [insolvencyref25_digits.f, if_pos (by omega)]; rfl) (Ev.now _)
  · refine Ev.congr (fun k => by rw [insolvencyref25_digits.f, if_neg (by omega)]) ?_
    have := dig_l0 19 u [] (by omega) (by simp) (by omega)
    rwa [List.nil_append, dgs_text u c] at this
theorem nDigits_le : ∀ (k u : Nat), 1 ≤ k → u < 10 ^ k → Lib.nDigits u ≤ k
  | 0, _, h, _ => by omega
  | k + 1, u, _, h => by
    by_cases c : u < 10
    · rw [Lib.nDigits_small c]; omega
    · rw [Nat.pow_succ] at h
      have hk : 1 ≤ k := by
        by_cases z : k = 0
        · subst z; simp at h; omega
        · omega
      have := nDigits_le k (u / 10) hk (by omega)
      rw [Lib.nDigits_big c]; omega
theorem itoa_len (n : Int) (h : In64 n) : (Lib.itoa n).length ≤ 20 := by
  unfold In64 at h
  unfold Lib.itoa
  split
  · rw [List.length_cons, Lib.decDigits_length]
    have := nDigits_le 19 n.natAbs (by omega) (by omega)
    omega
  · rw [Lib.decDigits_length]
    have := nDigits_le 19 n.toNat (by omega) (by omega)
    omega
theorem itoa_18 (n : Int) (h0 : 0 ≤ n) : (Lib.itoa n).length ≤ 18 ↔ n ≤ 999999999999999999 := by
  unfold Lib.itoa
  rw [if_neg (by omega), Lib.decDigits_length]
  constructor
  · intro h
    have h1 := Lib.lt_pow_nDigits n.toNat
    have h2 : 10 ^ Lib.nDigits n.toNat ≤ 10 ^ 18 := Nat.pow_le_pow_right (by omega) h
    omega
  · intro h
    exact nDigits_le 18 n.toNat (by omega) (by omega)
/-- A number that has a word. -/
def fitsNum (n : Int) : Bool := decide (0 ≤ n) && decide (n ≤ 999999999999999999)
theorem word_eq (n : Int) (h : In64 n) : history_word.f n = some (bs (Lib.itoa n), fitsNum n) := by
  unfold In64 at h
  rw [history_word.f, strconv_FormatInt.f, if_pos rfl, if_pos h.1, if_pos h.2, Option.bind_some]
  by_cases c : n ≥ 0
  · have e := itoa_18 n c
    rw [if_pos c]
    congr 2
    have : (⟨(Lib.itoa n).toArray⟩ : ByteArray).size = (Lib.itoa n).length := bs_size _
    rw [this, fitsNum, decide_eq_true c, Bool.true_and]
    exact decide_eq_decide.2 (by omega)
  · rw [if_neg c, fitsNum, decide_eq_false (by omega), Bool.false_and]
    rfl
end Go.Proofs.YtcehmgmhlmbhnaaDoor.Pure
