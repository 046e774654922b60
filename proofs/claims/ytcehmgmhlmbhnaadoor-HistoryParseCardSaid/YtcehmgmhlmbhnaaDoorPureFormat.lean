/- What the two Formats of histories compute. -/
import Derived.Test.YtcehmgmhlmbhnaaDoorPr7
import Derived.Test.YtcehmgmhlmbhnaaDoorPr15
import Derived.Test.YtcehmgmhlmbhnaaDoorPureText
import Derived.Test.YtcehmgmhlmbhnaaDoorPureList
namespace Go.Proofs.YtcehmgmhlmbhnaaDoor.Pure
open Go.RowKit Go.Proofs.YtcehmgmhlmbhnaaDoor Go.Proofs.YtcehmgmhlmbhnaaDoor.Pr Go.Proofs.YtcehmgmhlmbhnaaDoorW.PrintWords
/-- The keyword of a row. -/
def keyOf (k : Int) : List UInt8 := if k = 1 then [112, 97, 121, 109, 101, 110, 116] else if k = 2 then [115, 117, 112, 112, 108, 121] else if k = 3 then [116, 114, 97, 110, 115, 102, 101, 114] else []
/-- A row that has a line. -/
def fitsRow (r : S39) : Bool := (decide (r.f1 = 1 ∨ r.f1 = 2) && decide (r.f5 = 0) || decide (r.f1 = 3) && fitsNum r.f5) && (fitsNum r.f0 && (fitsNum r.f2 && (fitsNum r.f3 && fitsNum r.f4)))
/-- The words of a row that has a line. -/
def wordsOf (r : S39) : List (List UInt8) := [Lib.itoa r.f0, keyOf r.f1, Lib.itoa r.f2, Lib.itoa r.f3, Lib.itoa r.f4] ++ (if r.f1 = 3 then [Lib.itoa r.f5] else [])
/-- The line of a row. -/
def lineOf (r : S39) : List UInt8 := Lib.join (wordsOf r) [32] ++ [10]
def InRow (r : S39) : Prop := In64 r.f0 ∧ In64 r.f1 ∧ In64 r.f2 ∧ In64 r.f3 ∧ In64 r.f4 ∧ In64 r.f5
theorem join5 (a b c d e s : List UInt8) : Lib.join [a, b, c, d, e] s = a ++ s ++ b ++ s ++ c ++ s ++ d ++ s ++ e := by
  rw [Lib.join_cons]; simp [Lib.joinTail]
theorem join6 (a b c d e f s : List UInt8) : Lib.join [a, b, c, d, e, f] s = a ++ s ++ b ++ s ++ c ++ s ++ d ++ s ++ e ++ s ++ f := by
  rw [Lib.join_cons]; simp [Lib.joinTail]
theorem keyOf_len (k : Int) : (keyOf k).length ≤ 8 := by
  unfold keyOf
  repeat' split
  all_goals simp
theorem lineOf_len (r : S39) (h : InRow r) : (lineOf r).length ≤ 200 := by
  obtain ⟨h0, h1, h2, h3, h4, h5⟩ := h
  have l0 := itoa_len _ h0
  have l2 := itoa_len _ h2
  have l3 := itoa_len _ h3
  have l4 := itoa_len _ h4
  have l5 := itoa_len _ h5
  have lk := keyOf_len r.f1
  unfold lineOf wordsOf
  split
  · rw [List.cons_append, List.cons_append, List.cons_append, List.cons_append, List.cons_append, List.nil_append, join6]; simp only [List.length_append, List.length_cons, List.length_nil]; omega
  · rw [List.append_nil, join5]; simp only [List.length_append, List.length_cons, List.length_nil]; omega
/-- strings.Join of texts out of lists. -/
theorem join_eq (l : List (List UInt8)) (s : List UInt8) (h1 : l.length ≤ 1000) (h2 : (Lib.join l s).length ≤ 10000) : strings_Join.f (l.map bs) (bs s) = some (bs (Lib.join l s)) := by
  have e : (l.map bs).map (fun (x : ByteArray) => x.data.toList) = l := by simp [Function.comp_def, bs_data]
  unfold strings_Join.f
  rw [if_pos (by rw [List.length_map]; omega), e, bs_data, if_pos (by omega)]
  rfl
theorem line_end (l : List (List UInt8)) (b : Bool) (h1 : l.length ≤ 1000) (h2 : (Lib.join l [32]).length ≤ 10000) (key : ByteArray) (nums : List Int) (n : Int) (hn : n = nums.length) : Ev (fun k => history_line.l0 k key b (l.map bs) nums n n) (bs (Lib.join l [32] ++ [10]), b) := by
  subst hn
  refine Ev.step (fun k => by rw [history_line.l0, if_neg (by omega)]) ?_
  have e := join_eq l [32] h1 h2
  refine Ev.congr (fun k => by rw [show (⟨#[32]⟩ : ByteArray) = bs [32] from rfl, e, Option.bind_some, if_pos (by rw [bs_size]; omega), show (⟨#[10]⟩ : ByteArray) = bs [10] from rfl, bs_append]) (Ev.now _)
theorem line_first (key : ByteArray) (b : Bool) (x : Int) (nums : List Int) (hx : In64 x) (hl : nums.length ≤ 100) (r : ByteArray × Bool) (h : Ev (fun k => history_line.l0 k key (b && fitsNum x) [bs (Lib.itoa x), key] (x :: nums) ((x :: nums).length : Int) 1) r) : Ev (fun k => history_line.l0 k key b ([] : List ByteArray) (x :: nums) ((x :: nums).length : Int) 0) r := by
  have e1 : wrap64 (0 + 1) = 1 := by unfold wrap64; omega
  have er : rd (x :: nums) 0 = x := rfl
  refine Ev.step (fun k => by rw [history_line.l0, if_pos (by rw [List.length_cons]; omega), if_pos (by omega), if_pos (by rw [List.length_cons]; omega), er, word_eq x hx, Option.bind_some, e1]) ?_
  cases b with
  | true => exact Ev.congr (fun k => by rw [if_pos rfl, if_pos (by simp), Option.bind_some, if_pos rfl, if_pos (by simp)]; rfl) h
  | false => exact Ev.congr (fun k => by rw [if_neg (by simp), if_pos (by simp), Option.bind_some, if_pos rfl, if_pos (by simp)]; rfl) h
theorem line_next (key : ByteArray) (b : Bool) (x : Int) (acc : List ByteArray) (nums : List Int) (j : Nat) (hj : j < nums.length) (h1 : 1 ≤ j) (he : rd nums j = x) (hx : In64 x) (hl : nums.length ≤ 100) (ha : acc.length ≤ 100) (r : ByteArray × Bool) (h : Ev (fun k => history_line.l0 k key (b && fitsNum x) (acc ++ [bs (Lib.itoa x)]) nums (nums.length : Int) ((j + 1 : Nat) : Int)) r) : Ev (fun k => history_line.l0 k key b acc nums (nums.length : Int) (j : Int)) r := by
  have e1 : wrap64 ((j : Int) + 1) = ((j + 1 : Nat) : Int) := by unfold wrap64; omega
  refine Ev.step (fun k => by rw [history_line.l0, if_pos (by omega), if_pos (by omega), if_pos (by omega), he, word_eq x hx, Option.bind_some, e1]) ?_
  cases b with
  | true => exact Ev.congr (fun k => by rw [if_pos rfl, if_pos (by omega), Option.bind_some, if_neg (by omega)]; rfl) h
  | false => exact Ev.congr (fun k => by rw [if_neg (by simp), if_pos (by omega), Option.bind_some, if_neg (by omega)]; rfl) h
theorem line_4 (key : List UInt8) (b : Bool) (x0 x1 x2 x3 : Int) (hk : key.length ≤ 8) (h0 : In64 x0) (h1 : In64 x1) (h2 : In64 x2) (h3 : In64 x3) : Ev (fun k => history_line.l0 k (bs key) b ([] : List ByteArray) [x0, x1, x2, x3] 4 0) (bs (Lib.join [Lib.itoa x0, key, Lib.itoa x1, Lib.itoa x2, Lib.itoa x3] [32] ++ [10]), b && fitsNum x0 && fitsNum x1 && fitsNum x2 && fitsNum x3) := by
  have l0 := itoa_len _ h0
  have l1 := itoa_len _ h1
  have l2 := itoa_len _ h2
  have l3 := itoa_len _ h3
  refine line_first (bs key) b x0 [x1, x2, x3] h0 (by simp) _ ?_
  refine line_next (bs key) _ x1 _ [x0, x1, x2, x3] 1 (by simp) (by omega) rfl h1 (by simp) (by simp) _ ?_
  refine line_next (bs key) _ x2 _ [x0, x1, x2, x3] 2 (by simp) (by omega) rfl h2 (by simp) (by simp) _ ?_
  refine line_next (bs key) _ x3 _ [x0, x1, x2, x3] 3 (by simp) (by omega) rfl h3 (by simp) (by simp) _ ?_
  exact line_end [Lib.itoa x0, key, Lib.itoa x1, Lib.itoa x2, Lib.itoa x3] _ (by simp) (by rw [join5]; simp only [List.length_append, List.length_cons, List.length_nil]; omega) (bs key) [x0, x1, x2, x3] _ rfl
theorem line_5 (key : List UInt8) (b : Bool) (x0 x1 x2 x3 x4 : Int) (hk : key.length ≤ 8) (h0 : In64 x0) (h1 : In64 x1) (h2 : In64 x2) (h3 : In64 x3) (h4 : In64 x4) : Ev (fun k => history_line.l0 k (bs key) b ([] : List ByteArray) [x0, x1, x2, x3, x4] 5 0) (bs (Lib.join [Lib.itoa x0, key, Lib.itoa x1, Lib.itoa x2, Lib.itoa x3, Lib.itoa x4] [32] ++ [10]), b && fitsNum x0 && fitsNum x1 && fitsNum x2 && fitsNum x3 && fitsNum x4) := by
  have l0 := itoa_len _ h0
  have l1 := itoa_len _ h1
  have l2 := itoa_len _ h2
  have l3 := itoa_len _ h3
  have l4 := itoa_len _ h4
  refine line_first (bs key) b x0 [x1, x2, x3, x4] h0 (by simp) _ ?_
  refine line_next (bs key) _ x1 _ [x0, x1, x2, x3, x4] 1 (by simp) (by omega) rfl h1 (by simp) (by simp) _ ?_
  refine line_next (bs key) _ x2 _ [x0, x1, x2, x3, x4] 2 (by simp) (by omega) rfl h2 (by simp) (by simp) _ ?_
  refine line_next (bs key) _ x3 _ [x0, x1, x2, x3, x4] 3 (by simp) (by omega) rfl h3 (by simp) (by simp) _ ?_
  refine line_next (bs key) _ x4 _ [x0, x1, x2, x3, x4] 4 (by simp) (by omega) rfl h4 (by simp) (by simp) _ ?_
  exact line_end [Lib.itoa x0, key, Lib.itoa x1, Lib.itoa x2, Lib.itoa x3, Lib.itoa x4] _ (by simp) (by rw [join6]; simp only [List.length_append, List.length_cons, List.length_nil]; omega) (bs key) [x0, x1, x2, x3, x4] _ rfl
/-- What the program's line gives: the flag always, the text where there is one. -/
theorem ev_line_h (r : S39) (h : InRow r) : ∃ t, Ev (fun k => history_line.f k r.f0 r.f1 r.f2 r.f3 r.f4 r.f5) (bs t, fitsRow r) ∧ (fitsRow r = true → t = lineOf r) ∧ t.length ≤ 200 := by
  have hlen := lineOf_len r h
  obtain ⟨h0, h1, h2, h3, h4, h5⟩ := h
  by_cases c1 : r.f1 = 1
  · refine ⟨lineOf r, ?_, fun _ => rfl, hlen⟩
    have e : lineOf r = Lib.join [Lib.itoa r.f0, keyOf 1, Lib.itoa r.f2, Lib.itoa r.f3, Lib.itoa r.f4] [32] ++ [10] := by
      unfold lineOf wordsOf; rw [c1, if_neg (by omega)]; rfl
    have ef : fitsRow r = (r.f5 == 0 && fitsNum r.f0 && fitsNum r.f2 && fitsNum r.f3 && fitsNum r.f4) := by
      unfold fitsRow; rw [c1, show (r.f5 == 0) = decide (r.f5 = 0) from rfl]; simp [Bool.and_assoc]
    rw [e, ef]
    refine Ev.congr (fun k => by rw [history_line.f, history_words.f, Option.bind_some, if_pos c1, Option.bind_some]) ?_
    exact line_4 (keyOf 1) _ _ _ _ _ (keyOf_len _) h0 h2 h3 h4
  by_cases c2 : r.f1 = 2
  · refine ⟨lineOf r, ?_, fun _ => rfl, hlen⟩
    have e : lineOf r = Lib.join [Lib.itoa r.f0, keyOf 2, Lib.itoa r.f2, Lib.itoa r.f3, Lib.itoa r.f4] [32] ++ [10] := by
      unfold lineOf wordsOf; rw [c2, if_neg (by omega)]; rfl
    have ef : fitsRow r = (r.f5 == 0 && fitsNum r.f0 && fitsNum r.f2 && fitsNum r.f3 && fitsNum r.f4) := by
      unfold fitsRow; rw [c2, show (r.f5 == 0) = decide (r.f5 = 0) from rfl]; simp [Bool.and_assoc]
    rw [e, ef]
    refine Ev.congr (fun k => by rw [history_line.f, history_words.f, Option.bind_some, if_neg c1, if_pos c2, Option.bind_some]) ?_
    exact line_4 (keyOf 2) _ _ _ _ _ (keyOf_len _) h0 h2 h3 h4
  by_cases c3 : r.f1 = 3
  · refine ⟨lineOf r, ?_, fun _ => rfl, hlen⟩
    have e : lineOf r = Lib.join [Lib.itoa r.f0, keyOf 3, Lib.itoa r.f2, Lib.itoa r.f3, Lib.itoa r.f4, Lib.itoa r.f5] [32] ++ [10] := by
      unfold lineOf wordsOf; rw [c3, if_pos rfl]; rfl
    have ef : fitsRow r = (true && fitsNum r.f0 && fitsNum r.f2 && fitsNum r.f3 && fitsNum r.f4 && fitsNum r.f5) := by
      unfold fitsRow; rw [c3]; simp [Bool.and_assoc]; cases fitsNum r.f5 <;> simp
    rw [e, ef]
    refine Ev.congr (fun k => by rw [history_line.f, history_words.f, Option.bind_some, if_neg c1, if_neg c2, if_pos c3, if_pos (by simp), Option.bind_some]) ?_
    exact line_5 (keyOf 3) _ _ _ _ _ _ (keyOf_len _) h0 h2 h3 h4 h5
  · have ef : fitsRow r = false := by unfold fitsRow; simp [c1, c2, c3]
    refine ⟨Lib.join [] [32] ++ [10], ?_, fun h => absurd (ef.symm.trans h) Bool.false_ne_true, by rw [Lib.join_nil]; simp⟩
    rw [ef]
    refine Ev.congr (fun k => by rw [history_line.f, history_words.f, Option.bind_some, if_neg c1, if_neg c2, if_neg c3, Option.bind_some]) ?_
    exact line_end [] false (by simp) (by rw [Lib.join_nil]; simp) (bs []) [] _ rfl
theorem rline_j2 (r : S39) (h : InRow r) (key : List UInt8) (hk : key = keyOf r.f1) (hf : fitsRow r = true) : Ev (fun k => insolvencyref25_line.j2 k [r.f0, r.f2, r.f3, r.f4, r.f5] (bs key) false r.f0 r.f1 r.f2 r.f3 r.f4 r.f5) (bs (lineOf r), true) := by
  obtain ⟨h0, h1, h2, h3, h4, h5⟩ := h
  have l0 := itoa_len _ h0
  have l2 := itoa_len _ h2
  have l3 := itoa_len _ h3
  have l4 := itoa_len _ h4
  have l5 := itoa_len _ h5
  have lk := keyOf_len r.f1
  rw [← hk] at lk
  unfold fitsRow fitsNum at hf
  simp only [Bool.and_eq_true, Bool.or_eq_true, decide_eq_true_eq] at hf
  unfold In64 at h0 h2 h3 h4 h5
  have r0 : rd [r.f0, r.f2, r.f3, r.f4, r.f5] 0 = r.f0 := rfl
  have r1 : rd [r.f0, r.f2, r.f3, r.f4, r.f5] 1 = r.f2 := rfl
  have r2 : rd [r.f0, r.f2, r.f3, r.f4, r.f5] 2 = r.f3 := rfl
  have r3 : rd [r.f0, r.f2, r.f3, r.f4, r.f5] 3 = r.f4 := rfl
  have r4 : rd [r.f0, r.f2, r.f3, r.f4, r.f5] 4 = r.f5 := rfl
  have sp : (⟨#[32]⟩ : ByteArray) = bs [32] := rfl
  have nl : (⟨#[10]⟩ : ByteArray) = bs [10] := rfl
  refine Ev.step (fun k => by rw [insolvencyref25_line.j2, if_neg (by simp), if_pos (by simp), r0, r1, r2, r3, r4, sp, nl]) ?_
  refine Ev.bind (ev_digits r.f0 (by omega) (by omega)) (Ev.congr (fun k => by rw [bs_append, bs_append, bs_append, if_pos (by rw [bs_size]; omega), if_pos (by simp only [bs_size, List.length_append, List.length_cons, List.length_nil]; omega), if_pos (by simp only [bs_size, List.length_append, List.length_cons, List.length_nil]; omega), if_pos (by simp)]) ?_)
  refine Ev.bind (ev_digits r.f2 (by omega) (by omega)) (Ev.congr (fun k => by rw [bs_append, bs_append, if_pos (by simp only [bs_size, List.length_append, List.length_cons, List.length_nil]; omega), if_pos (by simp only [bs_size, List.length_append, List.length_cons, List.length_nil]; omega), if_pos (by simp)]) ?_)
  refine Ev.bind (ev_digits r.f3 (by omega) (by omega)) (Ev.congr (fun k => by rw [bs_append, bs_append, if_pos (by simp only [bs_size, List.length_append, List.length_cons, List.length_nil]; omega), if_pos (by simp only [bs_size, List.length_append, List.length_cons, List.length_nil]; omega), if_pos (by simp)]) ?_)
  by_cases c3 : r.f1 = 3
  · refine Ev.bind (ev_digits r.f4 (by omega) (by omega)) (Ev.congr (fun k => by rw [bs_append, bs_append, if_pos (by simp only [bs_size, List.length_append, List.length_cons, List.length_nil]; omega), if_pos c3, if_pos (by simp only [bs_size, List.length_append, List.length_cons, List.length_nil]; omega), if_pos (by simp)]) ?_)
    refine Ev.bind (ev_digits r.f5 (by omega) (by omega)) (Ev.congr (fun k => by rw [bs_append, bs_append, if_pos (by simp only [bs_size, List.length_append, List.length_cons, List.length_nil]; omega), if_pos (by simp only [bs_size, List.length_append, List.length_cons, List.length_nil]; omega)]) ?_)
    have e : lineOf r = Lib.join [Lib.itoa r.f0, keyOf r.f1, Lib.itoa r.f2, Lib.itoa r.f3, Lib.itoa r.f4, Lib.itoa r.f5] [32] ++ [10] := by
      unfold lineOf wordsOf; rw [if_pos c3]; rfl
    rw [e, join6, hk]
    exact Ev.now _
  · refine Ev.bind (ev_digits r.f4 (by omega) (by omega)) (Ev.congr (fun k => by rw [bs_append, bs_append, if_pos (by simp only [bs_size, List.length_append, List.length_cons, List.length_nil]; omega), if_neg c3, if_pos (by simp only [bs_size, List.length_append, List.length_cons, List.length_nil]; omega)]) ?_)
    have e : lineOf r = Lib.join [Lib.itoa r.f0, keyOf r.f1, Lib.itoa r.f2, Lib.itoa r.f3, Lib.itoa r.f4] [32] ++ [10] := by
      unfold lineOf wordsOf; rw [if_neg c3]; rfl
    rw [e, join5, hk]
    exact Ev.now _
/-- The numbers of a row that the definition looks at. -/
def numsOf (r : S39) : List Int := [r.f0, r.f2, r.f3, r.f4, r.f5]
theorem fits_nums (r : S39) (h : fitsRow r = true) : ∀ x ∈ numsOf r, fitsNum x = true := by
  unfold fitsRow at h
  simp only [Bool.and_eq_true, Bool.or_eq_true, decide_eq_true_eq] at h
  obtain ⟨h5, h0, h2, h3, h4⟩ := h
  intro x hx
  simp only [numsOf, List.mem_cons, List.not_mem_nil, or_false] at hx
  rcases hx with rfl | rfl | rfl | rfl | rfl
  · exact h0
  · exact h2
  · exact h3
  · exact h4
  · rcases h5 with ⟨_, h5⟩ | ⟨_, h5⟩
    · rw [h5]; rfl
    · exact h5
theorem nums_fit (r : S39) (h : ∀ x ∈ numsOf r, fitsNum x = true) : fitsRow r = (decide (r.f1 = 1 ∨ r.f1 = 2) && decide (r.f5 = 0) || decide (r.f1 = 3)) := by
  unfold fitsRow
  rw [h r.f0 (by simp [numsOf]), h r.f2 (by simp [numsOf]), h r.f3 (by simp [numsOf]), h r.f4 (by simp [numsOf]), h r.f5 (by simp [numsOf])]
  simp
/-- What the definition's line gives. -/
def rlineOf (r : S39) : ByteArray × Bool := (bs (if fitsRow r = true then lineOf r else []), fitsRow r)
theorem rline_j1 (r : S39) (h : InRow r) (hn : ∀ x ∈ numsOf r, fitsNum x = true) : Ev (fun k => insolvencyref25_line.j1 k [r.f0, r.f2, r.f3, r.f4, r.f5] (bs (keyOf r.f1)) r.f0 r.f1 r.f2 r.f3 r.f4 r.f5) (rlineOf r) := by
  have e := nums_fit r hn
  have bad : ∀ key, fitsRow r = false → Ev (fun k => insolvencyref25_line.j2 k [r.f0, r.f2, r.f3, r.f4, r.f5] key true r.f0 r.f1 r.f2 r.f3 r.f4 r.f5) (rlineOf r) := by
    intro key hf
    unfold rlineOf
    rw [hf, if_neg (by simp)]
    exact Ev.step (fun k => by rw [insolvencyref25_line.j2, if_pos rfl]; rfl) (Ev.now _)
  have good : fitsRow r = true → Ev (fun k => insolvencyref25_line.j2 k [r.f0, r.f2, r.f3, r.f4, r.f5] (bs (keyOf r.f1)) false r.f0 r.f1 r.f2 r.f3 r.f4 r.f5) (rlineOf r) := by
    intro hf
    unfold rlineOf
    rw [hf, if_pos rfl]
    exact rline_j2 r h _ rfl hf
  by_cases ck : keyOf r.f1 = []
  · refine Ev.step (fun k => by rw [insolvencyref25_line.j1, if_pos (by rw [Lib.toList_data, bs_data]; exact ck)]) (bad _ ?_)
    have : r.f1 ≠ 1 ∧ r.f1 ≠ 2 ∧ r.f1 ≠ 3 := by
      refine ⟨?_, ?_, ?_⟩ <;> intro c <;> rw [c] at ck <;> simp [keyOf] at ck
    rw [e]; simp [this]
  · have hk : r.f1 = 1 ∨ r.f1 = 2 ∨ r.f1 = 3 := by
      by_cases c1 : r.f1 = 1
      · exact .inl c1
      by_cases c2 : r.f1 = 2
      · exact .inr (.inl c2)
      by_cases c3 : r.f1 = 3
      · exact .inr (.inr c3)
      · exact absurd (by unfold keyOf; rw [if_neg c1, if_neg c2, if_neg c3]) ck
    have el : ¬ (bs (keyOf r.f1)).toList = [] := by rw [Lib.toList_data, bs_data]; exact ck
    by_cases c3 : r.f1 = 3
    · refine Ev.step (fun k => by rw [insolvencyref25_line.j1, if_neg el, if_pos c3]) (good ?_)
      rw [e]; simp [c3]
    · refine Ev.step (fun k => by rw [insolvencyref25_line.j1, if_neg el, if_neg c3]) ?_
      by_cases c5 : r.f5 = 0
      · have : (r.f5 != 0) = false := by simp [c5]
        rw [this]
        refine good ?_
        rw [e]; simp; omega
      · have : (r.f5 != 0) = true := by simp [c5]
        rw [this]
        refine bad _ ?_
        rw [e]; simp; omega
theorem rline_l0 (r : S39) (h : InRow r) : ∀ (n j : Nat), j + n = 5 → (∀ x ∈ (numsOf r).take j, fitsNum x = true) → Ev (fun k => insolvencyref25_line.l0 k [r.f0, r.f2, r.f3, r.f4, r.f5] (j : Int) r.f0 r.f1 r.f2 r.f3 r.f4 r.f5) (rlineOf r)
  | 0, j, hj, hp => by
    obtain rfl : j = 5 := by omega
    have hn : ∀ x ∈ numsOf r, fitsNum x = true := hp
    have t := rline_j1 r h hn
    by_cases c1 : r.f1 = 1
    · refine Ev.step (fun k => by rw [insolvencyref25_line.l0, if_neg (by simp), if_pos c1]) ?_
      have e : keyOf r.f1 = [112, 97, 121, 109, 101, 110, 116] := by unfold keyOf; rw [if_pos c1]
      rw [e] at t
      exact t
    by_cases c2 : r.f1 = 2
    · refine Ev.step (fun k => by rw [insolvencyref25_line.l0, if_neg (by simp), if_neg c1, if_pos c2]) ?_
      have e : keyOf r.f1 = [115, 117, 112, 112, 108, 121] := by unfold keyOf; rw [if_neg c1, if_pos c2]
      rw [e] at t
      exact t
    by_cases c3 : r.f1 = 3
    · refine Ev.step (fun k => by rw [insolvencyref25_line.l0, if_neg (by simp), if_neg c1, if_neg c2, if_pos c3]) ?_
      have e : keyOf r.f1 = [116, 114, 97, 110, 115, 102, 101, 114] := by unfold keyOf; rw [if_neg c1, if_neg c2, if_pos c3]
      rw [e] at t
      exact t
    · refine Ev.step (fun k => by rw [insolvencyref25_line.l0, if_neg (by simp), if_neg c1, if_neg c2, if_neg c3]) ?_
      have e : keyOf r.f1 = [] := by unfold keyOf; rw [if_neg c1, if_neg c2, if_neg c3]
      rw [e] at t
      exact t
  | n + 1, j, hj, hp => by
    have hl : (numsOf r).length = 5 := rfl
    have hjl : j < (numsOf r).length := by omega
    have er : rd [r.f0, r.f2, r.f3, r.f4, r.f5] (j : Int) = (numsOf r)[j] := by
      show (numsOf r).getD _ _ = _
      have : (j : Int).toNat = j := by omega
      rw [this, List.getD, List.getElem?_eq_getElem hjl]; rfl
    have bad : ¬ fitsNum (numsOf r)[j] = true → rlineOf r = (bs [], false) := by
      intro c
      have : fitsRow r = false := by
        cases hf : fitsRow r with
        | false => rfl
        | true => exact absurd (fits_nums r hf _ (List.getElem_mem hjl)) c
      unfold rlineOf
      rw [this, if_neg (by simp)]
    have e1 : wrap64 ((j : Int) + 1) = ((j + 1 : Nat) : Int) := by unfold wrap64; omega
    refine Ev.step (fun k => by rw [insolvencyref25_line.l0, if_pos (by simp; omega), if_pos (by omega), er, e1]) ?_
    by_cases c1 : (numsOf r)[j] < 0
    · rw [bad (by unfold fitsNum; simp; omega)]
      exact Ev.congr (fun k => if_pos c1) (Ev.now _)
    by_cases c2 : (numsOf r)[j] > 999999999999999999
    · rw [bad (by unfold fitsNum; simp; omega)]
      exact Ev.congr (fun k => by rw [if_neg c1, if_pos c2]; rfl) (Ev.now _)
    · refine Ev.congr (fun k => by rw [if_neg c1, if_neg c2]) (rline_l0 r h n (j + 1) (by omega) ?_)
      intro x hx
      rw [List.take_add_one, List.getElem?_eq_getElem hjl] at hx
      rcases List.mem_append.1 hx with hx | hx
      · exact hp x hx
      · simp at hx
        subst hx
        unfold fitsNum; simp; omega
theorem ev_line_r (r : S39) (h : InRow r) : Ev (fun k => insolvencyref25_line.f k r.f0 r.f1 r.f2 r.f3 r.f4 r.f5) (rlineOf r) := rline_l0 r h 5 0 (by omega) (by simp)
/-- The text of rows. -/
def textOf (x : List S39) : List UInt8 := (x.map lineOf).flatten
theorem textOf_cons (r : S39) (t : List S39) : textOf (r :: t) = lineOf r ++ textOf t := rfl
theorem textOf_len : ∀ (x : List S39), (∀ r ∈ x, InRow r) → (textOf x).length ≤ 200 * x.length
  | [], _ => by simp [textOf]
  | r :: t, h => by
    have := lineOf_len r (h r (List.mem_cons_self ..))
    have := textOf_len t (fun s hs => h s (List.mem_cons_of_mem _ hs))
    rw [textOf_cons, List.length_append, List.length_cons]; omega
/-- What Format gives behind acc. -/
def fmtFrom (acc : List UInt8) (x : List S39) : List UInt8 := if x.all fitsRow = true ∧ (acc ++ textOf x).length ≤ 8192 then acc ++ textOf x else []
theorem fmtFrom_nil (acc : List UInt8) (h : acc.length ≤ 8192) : fmtFrom acc [] = acc := by
  have e : acc ++ textOf [] = acc := List.append_nil acc
  unfold fmtFrom
  rw [e, if_pos ⟨rfl, h⟩]
theorem fmtFrom_long (acc : List UInt8) (h : ¬ acc.length ≤ 8192) : fmtFrom acc [] = [] := by
  have e : acc ++ textOf [] = acc := List.append_nil acc
  unfold fmtFrom
  rw [e, if_neg (fun q => h q.2)]
theorem fmtFrom_bad (acc : List UInt8) (r : S39) (t : List S39) (c : ¬ fitsRow r = true) : fmtFrom acc (r :: t) = [] := by
  unfold fmtFrom
  rw [List.all_cons, if_neg (by simp [c])]
/-- What Format gives. -/
def fmt (x : List S39) : List UInt8 := if x.length ≤ 256 then fmtFrom [] x else []
theorem hfmt_l0 (x : List S39) (hx : ∀ r ∈ x, InRow r) (hlen : x.length ≤ 1000) : ∀ (n j : Nat) (acc : List UInt8), j + n = x.length → acc.length ≤ 200 * j → Ev (fun k => history_Format.l0 k x (bs acc) (j : Int)) (bs (fmtFrom acc (x.drop j)))
  | 0, j, acc, h, ha => by
    rw [List.drop_of_length_le (by omega)]
    refine Ev.step (fun k => by rw [history_Format.l0, if_neg (by omega), bs_size]) ?_
    by_cases c : (acc.length : Int) > 8192
    · rw [fmtFrom_long acc (by omega)]
      exact Ev.congr (fun k => if_pos c) (Ev.now _)
    · rw [fmtFrom_nil acc (by omega)]
      exact Ev.congr (fun k => if_neg c) (Ev.now _)
  | n + 1, j, acc, h, ha => by
    have hj : j < x.length := by omega
    have hr := hx _ (rd39_mem x j hj)
    obtain ⟨t, ht, hg, hl⟩ := ev_line_h _ hr
    rw [rd39_drop x j hj]
    refine Ev.step (fun k => by rw [history_Format.l0, if_pos (by omega), if_pos (by omega), succ64 j _ hj (by omega)]) (Ev.bind ht ?_)
    by_cases c : fitsRow (rd_T39 x (j : Int)) = true
    · have e := hg c
      subst e
      refine Ev.congr (fun k => by rw [if_pos c, if_pos (by rw [bs_size, bs_size]; omega), bs_append]) ?_
      have ih := hfmt_l0 x hx hlen n (j + 1) (acc ++ lineOf (rd_T39 x (j : Int))) (by omega) (by rw [List.length_append]; omega)
      unfold fmtFrom at ih ⊢
      rw [List.all_cons, c, Bool.true_and, textOf_cons, ← List.append_assoc]
      exact ih
    · rw [fmtFrom_bad acc _ _ c]
      exact Ev.congr (fun k => if_neg c) (Ev.now _)
theorem rfmt_l0 (x : List S39) (hx : ∀ r ∈ x, InRow r) (hlen : x.length ≤ 1000) : ∀ (n j : Nat) (acc : List UInt8), j + n = x.length → acc.length ≤ 200 * j → Ev (fun k => insolvencyref25_Format.l0 k x (bs acc) (j : Int)) (bs (fmtFrom acc (x.drop j)))
  | 0, j, acc, h, ha => by
    rw [List.drop_of_length_le (by omega)]
    refine Ev.step (fun k => by rw [insolvencyref25_Format.l0, if_neg (by omega), bs_size]) ?_
    by_cases c : (acc.length : Int) > 8192
    · rw [fmtFrom_long acc (by omega)]
      exact Ev.congr (fun k => if_pos c) (Ev.now _)
    · rw [fmtFrom_nil acc (by omega)]
      exact Ev.congr (fun k => if_neg c) (Ev.now _)
  | n + 1, j, acc, h, ha => by
    have hj : j < x.length := by omega
    have hr := hx _ (rd39_mem x j hj)
    have hl := lineOf_len _ hr
    rw [rd39_drop x j hj]
    refine Ev.step (fun k => by rw [insolvencyref25_Format.l0, if_pos (by omega), if_pos (by omega), succ64 j _ hj (by omega)]) (Ev.bind (ev_line_r _ hr) ?_)
    unfold rlineOf
    by_cases c : fitsRow (rd_T39 x (j : Int)) = true
    · refine Ev.congr (fun k => by rw [if_pos c, if_pos c, if_pos (by rw [bs_size, bs_size]; omega), bs_append]) ?_
      have ih := rfmt_l0 x hx hlen n (j + 1) (acc ++ lineOf (rd_T39 x (j : Int))) (by omega) (by rw [List.length_append]; omega)
      unfold fmtFrom at ih ⊢
      rw [List.all_cons, c, Bool.true_and, textOf_cons, ← List.append_assoc]
      exact ih
    · rw [fmtFrom_bad acc _ _ c]
      exact Ev.congr (fun k => if_neg c) (Ev.now _)
theorem ev_fmt_h (x : List S39) (hx : ∀ r ∈ x, InRow r) : Ev (fun k => history_Format.f k x) (bs (fmt x)) := by
  unfold fmt
  by_cases c : (x.length : Int) > 256
  · rw [if_neg (by omega)]
    exact Ev.congr (fun k => by rw [history_Format.f, if_pos c]; rfl) (Ev.now _)
  · rw [if_pos (by omega)]
    exact Ev.congr (fun k => by rw [history_Format.f, if_neg c]; rfl) (hfmt_l0 x hx (by omega) x.length 0 [] (by omega) (by simp))
theorem ev_fmt_r (x : List S39) (hx : ∀ r ∈ x, InRow r) : Ev (fun k => insolvencyref25_Format.f k x) (bs (fmt x)) := by
  unfold fmt
  by_cases c : (x.length : Int) > 256
  · rw [if_neg (by omega)]
    exact Ev.congr (fun k => by rw [insolvencyref25_Format.f, if_pos c]; rfl) (Ev.now _)
  · rw [if_pos (by omega)]
    exact Ev.congr (fun k => by rw [insolvencyref25_Format.f, if_neg c]; rfl) (rfmt_l0 x hx (by omega) x.length 0 [] (by omega) (by simp))
theorem Built.row {P : Int} {r : S39} (h : Built P r) (hP : P ≤ 1000) (hd : r.f0 ≤ 1000000) : InRow r := by unfold Built at h; unfold InRow In64; omega
theorem rows_in (l : List S67) (P n : Int) (hP : 2 ≤ P ∧ P ≤ 1000) (hn : n ≤ 1000) (hl : ∀ x ∈ l, Ok67 x) : ∀ r ∈ rowsF P 0 (l.take n.toNat), InRow r := fun r hr => by
  obtain ⟨a, b⟩ := rows_built l P n hP.1 hl r hr
  exact a.row hP.2 (by omega)
end Go.Proofs.YtcehmgmhlmbhnaaDoor.Pure
