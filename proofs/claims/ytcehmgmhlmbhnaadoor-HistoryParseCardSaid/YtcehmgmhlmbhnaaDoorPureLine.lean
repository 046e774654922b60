/- The rows that lines stand for. -/
import Derived.Test.YtcehmgmhlmbhnaaDoorPr9
import Derived.Test.YtcehmgmhlmbhnaaDoorPr17
import Derived.Test.YtcehmgmhlmbhnaaDoorPr19
import Derived.Test.YtcehmgmhlmbhnaaDoorPureCut
import Derived.Test.YtcehmgmhlmbhnaaDoorPureList
namespace Go.Proofs.YtcehmgmhlmbhnaaDoor.Pure
open Go.RowKit Go.Proofs.YtcehmgmhlmbhnaaDoor Go.Proofs.YtcehmgmhlmbhnaaDoor.Pr Go.Proofs.YtcehmgmhlmbhnaaDoorW.PrintWords
/-- A row and whether there is one. -/
def tup : Option S39 → Int × Int × Int × Int × Int × Int × Bool
  | none => (0, 0, 0, 0, 0, 0, false)
  | some r => (r.f0, r.f1, r.f2, r.f3, r.f4, r.f5, true)
def wPay : List UInt8 := [112, 97, 121, 109, 101, 110, 116]
def wSup : List UInt8 := [115, 117, 112, 112, 108, 121]
def wTra : List UInt8 := [116, 114, 97, 110, 115, 102, 101, 114]
/-- A row of five words. -/
def row5 (kd : Int) (a b c d : List UInt8) : Option S39 := (numOf a).bind fun x => (numOf b).bind fun y => (numOf c).bind fun z => (numOf d).bind fun u => some ⟨x, kd, y, z, u, 0⟩
/-- A row of six words. -/
def row6 (kd : Int) (a b c d e : List UInt8) : Option S39 := (numOf a).bind fun x => (numOf b).bind fun y => (numOf c).bind fun z => (numOf d).bind fun u => (numOf e).bind fun v => some ⟨x, kd, y, z, u, v⟩
/-- The row that words stand for. -/
def rowOfWords : List (List UInt8) → Option S39
  | [a, k, b, c, d] => if k = wPay then row5 1 a b c d else if k = wSup then row5 2 a b c d else none
  | [a, k, b, c, d, e] => if k = wPay then none else if k = wSup then none else if k = wTra then row6 3 a b c d e else none
  | _ => none
theorem rdOf_map (ws : List (List UInt8)) (j : Nat) (h : j < ws.length) : rdOf ByteArray.empty (ws.map bs) (j : Int) = bs ws[j] := by
  have e : (j : Int).toNat = j := by omega
  rw [rdOf, e, List.getD, List.getElem?_map, List.getElem?_eq_getElem h]; rfl
theorem hp_num (kd cnt : Int) (acc : List Int) (ws : List (List UInt8)) (j : Nat) (w : List UInt8) (hl : ws.length ≤ 100) (ha : acc.length ≤ 100) (hj : j < ws.length) (h1 : j ≠ 1) (hw : ws[j] = w) (hs : w.length ≤ 1000000) (f : Int → Option S39)
    (h : ∀ n, Ev (fun k => history_parseLine.l0 k kd cnt (acc ++ [n]) (ws.map bs) (ws.length : Int) ((j + 1 : Nat) : Int)) (tup (f n))) : Ev (fun k => history_parseLine.l0 k kd cnt acc (ws.map bs) (ws.length : Int) (j : Int)) (tup ((numOf w).bind f)) := by
  have e1 : wrap64 ((j : Int) + 1) = ((j + 1 : Nat) : Int) := by unfold wrap64; omega
  refine Ev.step (fun k => by rw [history_parseLine.l0, if_pos (by omega), if_pos (by omega), if_pos (by rw [List.length_map]; omega), if_neg (by omega), rdOf_map ws j hj, hw, e1]) (Ev.bind (ev_num_h w hs) ?_)
  cases numOf w with
  | none => exact Ev.congr (fun k => if_neg (by simp [pair])) (Ev.now _)
  | some n => exact Ev.congr (fun k => by rw [if_pos (by rfl), if_pos (by omega)]; rfl) (h n)
theorem hp_skip (kd cnt : Int) (acc : List Int) (ws : List (List UInt8)) (hl : ws.length ≤ 100) (hj : 1 < ws.length) (r : Int × Int × Int × Int × Int × Int × Bool)
    (h : Ev (fun k => history_parseLine.l0 k kd cnt acc (ws.map bs) (ws.length : Int) ((2 : Nat) : Int)) r) : Ev (fun k => history_parseLine.l0 k kd cnt acc (ws.map bs) (ws.length : Int) ((1 : Nat) : Int)) r := by
  have e1 : wrap64 (((1 : Nat) : Int) + 1) = ((2 : Nat) : Int) := by unfold wrap64; omega
  exact Ev.step (fun k => by rw [history_parseLine.l0, if_pos (by omega), if_pos (by omega), if_pos (by rw [List.length_map]; omega), if_pos (by omega), e1]) h
theorem hp_5 (kd : Int) (a k b c d : List UInt8) (ha : a.length ≤ 1000000) (hb : b.length ≤ 1000000) (hc : c.length ≤ 1000000) (hd : d.length ≤ 1000000) : Ev (fun n => history_parseLine.l0 n kd 5 [] ([a, k, b, c, d].map bs) 5 0) (tup (row5 kd a b c d)) := by
  refine hp_num kd 5 [] [a, k, b, c, d] 0 a (by simp) (by simp) (by simp) (by omega) rfl ha _ fun x => ?_
  refine hp_skip kd 5 _ [a, k, b, c, d] (by simp) (by simp) _ ?_
  refine hp_num kd 5 _ [a, k, b, c, d] 2 b (by simp) (by simp) (by simp) (by omega) rfl hb _ fun y => ?_
  refine hp_num kd 5 _ [a, k, b, c, d] 3 c (by simp) (by simp) (by simp) (by omega) rfl hc _ fun z => ?_
  refine hp_num kd 5 _ [a, k, b, c, d] 4 d (by simp) (by simp) (by simp) (by omega) rfl hd _ fun u => ?_
  refine Ev.step (fun n => by rw [history_parseLine.l0, if_neg (by simp), if_pos (by simp), if_pos (by simp), if_pos (by simp), if_pos (by simp), if_neg (by omega)]; rfl) (Ev.now _)
theorem hp_6 (kd : Int) (a k b c d e : List UInt8) (ha : a.length ≤ 1000000) (hb : b.length ≤ 1000000) (hc : c.length ≤ 1000000) (hd : d.length ≤ 1000000) (he : e.length ≤ 1000000) : Ev (fun n => history_parseLine.l0 n kd 6 [] ([a, k, b, c, d, e].map bs) 6 0) (tup (row6 kd a b c d e)) := by
  refine hp_num kd 6 [] [a, k, b, c, d, e] 0 a (by simp) (by simp) (by simp) (by omega) rfl ha _ fun x => ?_
  refine hp_skip kd 6 _ [a, k, b, c, d, e] (by simp) (by simp) _ ?_
  refine hp_num kd 6 _ [a, k, b, c, d, e] 2 b (by simp) (by simp) (by simp) (by omega) rfl hb _ fun y => ?_
  refine hp_num kd 6 _ [a, k, b, c, d, e] 3 c (by simp) (by simp) (by simp) (by omega) rfl hc _ fun z => ?_
  refine hp_num kd 6 _ [a, k, b, c, d, e] 4 d (by simp) (by simp) (by simp) (by omega) rfl hd _ fun u => ?_
  refine hp_num kd 6 _ [a, k, b, c, d, e] 5 e (by simp) (by simp) (by simp) (by omega) rfl he _ fun v => ?_
  refine Ev.step (fun n => by rw [history_parseLine.l0, if_neg (by simp), if_pos (by simp), if_pos (by simp), if_pos (by simp), if_pos (by simp), if_pos rfl, if_pos (by simp)]; rfl) (Ev.now _)
theorem hp_bad (kd cnt : Int) (ws : List ByteArray) (h : kd = 0 ∨ (ws.length : Int) ≠ cnt) : Ev (fun n => history_parseLine.j0 n ws kd cnt) (tup none) := by
  by_cases c : kd = 0
  · exact Ev.step (fun n => by rw [history_parseLine.j0, if_pos c]) (Ev.step (fun n => by rw [history_parseLine.j1, if_pos rfl]; rfl) (Ev.now _))
  · have hc : ((ws.length : Int) != cnt) = true := by rcases h with h | h; exact absurd h c; simpa using h
    exact Ev.step (fun n => by rw [history_parseLine.j0, if_neg c, hc]) (Ev.step (fun n => by rw [history_parseLine.j1, if_pos rfl]; rfl) (Ev.now _))
theorem hp_good (kd cnt : Int) (ws : List ByteArray) (h1 : kd ≠ 0) (h2 : (ws.length : Int) = cnt) (r : Int × Int × Int × Int × Int × Int × Bool) (h : Ev (fun n => history_parseLine.l0 n kd cnt [] ws (ws.length : Int) 0) r) : Ev (fun n => history_parseLine.j0 n ws kd cnt) r := by
  have hc : ((ws.length : Int) != cnt) = false := by simpa using h2
  exact Ev.step (fun n => by rw [history_parseLine.j0, if_neg h1, hc]) (Ev.step (fun n => by rw [history_parseLine.j1, if_neg (by simp)]) h)
theorem toList_bs (a b : List UInt8) : ((bs a).toList = b) = (a = b) := by rw [Lib.toList_data, bs_data]
theorem hp_words (ws : List (List UInt8)) (hw : ∀ w ∈ ws, w.length ≤ 1000000) : Ev (fun k => if (((ws.map bs).length : Nat) : Int) < 5 then (some (0, 0, 0, 0, 0, 0, false)) else (if 1 < (((ws.map bs).length : Nat) : Int) then (if (rdOf ByteArray.empty (ws.map bs) 1).toList = ([112, 97, 121, 109, 101, 110, 116] : List UInt8) then (history_parseLine.j0 k (ws.map bs) 1 5) else (if (rdOf ByteArray.empty (ws.map bs) 1).toList = ([115, 117, 112, 112, 108, 121] : List UInt8) then (history_parseLine.j0 k (ws.map bs) 2 5) else (if (rdOf ByteArray.empty (ws.map bs) 1).toList = ([116, 114, 97, 110, 115, 102, 101, 114] : List UInt8) then (history_parseLine.j0 k (ws.map bs) 3 6) else (history_parseLine.j0 k (ws.map bs) 0 5)))) else (none))) (tup (rowOfWords ws)) := by
  by_cases h5 : (((ws.map bs).length : Nat) : Int) < 5
  · have : rowOfWords ws = none := by
      rw [List.length_map] at h5
      unfold rowOfWords
      split
      · simp at h5
      · simp at h5
      · rfl
    rw [this]
    exact Ev.congr (fun k => if_pos h5) (Ev.now _)
  · have hl : ¬ ws.length < 5 := by rw [List.length_map] at h5; omega
    have er : rdOf ByteArray.empty (ws.map bs) 1 = bs (ws[1]'(by omega)) := rdOf_map ws 1 (by omega)
    refine Ev.congr (fun k => by rw [if_neg h5, if_pos (by omega)]) ?_
    simp only [er, toList_bs]
    match ws, hl, hw with
    | [a, k, b, c, d], _, hw =>
      show Ev (fun n => if k = wPay then _ else if k = wSup then _ else if k = wTra then _ else _) _
      rw [rowOfWords]
      by_cases c1 : k = wPay
      · rw [if_pos c1]
        exact Ev.congr (fun k => if_pos c1) (hp_good _ _ _ (by omega) rfl _ (hp_5 1 a k b c d (hw a (by simp)) (hw b (by simp)) (hw c (by simp)) (hw d (by simp))))
      by_cases c2 : k = wSup
      · rw [if_neg c1, if_pos c2]
        exact Ev.congr (fun k => by rw [if_neg c1, if_pos c2]) (hp_good 2 5 ([a, k, b, c, d].map bs) (by omega) rfl _ (hp_5 2 a k b c d (hw a (by simp)) (hw b (by simp)) (hw c (by simp)) (hw d (by simp))))
      rw [if_neg c1, if_neg c2]
      by_cases c3 : k = wTra
      · exact Ev.congr (fun k => by rw [if_neg c1, if_neg c2, if_pos c3]) (hp_bad 3 6 _ (.inr (by simp)))
      · exact Ev.congr (fun k => by rw [if_neg c1, if_neg c2, if_neg c3]) (hp_bad 0 5 _ (.inl rfl))
    | [a, k, b, c, d, e], _, hw =>
      show Ev (fun n => if k = wPay then _ else if k = wSup then _ else if k = wTra then _ else _) _
      rw [rowOfWords]
      by_cases c1 : k = wPay
      · rw [if_pos c1]
        exact Ev.congr (fun k => if_pos c1) (hp_bad 1 5 _ (.inr (by simp)))
      by_cases c2 : k = wSup
      · rw [if_neg c1, if_pos c2]
        exact Ev.congr (fun k => by rw [if_neg c1, if_pos c2]) (hp_bad 2 5 _ (.inr (by simp)))
      rw [if_neg c1, if_neg c2]
      by_cases c3 : k = wTra
      · rw [if_pos c3]
        exact Ev.congr (fun k => by rw [if_neg c1, if_neg c2, if_pos c3]) (hp_good 3 6 ([a, k, b, c, d, e].map bs) (by omega) rfl _ (hp_6 3 a k b c d e (hw a (by simp)) (hw b (by simp)) (hw c (by simp)) (hw d (by simp)) (hw e (by simp))))
      · rw [if_neg c3]
        exact Ev.congr (fun k => by rw [if_neg c1, if_neg c2, if_neg c3]) (hp_bad 0 5 _ (.inl rfl))
    | a :: k :: b :: c :: d :: e :: f :: t, _, hw =>
      show Ev (fun n => if k = wPay then _ else if k = wSup then _ else if k = wTra then _ else _) _
      have : rowOfWords (a :: k :: b :: c :: d :: e :: f :: t) = none := rfl
      rw [this]
      by_cases c1 : k = wPay
      · exact Ev.congr (fun k => if_pos c1) (hp_bad 1 5 _ (.inr (by simp; omega)))
      by_cases c2 : k = wSup
      · exact Ev.congr (fun k => by rw [if_neg c1, if_pos c2]) (hp_bad 2 5 _ (.inr (by simp; omega)))
      by_cases c3 : k = wTra
      · exact Ev.congr (fun k => by rw [if_neg c1, if_neg c2, if_pos c3]) (hp_bad 3 6 _ (.inr (by simp; omega)))
      · exact Ev.congr (fun k => by rw [if_neg c1, if_neg c2, if_neg c3]) (hp_bad 0 5 _ (.inl rfl))
    | [], h, _ => exact absurd (by simp) h
    | [_], h, _ => exact absurd (by simp) h
    | [_, _], h, _ => exact absurd (by simp) h
    | [_, _, _], h, _ => exact absurd (by simp) h
    | [_, _, _, _], h, _ => exact absurd (by simp) h
theorem rn_num (kd : Int) (ns : List Int) (ws : List (List UInt8)) (j : Nat) (w : List UInt8) (hj : j < ws.length) (h6 : j < 6) (h1 : j ≠ 1) (hw : ws[j] = w) (hs : w.length ≤ 1000000) (f : Int → Option S39)
    (h : ∀ n, Ev (fun k => insolvencyref25_row.l0 k (ws.map bs) kd (ns.set j n) ((j + 1 : Nat) : Int)) (tup (f n))) : Ev (fun k => insolvencyref25_row.l0 k (ws.map bs) kd ns (j : Int)) (tup ((numOf w).bind f)) := by
  have ej : (j : Int).toNat = j := by omega
  refine Ev.step (fun k => by rw [insolvencyref25_row.l0, if_pos (by rw [List.length_map]; omega), if_neg (by omega), if_pos (by omega), if_pos (by omega), rdOf_map ws j hj, hw, ej]) (Ev.bind (ev_num_r w hs) ?_)
  cases numOf w with
  | none => exact Ev.congr (fun k => if_neg (by simp [pair])) (Ev.now _)
  | some n => exact Ev.congr (fun k => by rw [if_pos (by rfl)]; rfl) (h n)
theorem rn_skip (kd : Int) (ns : List Int) (ws : List (List UInt8)) (hj : 1 < ws.length) (r : Int × Int × Int × Int × Int × Int × Bool)
    (h : Ev (fun k => insolvencyref25_row.l0 k (ws.map bs) kd ns ((2 : Nat) : Int)) r) : Ev (fun k => insolvencyref25_row.l0 k (ws.map bs) kd ns ((1 : Nat) : Int)) r :=
  Ev.step (fun k => by rw [insolvencyref25_row.l0, if_pos (by rw [List.length_map]; omega), if_pos (by omega)]; rfl) h
theorem rn_5 (kd : Int) (a k b c d : List UInt8) (ha : a.length ≤ 1000000) (hb : b.length ≤ 1000000) (hc : c.length ≤ 1000000) (hd : d.length ≤ 1000000) : Ev (fun n => insolvencyref25_row.l0 n ([a, k, b, c, d].map bs) kd [0, 0, 0, 0, 0, 0] 0) (tup (row5 kd a b c d)) := by
  refine rn_num kd _ [a, k, b, c, d] 0 a (by simp) (by omega) (by omega) rfl ha _ fun x => ?_
  refine rn_skip kd _ [a, k, b, c, d] (by simp) _ ?_
  refine rn_num kd _ [a, k, b, c, d] 2 b (by simp) (by omega) (by omega) rfl hb _ fun y => ?_
  refine rn_num kd _ [a, k, b, c, d] 3 c (by simp) (by omega) (by omega) rfl hc _ fun z => ?_
  refine rn_num kd _ [a, k, b, c, d] 4 d (by simp) (by omega) (by omega) rfl hd _ fun u => ?_
  exact Ev.step (fun n => by rw [insolvencyref25_row.l0, if_neg (by simp)]; rfl) (Ev.now _)
theorem rn_6 (kd : Int) (a k b c d e : List UInt8) (ha : a.length ≤ 1000000) (hb : b.length ≤ 1000000) (hc : c.length ≤ 1000000) (hd : d.length ≤ 1000000) (he : e.length ≤ 1000000) : Ev (fun n => insolvencyref25_row.l0 n ([a, k, b, c, d, e].map bs) kd [0, 0, 0, 0, 0, 0] 0) (tup (row6 kd a b c d e)) := by
  refine rn_num kd _ [a, k, b, c, d, e] 0 a (by simp) (by omega) (by omega) rfl ha _ fun x => ?_
  refine rn_skip kd _ [a, k, b, c, d, e] (by simp) _ ?_
  refine rn_num kd _ [a, k, b, c, d, e] 2 b (by simp) (by omega) (by omega) rfl hb _ fun y => ?_
  refine rn_num kd _ [a, k, b, c, d, e] 3 c (by simp) (by omega) (by omega) rfl hc _ fun z => ?_
  refine rn_num kd _ [a, k, b, c, d, e] 4 d (by simp) (by omega) (by omega) rfl hd _ fun u => ?_
  refine rn_num kd _ [a, k, b, c, d, e] 5 e (by simp) (by omega) (by omega) rfl he _ fun v => ?_
  exact Ev.step (fun n => by rw [insolvencyref25_row.l0, if_neg (by simp)]; rfl) (Ev.now _)
theorem rn_words (ws : List (List UInt8)) (hw : ∀ w ∈ ws, w.length ≤ 1000000) : Ev (fun k => if (((ws.map bs).length : Nat) : Int) < 5 then (some (0, 0, 0, 0, 0, 0, false)) else (if (rdOf ByteArray.empty (ws.map bs) 1).toList = ([112, 97, 121, 109, 101, 110, 116] : List UInt8) then (insolvencyref25_row.g k (ws.map bs) 1) else (if (rdOf ByteArray.empty (ws.map bs) 1).toList = ([115, 117, 112, 112, 108, 121] : List UInt8) then (insolvencyref25_row.g k (ws.map bs) 2) else (if (rdOf ByteArray.empty (ws.map bs) 1).toList = ([116, 114, 97, 110, 115, 102, 101, 114] : List UInt8) then (insolvencyref25_row.g k (ws.map bs) 3) else (some (0, 0, 0, 0, 0, 0, false)))))) (tup (rowOfWords ws)) := by
  by_cases h5 : (((ws.map bs).length : Nat) : Int) < 5
  · have : rowOfWords ws = none := by
      rw [List.length_map] at h5
      unfold rowOfWords
      split
      · simp at h5
      · simp at h5
      · rfl
    rw [this]
    exact Ev.congr (fun k => if_pos h5) (Ev.now _)
  · have hl : ¬ ws.length < 5 := by rw [List.length_map] at h5; omega
    have er : rdOf ByteArray.empty (ws.map bs) 1 = bs (ws[1]'(by omega)) := rdOf_map ws 1 (by omega)
    refine Ev.congr (fun k => by rw [if_neg h5]) ?_
    simp only [er, toList_bs]
    match ws, hl, hw with
    | [a, k, b, c, d], _, hw =>
      show Ev (fun n => if k = wPay then _ else if k = wSup then _ else if k = wTra then _ else _) _
      rw [rowOfWords]
      by_cases c1 : k = wPay
      · rw [if_pos c1]
        exact Ev.congr (fun n => by rw [if_pos c1, insolvencyref25_row.g, if_neg (by omega), if_pos (by simp)]) (rn_5 1 a k b c d (hw a (by simp)) (hw b (by simp)) (hw c (by simp)) (hw d (by simp)))
      by_cases c2 : k = wSup
      · rw [if_neg c1, if_pos c2]
        exact Ev.congr (fun n => by rw [if_neg c1, if_pos c2, insolvencyref25_row.g, if_neg (by omega), if_pos (by simp)]) (rn_5 2 a k b c d (hw a (by simp)) (hw b (by simp)) (hw c (by simp)) (hw d (by simp)))
      rw [if_neg c1, if_neg c2]
      by_cases c3 : k = wTra
      · exact Ev.congr (fun k => by rw [if_neg c1, if_neg c2, if_pos c3, insolvencyref25_row.g, if_pos rfl, if_neg (by simp)]; rfl) (Ev.now _)
      · exact Ev.congr (fun k => by rw [if_neg c1, if_neg c2, if_neg c3]; rfl) (Ev.now _)
    | [a, k, b, c, d, e], _, hw =>
      show Ev (fun n => if k = wPay then _ else if k = wSup then _ else if k = wTra then _ else _) _
      rw [rowOfWords]
      by_cases c1 : k = wPay
      · rw [if_pos c1]
        exact Ev.congr (fun k => by rw [if_pos c1, insolvencyref25_row.g, if_neg (by omega), if_neg (by simp)]; rfl) (Ev.now _)
      by_cases c2 : k = wSup
      · rw [if_neg c1, if_pos c2]
        exact Ev.congr (fun k => by rw [if_neg c1, if_pos c2, insolvencyref25_row.g, if_neg (by omega), if_neg (by simp)]; rfl) (Ev.now _)
      rw [if_neg c1, if_neg c2]
      by_cases c3 : k = wTra
      · rw [if_pos c3]
        exact Ev.congr (fun n => by rw [if_neg c1, if_neg c2, if_pos c3, insolvencyref25_row.g, if_pos rfl, if_pos (by simp)]) (rn_6 3 a k b c d e (hw a (by simp)) (hw b (by simp)) (hw c (by simp)) (hw d (by simp)) (hw e (by simp)))
      · rw [if_neg c3]
        exact Ev.congr (fun k => by rw [if_neg c1, if_neg c2, if_neg c3]; rfl) (Ev.now _)
    | a :: k :: b :: c :: d :: e :: f :: t, _, hw =>
      show Ev (fun n => if k = wPay then _ else if k = wSup then _ else if k = wTra then _ else _) _
      have : rowOfWords (a :: k :: b :: c :: d :: e :: f :: t) = none := rfl
      rw [this]
      by_cases c1 : k = wPay
      · exact Ev.congr (fun k => by rw [if_pos c1, insolvencyref25_row.g, if_neg (by omega), if_neg (by simp; omega)]; rfl) (Ev.now _)
      by_cases c2 : k = wSup
      · exact Ev.congr (fun k => by rw [if_neg c1, if_pos c2, insolvencyref25_row.g, if_neg (by omega), if_neg (by simp; omega)]; rfl) (Ev.now _)
      by_cases c3 : k = wTra
      · exact Ev.congr (fun k => by rw [if_neg c1, if_neg c2, if_pos c3, insolvencyref25_row.g, if_pos rfl, if_neg (by simp; omega)]; rfl) (Ev.now _)
      · exact Ev.congr (fun k => by rw [if_neg c1, if_neg c2, if_neg c3]; rfl) (Ev.now _)
    | [], h, _ => exact absurd (by simp) h
    | [_], h, _ => exact absurd (by simp) h
    | [_, _], h, _ => exact absurd (by simp) h
    | [_, _, _], h, _ => exact absurd (by simp) h
    | [_, _, _, _], h, _ => exact absurd (by simp) h
theorem splitAt_len (c : UInt8) : ∀ (s : List UInt8), ∀ w ∈ splitAt c s, w.length ≤ s.length
  | [], w, h => by simp [splitAt] at h; simp [h]
  | b :: t, w, h => by
    rw [splitAt] at h
    rw [List.length_cons]
    have ih := splitAt_len c t
    split at h
    · rcases List.mem_cons.1 h with rfl | h
      · simp
      · have := ih w h; omega
    · revert h
      cases hs : splitAt c t with
      | nil => intro h; simp [glue] at h; simp [h]
      | cons u us =>
        intro h
        rw [hs] at ih
        rcases List.mem_cons.1 h with rfl | h
        · have := ih u (by simp)
          simp; omega
        · have := ih w (by simp [h]); omega
/-- The row that a line stands for. -/
def rowOfLine (s : List UInt8) : Option S39 := rowOfWords (splitAt 32 s)
theorem ev_parseLine (s : List UInt8) (hs : s.length ≤ 1000000) : Ev (fun k => history_parseLine.f k (bs s)) (tup (rowOfLine s)) :=
  Ev.congr (fun k => by rw [history_parseLine.f, show (⟨#[32]⟩ : ByteArray) = bs [32] from rfl, split_eq 32 s (by omega), Option.bind_some]) (hp_words (splitAt 32 s) (fun w h => by have := splitAt_len 32 s w h; omega))
theorem ev_row (s : List UInt8) (hs : s.length ≤ 1000000) : Ev (fun k => insolvencyref25_row.f k (bs s)) (tup (rowOfLine s)) := by
  refine Ev.bind (ev_words s hs) ?_
  exact rn_words (splitAt 32 s) (fun w h => by have := splitAt_len 32 s w h; omega)
end Go.Proofs.YtcehmgmhlmbhnaaDoor.Pure
