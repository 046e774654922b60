/- The plain statement of HistoryLowest. -/
import Derived.Test.YtcehmgmhlmbhnaaDoorPr29
import Derived.Test.YtcehmgmhlmbhnaaDoorOpen
import Derived.Test.YtcehmgmhlmbhnaaDoorPureBalance
namespace Go.Proofs.YtcehmgmhlmbhnaaDoor.Pure
open Go.RowKit Go.Proofs.YtcehmgmhlmbhnaaDoor Go.Proofs.YtcehmgmhlmbhnaaDoor.Pr Go.Proofs.YtcehmgmhlmbhnaaDoorW.PrintWords
theorem money_small (r : S39) (p : Int) (h : Built 4 r) : -40 ≤ money r p ∧ money r p ≤ 40 := by
  have hg : -40 ≤ gain r ∧ gain r ≤ 40 := by
    unfold Built at h
    unfold gain
    split
    · omega
    · split
      · unfold wrap64; omega
      · omega
  have e : wrap64 (-gain r) = -gain r := by unfold wrap64; omega
  unfold money
  rw [e]
  repeat' split
  all_goals omega
/-- The days of the rows rise. -/
def Rise : Int → List S39 → Prop
  | _, [] => True
  | d, r :: t => d ≤ r.f0 ∧ Rise r.f0 t
theorem rowsF_rise (P : Int) : ∀ (l : List S67) (d : Int), Rise d (rowsF P d l)
  | [], _ => trivial
  | x :: t, d => by
    have e0 : 0 ≤ x.f0 % 6 := Int.emod_nonneg _ (by omega)
    rw [rowsF]
    exact ⟨by simp only [rowOf]; omega, rowsF_rise P t (d + x.f0 % 6)⟩
theorem Rise.least {d : Int} : ∀ {l : List S39}, Rise d l → ∀ r ∈ l, d ≤ r.f0
  | [], _, r, h => by simp at h
  | s :: t, h, r, hr => by
    rcases List.mem_cons.1 hr with rfl | hr
    · exact h.1
    · have := Rise.least h.2 r hr
      have := h.1
      omega
/-- The balance after the rows of the days from a to d. -/
def mid (p a d : Int) : Int → List S39 → Int
  | acc, [] => acc
  | acc, r :: t => mid p a d (if a ≤ r.f0 ∧ r.f0 ≤ d then acc + money r p else acc) t
/-- The sum of what a row set changes. -/
def chg (p : Int) (c : S39 → Bool) : List S39 → Int
  | [] => 0
  | r :: t => (if c r = true then money r p else 0) + chg p c t
theorem chg_small (p : Int) (c : S39 → Bool) : ∀ (x : List S39), (∀ r ∈ x, Built 4 r) → -40 * (x.length : Int) ≤ chg p c x ∧ chg p c x ≤ 40 * (x.length : Int)
  | [], _ => by simp [chg]
  | r :: t, h => by
    have hr := money_small r p (h r (List.mem_cons_self ..))
    have ht := chg_small p c t (fun s hs => h s (List.mem_cons_of_mem _ hs))
    rw [chg, List.length_cons]
    split <;> constructor <;> omega
theorem bal_chg (p d B : Int) (hB : B ≤ 9223372036854775000) : ∀ (x : List S39) (acc : Int), (∀ r ∈ x, Built 4 r) → -B + 40 * (x.length : Int) ≤ acc → acc ≤ B - 40 * (x.length : Int) → bal p d acc x = acc + chg p (fun r => decide (r.f0 ≤ d)) x
  | [], acc, _, _, _ => by simp [bal, chg]
  | r :: t, acc, h, h1, h2 => by
    have hr := money_small r p (h r (List.mem_cons_self ..))
    have ht := fun s hs => h s (List.mem_cons_of_mem _ hs)
    rw [List.length_cons] at h1 h2
    have e : wrap64 (acc + money r p) = acc + money r p := by unfold wrap64; omega
    rw [bal, chg, e]
    by_cases c : r.f0 ≤ d
    · rw [if_pos c, if_pos (by simpa using c), bal_chg p d B hB t _ ht (by omega) (by omega)]; omega
    · rw [if_neg c, if_neg (by simpa using c), bal_chg p d B hB t _ ht (by omega) (by omega)]; omega
theorem bef_bal (p a : Int) : ∀ (x : List S39) (acc : Int), bef p a acc x = bal p (a - 1) acc x
  | [], _ => rfl
  | r :: t, acc => by
    rw [bef, bal]
    by_cases c : r.f0 < a
    · rw [if_pos c, if_pos (by omega), bef_bal p a t]
    · rw [if_neg c, if_neg (by omega), bef_bal p a t]
theorem chg_split (p a d : Int) (h : a - 1 ≤ d) : ∀ (x : List S39), chg p (fun r => decide (r.f0 ≤ d)) x = chg p (fun r => decide (r.f0 ≤ a - 1)) x + chg p (fun r => decide (a ≤ r.f0) && decide (r.f0 ≤ d)) x
  | [] => by simp [chg]
  | r :: t => by
    rw [chg, chg, chg, chg_split p a d h t]
    by_cases c1 : r.f0 ≤ d
    · by_cases c2 : r.f0 ≤ a - 1
      · rw [if_pos (by simpa using c1), if_pos (by simpa using c2), if_neg (by simp; omega)]; omega
      · rw [if_pos (by simpa using c1), if_neg (by simpa using c2), if_pos (by simp; omega)]; omega
    · rw [if_neg (by simpa using c1), if_neg (by simp; omega), if_neg (by simp; omega)]; omega
theorem chg_none (p a d : Int) : ∀ (x : List S39), (∀ r ∈ x, d < r.f0) → chg p (fun r => decide (a ≤ r.f0) && decide (r.f0 ≤ d)) x = 0
  | [], _ => rfl
  | r :: t, h => by
    have hr := h r (List.mem_cons_self ..)
    rw [chg, if_neg (by simp; omega), chg_none p a d t (fun s hs => h s (List.mem_cons_of_mem _ hs))]; omega
theorem mn_le (a b : Int) : mn a b ≤ a ∧ mn a b ≤ b := by unfold mn; split <;> omega
theorem mn_or (a b : Int) : mn a b = a ∨ mn a b = b := by unfold mn; split <;> simp
theorem low_le (p a b : Int) : ∀ (x : List S39) (now out : Int), low p a b now out x ≤ out
  | [], _, _ => by simp [low]
  | r :: t, now, out => by
    rw [low]
    split
    · have := low_le p a b t (wrap64 (now + money r p)) (mn out (wrap64 (now + money r p)))
      have := mn_le out (wrap64 (now + money r p))
      omega
    · exact low_le p a b t _ _
theorem low_mid (p a b d B : Int) (hB : B ≤ 9223372036854775000) (hd : d ≤ b) : ∀ (x : List S39) (m now out : Int), Rise m x → (∀ r ∈ x, Built 4 r) → -B + 40 * (x.length : Int) ≤ now → now ≤ B - 40 * (x.length : Int) → out ≤ now → low p a b now out x ≤ now + chg p (fun r => decide (a ≤ r.f0) && decide (r.f0 ≤ d)) x
  | [], m, now, out, _, _, _, _, h => by simp [low, chg]; exact h
  | r :: t, m, now, out, hm, h, h1, h2, ho => by
    have hr := money_small r p (h r (List.mem_cons_self ..))
    have ht := fun s hs => h s (List.mem_cons_of_mem _ hs)
    rw [List.length_cons] at h1 h2
    have e : wrap64 (now + money r p) = now + money r p := by unfold wrap64; omega
    have hq := mn_le out (now + money r p)
    rw [low, chg, e]
    by_cases c : a ≤ r.f0 ∧ r.f0 ≤ b
    · rw [if_pos c]
      by_cases c' : r.f0 ≤ d
      · rw [if_pos (by simp; exact ⟨c.1, c'⟩)]
        have := low_mid p a b d B hB hd t r.f0 (now + money r p) (mn out (now + money r p)) hm.2 ht (by omega) (by omega) (by omega)
        omega
      · rw [if_neg (by simp; omega), chg_none p a d t (fun s hs => by have := Rise.least hm.2 s hs; omega)]
        have := low_le p a b t (now + money r p) (mn out (now + money r p))
        omega
    · rw [if_neg c, if_neg (by simp; omega)]
      have := low_mid p a b d B hB hd t r.f0 now out hm.2 ht (by omega) (by omega) ho
      omega
theorem low_least (p a b d o : Int) (x : List S39) (hr : Rise 0 x) (hx : ∀ r ∈ x, Built 4 r) (hl : x.length ≤ 1000) (h1 : -1000000 ≤ o) (h2 : o ≤ 1000000) (ha : a - 1 ≤ d) (hb : d ≤ b) : low p a b (bef p a o x) (bef p a o x) x ≤ bal p d o x := by
  have hs := chg_small p (fun r => decide (r.f0 ≤ a - 1)) x hx
  have e := bal_chg p (a - 1) 1000000000 (by omega) x o hx (by omega) (by omega)
  rw [bef_bal, e, bal_chg p d 1000000000 (by omega) x o hx (by omega) (by omega), chg_split p a d ha]
  have := low_mid p a b d 1000000000 (by omega) hb x 0 (o + chg p (fun r => decide (r.f0 ≤ a - 1)) x) (o + chg p (fun r => decide (r.f0 ≤ a - 1)) x) hr hx (by omega) (by omega) (by omega)
  omega
theorem hl_l1 (p a b L : Int) (x : List S39) (hx : ∀ r ∈ x, In64 r.f4) (hlen : x.length ≤ 1000000) : ∀ (n j : Nat) (now out : Int) (met : Bool), j + n = x.length → low p a b now out (x.drop j) = L → (out = L → met = true) → Ev (fun k => insolvencylaw25_HistoryLowest.l1 k x p a b L now met (j : Int)) true
  | 0, j, now, out, met, h, hL, hm => by
    rw [List.drop_of_length_le (by omega), low] at hL
    rw [hm hL]
    refine Ev.step (fun k => by rw [insolvencylaw25_HistoryLowest.l1, if_neg (by omega)]) (Ev.bind ev_awake (Ev.congr (fun k => if_pos rfl) (Ev.now true)))
  | n + 1, j, now, out, met, h, hL, hmet => by
    have hj : j < x.length := by omega
    have hm := hx _ (rd39_mem x j hj)
    rw [rd39_drop x j hj, low] at hL
    refine Ev.step (fun k => by rw [insolvencylaw25_HistoryLowest.l1, if_pos (by omega), if_pos (by omega), succ64 j _ hj hlen]) ?_
    have skip : low p a b now out (x.drop (j + 1)) = L → Ev (fun k => insolvencylaw25_HistoryLowest.l1 k x p a b L now met ((j + 1 : Nat) : Int)) true := fun q => hl_l1 p a b L x hx hlen n (j + 1) now out met (by omega) q hmet
    by_cases c : (rd_T39 x (j : Int)).f0 ≥ a
    · by_cases c' : (rd_T39 x (j : Int)).f0 ≤ b
      · rw [if_pos ⟨c, c'⟩] at hL
        refine Ev.congr (fun k => by rw [if_pos c, if_pos c']) (Ev.bind (ev_money_h _ _ hm) ?_)
        cases met with
        | true => exact Ev.congr (fun k => if_pos rfl) (hl_l1 p a b L x hx hlen n (j + 1) _ _ true (by omega) hL (fun _ => rfl))
        | false =>
          refine Ev.congr (fun k => if_neg (by simp)) (hl_l1 p a b L x hx hlen n (j + 1) _ _ _ (by omega) hL ?_)
          intro q
          rcases mn_or out (wrap64 (now + money (rd_T39 x (j : Int)) p)) with q' | q'
          · exact absurd (hmet (q'.symm.trans q)) (by simp)
          · rw [← q', q]; simp
      · rw [if_neg (fun h => c' h.2)] at hL
        exact Ev.congr (fun k => by rw [if_pos c, if_neg c']) (skip hL)
    · rw [if_neg (fun h => c h.1)] at hL
      exact Ev.congr (fun k => by rw [if_neg c]) (skip hL)
theorem hl_l0 (o p a b : Int) (x : List S39) (hr : Rise 0 x) (hx : ∀ r ∈ x, Built 4 r) (hl : x.length ≤ 1000) (h1 : -1000000 ≤ o) (h2 : o ≤ 1000000) (ha : 0 ≤ a) (hb : b ≤ 1000) : ∀ (n : Nat) (d : Int), d + n = b + 1 → a - 1 ≤ d → Ev (fun k => insolvencylaw25_HistoryLowest.l0 k o x p a b (low p a b (bef p a o x) (bef p a o x) x) d) true
  | 0, d, h, hd => by
    have f : Fits x := ⟨fun r hr => (hx r hr).amount, by omega⟩
    have eo : wrap64 o = o := by unfold wrap64; omega
    have ea : wrap64 (a - 1) = a - 1 := by unfold wrap64; omega
    refine Ev.step (fun k => by rw [insolvencylaw25_HistoryLowest.l0, if_neg (by omega), eo, ea]) (Ev.bind (ev_bal_h _ _ _ _ f) ?_)
    rw [← bef_bal]
    exact hl_l1 p a b _ x f.1 f.2 x.length 0 (bef p a o x) (bef p a o x) _ (by omega) rfl (fun q => by rw [← q]; simp)
  | n + 1, d, h, hd => by
    have f : Fits x := ⟨fun r hr => (hx r hr).amount, by omega⟩
    have eo : wrap64 o = o := by unfold wrap64; omega
    have ed : wrap64 (d + 1) = d + 1 := by unfold wrap64; omega
    refine Ev.step (fun k => by rw [insolvencylaw25_HistoryLowest.l0, if_pos (by omega), eo, ed]) (Ev.bind (ev_bal_h _ _ _ _ f) ?_)
    have := low_least p a b d o x hr hx hl h1 h2 hd (by omega)
    exact Ev.congr (fun k => if_neg (by omega)) (hl_l0 o p a b x hr hx hl h1 h2 ha hb n (d + 1) (by omega) (by omega))
theorem wf_i16 {a : Int} (h : (Lit.int .i16 a).wf = true) : -32768 ≤ a ∧ a ≤ 32767 := by
  simp only [Lit.wf, Bool.and_eq_true, decide_eq_true_eq] at h
  exact h
theorem wf_u8 {a : Int} (h : (Lit.int .u8 a).wf = true) : 0 ≤ a ∧ a ≤ 255 := by
  simp only [Lit.wf, Bool.and_eq_true, decide_eq_true_eq] at h
  exact h
theorem HistoryLowest (l : List S67) (a1 a2 a3 a4 : Int) (hl : ∀ x ∈ l, Ok67 x) (_h1 : (Lit.int .u8 a1).wf = true) (h2 : (Lit.int .i16 a2).wf = true) (h3 : (Lit.int .u8 a3).wf = true) (h4 : (Lit.int .u8 a4).wf = true) : ∃ k, insolvencylaw25_HistoryLowest.f k l a1 a2 a3 a4 = some true := by
  have b2 := wf_i16 h2
  have b3 := wf_u8 h3
  have b4 := wf_u8 h4
  refine Ev.rounds (g := fun k => insolvencylaw25_HistoryLowest.f k l a1 a2 a3 a4) (Ev.congr (fun k => by rw [insolvencylaw25_HistoryLowest.f, rows_eq l 4 20 (by omega) (by omega) hl, Option.bind_some]) ?_)
  have f : Fits (rowsF 4 0 (l.take (Int.toNat 20))) := rows_fits l 4 20 (by omega) (by omega) hl
  have hb := fun r hr => (rows_built l 4 20 (by omega) hl r hr).1
  have hlen : (rowsF 4 0 (l.take (Int.toNat 20))).length ≤ 20 := by rw [rowsF_length, List.length_take]; omega
  have hr := rowsF_rise 4 (l.take (Int.toNat 20)) 0
  generalize rowsF 4 0 (l.take (Int.toNat 20)) = x at *
  have e1 : wrap64 a2 = a2 := by unfold wrap64; omega
  have t3 : Int.tmod a3 60 = a3 % 60 := Int.tmod_eq_emod_of_nonneg b3.1
  have t4 : Int.tmod a4 40 = a4 % 40 := Int.tmod_eq_emod_of_nonneg b4.1
  have e3 : wrap64 (Int.tmod a3 60) = a3 % 60 := by rw [t3]; unfold wrap64; omega
  have e4 : wrap64 (Int.tmod a4 40) = a4 % 40 := by rw [t4]; unfold wrap64; omega
  have e5 : wrap64 (a3 % 60 + a4 % 40) = a3 % 60 + a4 % 40 := by unfold wrap64; omega
  have e6 : wrap64 (a3 % 60 - 1) = a3 % 60 - 1 := by unfold wrap64; omega
  rw [e1, e3, e4, e5, e6]
  refine Ev.bind (ev_low_h _ _ _ _ _ f) ?_
  exact hl_l0 a2 _ (a3 % 60) (a3 % 60 + a4 % 40) x hr hb (by omega) (by omega) (by omega) (by omega) (by omega) (a4 % 40 + 2).toNat (a3 % 60 - 1) (by omega) (by omega)
end Go.Proofs.YtcehmgmhlmbhnaaDoor.Pure
