/- What the law's own search for the greatest number of pairs computes. -/
import Derived.Test.YtcehmgmhlmbhnaaDoorMo
import Derived.Test.YtcehmgmhlmbhnaaDoorPureMost
namespace Go.Proofs.YtcehmgmhlmbhnaaDoor.Pure
open Go.RowKit Go.Proofs.YtcehmgmhlmbhnaaDoor Go.Proofs.YtcehmgmhlmbhnaaDoor.Pr Go.Proofs.YtcehmgmhlmbhnaaDoorW.PrintWords
theorem bits_fin : ∀ (m : Fin 512) (c : Fin 9), (decide (Go.bits .and .u64 (shr .u64 ((m.val : Nat) : Int) (IntKind.u64.wrap ((c.val : Nat) : Int))) 1 = 0) = !(m.val.testBit c.val)) ∧ (Go.bits .or .u64 ((m.val : Nat) : Int) (shl .u64 1 (IntKind.u64.wrap ((c.val : Nat) : Int))) = ((m.val ||| 1 <<< c.val : Nat) : Int)) ∧ m.val ||| 1 <<< c.val < 512 := by decide +kernel
theorem bit_free (m c : Nat) (hm : m < 512) (hc : c < 9) : (Go.bits .and .u64 (shr .u64 (m : Int) (IntKind.u64.wrap (c : Int))) 1 = 0) ↔ m.testBit c = false := by
  have h := (bits_fin ⟨m, hm⟩ ⟨c, hc⟩).1
  simp only at h
  constructor
  · intro q
    rw [decide_eq_true q] at h
    cases hb : m.testBit c with
    | false => rfl
    | true => rw [hb] at h; cases h
  · intro q
    rw [q] at h
    exact of_decide_eq_true h
theorem bit_add (m c : Nat) (hm : m < 512) (hc : c < 9) : Go.bits .or .u64 (m : Int) (shl .u64 1 (IntKind.u64.wrap (c : Int))) = ((m ||| 1 <<< c : Nat) : Int) ∧ m ||| 1 <<< c < 512 := (bits_fin ⟨m, hm⟩ ⟨c, hc⟩).2
theorem mask_add (m c : Nat) : (fun j => (m ||| 1 <<< c).testBit j) = add (fun j => m.testBit j) c := by
  funext j
  simp only [add, Nat.testBit_or]
  congr 1
  rw [Nat.one_shiftLeft, Nat.testBit_two_pow]
  exact decide_eq_decide.2 eq_comm
theorem corr2_eq (a b : S39) (s : Int) : insolvencyref25_Corresponds.f a.f0 a.f1 a.f2 a.f3 a.f4 a.f5 b.f0 b.f1 b.f2 b.f3 b.f4 b.f5 s = some (nearB a b s) := by
  unfold insolvencyref25_Corresponds.f
  rw [near_eq]; rfl
theorem mst_len (y : List S39) (s : Int) : ∀ (t : List S39) (u : Nat → Bool), mst y s t u ≤ t.length
  | [], _ => by simp [mst]
  | r :: t, u => by
    rw [List.length_cons]
    refine mst_le y s r t u _ ?_ (fun c _ _ _ => ?_)
    · have := mst_len y s t u; omega
    · have := mst_len y s t (add u c); omega
theorem mx_step (acc v : Nat) (hv : v ≤ 1000) : mx (acc : Int) (wrap64 (1 + (v : Int))) = ((max acc (1 + v) : Nat) : Int) := by
  have e : wrap64 (1 + (v : Int)) = 1 + (v : Int) := by unfold wrap64; omega
  rw [e]
  unfold mx
  split <;> omega
theorem most_l0 (x y : List S39) (s : Int) (i : Nat) (hi : i < x.length) (hx : x.length ≤ 1000) (hy : y.length ≤ 9) (m : Nat) (hm : m < 512)
    (ih : ∀ m' : Nat, m' < 512 → Ev (fun k => insolvencylaw25_most.f k x y s ((i + 1 : Nat) : Int) (m' : Int)) (((mst y s (x.drop (i + 1)) (fun j => m'.testBit j)) : Nat) : Int)) :
    ∀ (n c acc : Nat), c + n = y.length → acc ≤ 1001 → Ev (fun k => insolvencylaw25_most.l0 k x y s (i : Int) (m : Int) (acc : Int) (c : Int)) (((best (rd_T39 x (i : Int)) y s (fun j => m.testBit j) (mst y s (x.drop (i + 1))) n c acc) : Nat) : Int)
  | 0, c, acc, h, _ => by
    rw [best]
    exact Ev.step (fun k => by rw [insolvencylaw25_most.l0, if_neg (by omega)]) (Ev.now _)
  | n + 1, c, acc, h, ha => by
    have f1 : (c : Int) < (y.length : Int) := by omega
    have f2 : 0 ≤ (i : Int) := by omega
    have f3 : (i : Int) < (x.length : Int) := by omega
    have f4 : 0 ≤ (c : Int) := by omega
    have f5 : c < 9 := by omega
    have f6 : c + 1 + n = y.length := by omega
    have e1 : wrap64 ((c : Int) + 1) = ((c + 1 : Nat) : Int) := by unfold wrap64; omega
    have e2 : wrap64 ((i : Int) + 1) = ((i + 1 : Nat) : Int) := by unfold wrap64; omega
    have hl : mst y s (x.drop (i + 1)) (add (fun j => m.testBit j) c) ≤ 1000 := by
      have := mst_len y s (x.drop (i + 1)) (add (fun j => m.testBit j) c)
      rw [List.length_drop] at this
      omega
    have hb : max acc (1 + mst y s (x.drop (i + 1)) (add (fun j => m.testBit j) c)) ≤ 1001 := by omega
    have w0 : 0 ≤ IntKind.u64.wrap (c : Int) := Int.emod_nonneg _ (by decide)
    have o1 := (bit_add m c hm f5).1
    have o2 := (bit_add m c hm f5).2
    have o3 := bit_free m c hm f5
    rw [best]
    refine Ev.step (fun k => by rw [insolvencylaw25_most.l0, if_pos f1, if_pos w0, if_pos f2, if_pos f3, if_pos f4, corr2_eq, Option.bind_some, e1, e2, o1]) ?_
    by_cases c1 : m.testBit c = false
    · refine Ev.congr (fun k => if_pos (o3.2 c1)) ?_
      by_cases c2 : nearB (rd_T39 x (i : Int)) (rd_T39 y (c : Int)) s = true
      · refine Ev.congr (fun k => if_pos c2) (Ev.bind (ih _ o2) ?_)
        rw [if_pos ⟨c1, c2⟩, mask_add, mx_step acc _ hl]
        exact most_l0 x y s i hi hx hy m hm ih n (c + 1) _ f6 hb
      · rw [if_neg (fun q => c2 q.2)]
        exact Ev.congr (fun k => if_neg c2) (most_l0 x y s i hi hx hy m hm ih n (c + 1) acc f6 ha)
    · rw [if_neg (fun q => c1 q.1)]
      exact Ev.congr (fun k => if_neg (fun q => c1 (o3.1 q))) (most_l0 x y s i hi hx hy m hm ih n (c + 1) acc f6 ha)
theorem ev_most (x y : List S39) (s : Int) (hx : x.length ≤ 1000) (hy : y.length ≤ 9) : ∀ (n i : Nat), i + n = x.length → ∀ m : Nat, m < 512 → Ev (fun k => insolvencylaw25_most.f k x y s (i : Int) (m : Int)) (((mst y s (x.drop i) (fun j => m.testBit j)) : Nat) : Int)
  | 0, i, h, m, _ => by
    rw [List.drop_of_length_le (by omega), mst]
    exact Ev.step (fun k => by rw [insolvencylaw25_most.f, if_pos (by omega)]; rfl) (Ev.now _)
  | n + 1, i, h, m, hm => by
    have hi : i < x.length := by omega
    have e2 : wrap64 ((i : Int) + 1) = ((i + 1 : Nat) : Int) := by unfold wrap64; omega
    have ih := ev_most x y s hx hy n (i + 1) (by omega)
    rw [rd39_drop x i hi, mst]
    refine Ev.step (fun k => by rw [insolvencylaw25_most.f, if_neg (by omega), e2]) (Ev.bind (ih m hm) ?_)
    have hl := mst_len y s (x.drop (i + 1)) (fun j => m.testBit j)
    rw [List.length_drop] at hl
    exact most_l0 x y s i hi hx hy m hm ih y.length 0 _ (by omega) (by omega)
end Go.Proofs.YtcehmgmhlmbhnaaDoor.Pure
