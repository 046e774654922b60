/-
  The library's functions strings.Split, strings.Cut, strings.Join and strconv.FormatInt as plain Lean functions, each with the contract that a call returns just that: out of the kit's shelf of contracts.
-/
import Derived.Test.YtcehmgmhlmbhnaaDoorLaid
import Derived.Test.YtcehmgmhlmbhnaaDoorK0
import Derived.Lib.SplitLaws
namespace Go.Proofs.YtcehmgmhlmbhnaaDoor.Pr
open Go.RowKit Go.Proofs.YtcehmgmhlmbhnaaDoorW.PrintWords Go.Proofs.YtcehmgmhlmbhnaaDoorW.PrintLast Go.Proofs.YtcehmgmhlmbhnaaDoorW.PrintMore

theorem reps_map {α : Type} (enc : α → Value) (R : α → List Value → Prop) (hR : ∀ x, R x [enc x]) (xs : List α) : Reps R 1 xs (xs.map enc) := by
  refine ⟨by simp, fun j p hj => ?_⟩
  have hl : j < xs.length := (List.getElem?_eq_some_iff.1 hj).1
  have : ((xs.map enc).drop (j * 1)).take 1 = [enc p] := by
    rw [Nat.mul_one, List.drop_eq_getElem_cons (by simpa using hl)]
    have h2 := (List.getElem?_eq_some_iff.1 hj).2
    simp [h2]
  rw [this]
  exact hR p
theorem h_own {α : Type} (W : World) (e : Nat) (xs : List α) (enc : α → Value) (hm : xs.length ≤ maxLen) : (W.alloc (.cells (xs.map enc).toArray e)).ownsRow W.heap.size e 1 (.slice (some ⟨W.heap.size, 0, none⟩) xs.length xs.length) xs.length (xs.map enc) := by
  have := World.ownsRow_lit (base := W.heap.size) (e := e) (size := 1) W (xs.map enc).toArray xs.length (Nat.le_refl _) hm (by simp)
  exact this
/-- A block that was just laid, of one cell an element, is a row of the call's own. -/
theorem R_block {α : Type} (enc : α → Value) (h1 : ∀ x, (enc x).oneCell' = true) (W : World) (e : Nat) (xs : List α) (hm : xs.length ≤ maxLen) :
    Kd.R (Kd.scalar enc h1) e (W.alloc (.cells (xs.map enc).toArray e)) W.heap.size (fun _ => True) (.slice (some ⟨W.heap.size, 0, none⟩) xs.length xs.length) xs := by
  refine ⟨fun _ _ => trivial, xs.map enc, ?_, ?_⟩
  · exact h_own W e xs enc hm
  · exact reps_map enc (fun x cs => cs = [enc x]) (fun _ => rfl) xs
theorem spot_none {w : World} {a : Addr} {v : Value} (h : w.cell? a = some v) : a = ⟨a.block, a.off, none⟩ := by
  obtain ⟨b, o, s⟩ := a
  cases s with
  | none => rfl
  | some s =>
    unfold World.cell? at h
    split at h
    · simp at h
    · cases h
theorem add_off (b o j : Nat) : (⟨b, o, none⟩ : Addr).add j = ⟨b, o + j, none⟩ := by unfold Addr.add; split <;> simp_all

theorem settle6 {w W : World} {g t : Nat} {c0 c1 c2 c3 c4 c5 : Value} (hB : Below w.heap.size w W) (hg : w.heap.size ≤ g) (hb : W.heap[g]? = some (.cells #[c0, c1, c2, c3, c4, c5] t (0, 0))) (v0 v1 v2 v3 v4 v5 : Value) :
    ((((((((W.setCell ⟨g, 0, none⟩ v0).setCell ⟨g, 1, none⟩ v1).setCell ⟨g, 2, none⟩ v2).setCell ⟨g, 3, none⟩ v3).setCell ⟨g, 4, none⟩ v4).setCell ⟨g, 5, none⟩ v5).heap[g]? = some (.cells #[v0, v1, v2, v3, v4, v5] t (0, 0)) ∧
      Below w.heap.size w ((((((W.setCell ⟨g, 0, none⟩ v0).setCell ⟨g, 1, none⟩ v1).setCell ⟨g, 2, none⟩ v2).setCell ⟨g, 3, none⟩ v3).setCell ⟨g, 4, none⟩ v4).setCell ⟨g, 5, none⟩ v5)) ∧
      ∀ k, k ≠ g → ((((((W.setCell ⟨g, 0, none⟩ v0).setCell ⟨g, 1, none⟩ v1).setCell ⟨g, 2, none⟩ v2).setCell ⟨g, 3, none⟩ v3).setCell ⟨g, 4, none⟩ v4).setCell ⟨g, 5, none⟩ v5).heap[k]? = W.heap[k]?) := by
  refine ⟨⟨?_, ?_⟩, fun k hk => ?_⟩
  · refine blk_put (cs := #[v0, v1, v2, v3, v4, c5]) ?_ 5 _ rfl
    refine blk_put (cs := #[v0, v1, v2, v3, c4, c5]) ?_ 4 _ rfl
    refine blk_put (cs := #[v0, v1, v2, c3, c4, c5]) ?_ 3 _ rfl
    refine blk_put (cs := #[v0, v1, c2, c3, c4, c5]) ?_ 2 _ rfl
    refine blk_put (cs := #[v0, c1, c2, c3, c4, c5]) ?_ 1 _ rfl
    refine blk_put (cs := #[c0, c1, c2, c3, c4, c5]) ?_ 0 _ rfl
    exact hb
  · exact (((((hB.setCell (p := ⟨g, 0, none⟩) hg _).setCell (p := ⟨g, 1, none⟩) hg _).setCell (p := ⟨g, 2, none⟩) hg _).setCell (p := ⟨g, 3, none⟩) hg _).setCell (p := ⟨g, 4, none⟩) hg _).setCell (p := ⟨g, 5, none⟩) hg _
  · rw [Below.heap_setCell _ _ _ _ (by exact hk), Below.heap_setCell _ _ _ _ (by exact hk), Below.heap_setCell _ _ _ _ (by exact hk), Below.heap_setCell _ _ _ _ (by exact hk), Below.heap_setCell _ _ _ _ (by exact hk), Below.heap_setCell _ _ _ _ (by exact hk)]
/-- strings.Split. -/
def strings_Split.f (a0 a1 : ByteArray) : Option (List ByteArray) :=
  if a0.size < 4294967281 then (if 1 ≤ a1.size then some (Lib.splitB a1 0 (Lib.countB a0 a1) a0) else none) else none
theorem strings_Split.calls (a0 : ByteArray) (a1 : ByteArray) (r : List ByteArray) (w : World) (hLd : LaidW w) (h : strings_Split.f a0 a1 = some r) :
    Calls Tryd.prog 57 #[.string a0, .string a1] w fun e w' => ∃ v0_ : Value, e = .returned (v0_) ∧ Kd.R Kd.string 9 w' w.heap.size (fun _ => True) v0_ r ∧ Below w.heap.size w w' := by
  unfold strings_Split.f at h
  by_cases hs : a0.size < 4294967281
  · rw [if_pos hs] at h
    by_cases h1 : 1 ≤ a1.size
    · rw [if_pos h1] at h
      obtain rfl := Option.some.inj h
      obtain ⟨m, hm⟩ := hLd.max_
      have hl := Lib.splitB_all a1 h1 0 (Lib.countB a0 a1) a0 rfl
      have hc := Lib.countB_le a1 h1 a0.size a0 (Nat.le_refl _)
      refine (Tryd.strings_Split a0 a1 m w hs hm h1).mono ?_
      rintro e w' ⟨rfl, rfl⟩
      refine ⟨_, rfl, ?_, below_alloc (Below.refl _ _) _⟩
      have := R_block Value.string (fun _ => rfl) w 9 (Lib.splitB a1 0 (Lib.countB a0 a1) a0) (by rw [hl]; unfold maxLen; omega)
      rw [hl] at this
      exact this
    · rw [if_neg h1] at h; cases h
  · rw [if_neg hs] at h; cases h

/-- strings.Cut. -/
def strings_Cut.f (a0 a1 : ByteArray) : Option (ByteArray × ByteArray × Bool) :=
  if a0.size < 4294967281 then some (⟨(Lib.cut a0.data.toList a1.data.toList).1.toArray⟩, ⟨(Lib.cut a0.data.toList a1.data.toList).2.1.toArray⟩, (Lib.cut a0.data.toList a1.data.toList).2.2) else none
theorem strings_Cut.calls (a0 : ByteArray) (a1 : ByteArray) (r1 : ByteArray) (r2 : ByteArray) (r3 : Bool) (w : World) (hLd : LaidW w) (h : strings_Cut.f a0 a1 = some (r1, r2, r3)) :
    Calls Tryd.prog 40 #[.string a0, .string a1] w fun e w' => e = .returned (.tuple #[.string r1, .string r2, .bool r3]) ∧ Below w.heap.size w w' := by
  unfold strings_Cut.f at h
  by_cases hs : a0.size < 4294967281
  · rw [if_pos hs] at h
    simp only [Option.some.injEq, Prod.mk.injEq] at h
    obtain ⟨rfl, rfl, rfl⟩ := h
    obtain ⟨m, hm⟩ := hLd.max_
    refine (Tryd.strings_Cut a0 a1 m w hs hm).mono ?_
    rintro e w' ⟨rfl, n, rfl⟩
    exact ⟨rfl, (Drawn0.mk ⟨n, rfl⟩ : Drawn0 w _).below⟩
  · rw [if_neg hs] at h; cases h

/-- strings.Join. -/
def strings_Join.f (l0 : List ByteArray) (a1 : ByteArray) : Option ByteArray :=
  if l0.length ≤ 140737488355328 then (if (Lib.join (l0.map (·.data.toList)) a1.data.toList).length ≤ 140737488355328 then some ⟨(Lib.join (l0.map (·.data.toList)) a1.data.toList).toArray⟩ else none) else none
theorem strings_Join.calls (A0 : Option Addr) (c0 : Nat) (l0 : List ByteArray) (a1 : ByteArray) (r : ByteArray) (w : World) (hr0 : Kd.C Kd.string w A0 l0.length l0) (hc0 : l0.length ≤ c0) (h : strings_Join.f l0 a1 = some r) :
    Calls Tryd.prog 52 #[.slice A0 l0.length c0, .string a1] w fun e w' => e = .returned (.string r) ∧ Below w.heap.size w w' := by
  unfold strings_Join.f at h
  by_cases h0 : l0.length ≤ 140737488355328
  · rw [if_pos h0] at h
    by_cases h1 : (Lib.join (l0.map (·.data.toList)) a1.data.toList).length ≤ 140737488355328
    · rw [if_pos h1] at h
      obtain rfl := Option.some.inj h
      cases l0 with
      | nil =>
        refine (Tryd.strings_Join_none A0 c0 a1 w).mono ?_
        rintro e w' ⟨rfl, rfl⟩
        exact ⟨rfl, Below.refl _ _⟩
      | cons x t =>
        obtain ⟨ad, rfl, hc⟩ := hr0.2.2 (by simp)
        have hcell : ∀ (j : Nat) y, (x :: t)[j]? = some y → w.cell? (ad.add j) = some (.string y) := by
          intro j y hy
          obtain ⟨c, _, hk, hcc⟩ := hc j y hy
          have hk' : c = [.string y] := hk
          subst hk'
          have := hcc 0 (.string y) rfl
          simpa [show Kd.string.sz = 1 from rfl] using this
        have h00 := hcell 0 x rfl
        have hsp : ad = ⟨ad.block, ad.off, none⟩ := by
          have : ad.add 0 = ad := rfl
          rw [this] at h00
          exact spot_none h00
        generalize hb : ad.block = b at hsp
        generalize ho : ad.off = o at hsp
        subst hsp
        refine (Tryd.strings_Join b o c0 (x :: t) a1 w (fun j y hy => by rw [← add_off]; exact hcell j y hy) ?_ h0 hc0 h1).mono ?_
        · exact World.block_lt_of_cell? w ⟨b, o, none⟩ h00
        · rintro e w' ⟨rfl, hb⟩
          exact ⟨rfl, hb⟩
    · rw [if_neg h1] at h; cases h
  · rw [if_neg h0] at h; cases h

/-- strconv.FormatInt at base 10. -/
def strconv_FormatInt.f (a0 a1 : Int) : Option ByteArray :=
  if a1 = 10 then (if -9223372036854775808 ≤ a0 then (if a0 ≤ 9223372036854775807 then some ⟨(Lib.itoa a0).toArray⟩ else none) else none) else none
theorem strconv_FormatInt.calls (a0 : Int) (a1 : Int) (r : ByteArray) (w : World) (hLd : LaidW w) (h : strconv_FormatInt.f a0 a1 = some r) :
    Calls Tryd.prog 60 #[.int .i64 a0, .int .i64 a1] w fun e w' => e = .returned (.string r) ∧ Below w.heap.size w w' := by
  unfold strconv_FormatInt.f at h
  by_cases h0 : a1 = 10
  · rw [if_pos h0] at h
    by_cases h1 : -9223372036854775808 ≤ a0
    · rw [if_pos h1] at h
      by_cases h2 : a0 ≤ 9223372036854775807
      · rw [if_pos h2] at h
        obtain rfl := Option.some.inj h
        subst h0
        refine (Tryd.strconv_FormatInt_10 a0 h1 h2 w hLd.pow_).mono ?_
        rintro e w' ⟨rfl, k, os, rfl⟩
        exact ⟨rfl, ⟨rfl, rfl, rfl, (by show w.heap.size ≤ (w.heap ++ os).size; rw [Array.size_append]; omega), fun i hi => (by show (w.heap ++ os)[i]? = w.heap[i]?; exact Array.getElem?_append_left hi)⟩⟩
      · rw [if_neg h2] at h; cases h
    · rw [if_neg h1] at h; cases h
  · rw [if_neg h0] at h; cases h
end Go.Proofs.YtcehmgmhlmbhnaaDoor.Pr
