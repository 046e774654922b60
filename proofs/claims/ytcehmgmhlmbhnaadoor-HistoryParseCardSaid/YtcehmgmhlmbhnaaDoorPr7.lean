-- Written by a program of this session (wip/tools/drive.py over the kit's print.py) out of the translation.
import Derived.Test.YtcehmgmhlmbhnaaDoorPr0
import Derived.Test.YtcehmgmhlmbhnaaDoorPr3
namespace Go.Proofs.YtcehmgmhlmbhnaaDoor.Pr
open Go.RowKit Go.Proofs.YtcehmgmhlmbhnaaDoorW.PrintWords Go.Proofs.YtcehmgmhlmbhnaaDoorW.PrintLast Go.Proofs.YtcehmgmhlmbhnaaDoorW.PrintMore
attribute [local go_sem] max2_int min2_int max_two min_two max_three min_three max_four min_four   -- for this text's walks alone
set_option linter.unusedVariables false
set_option linter.unusedSimpArgs false

/-! ### history_Format: function 15 -/
def history_Format.l0 : Nat → List (S39) → ByteArray → Int → Option (ByteArray)
  | 0, _, _, _ => none
  | k + 1, x0, x3, x4 => if x4 < (x0.length : Int) then (if 0 ≤ x4 then ((history_line.f k ((rd_T39 x0 x4).f0) ((rd_T39 x0 x4).f1) ((rd_T39 x0 x4).f2) ((rd_T39 x0 x4).f3) ((rd_T39 x0 x4).f4) ((rd_T39 x0 x4).f5)).bind fun bt => (if bt.2 = true then (if x3.size + bt.1.size ≤ 140737488355328 then (history_Format.l0 k x0 (x3 ++ bt.1) (wrap64 (x4 + 1))) else (none)) else (some (⟨#[]⟩ : ByteArray)))) else (none)) else (if (x3.size : Int) > 8192 then (some (⟨#[]⟩ : ByteArray)) else (some x3))
def history_Format.f (k : Nat) (l0 : List (S39)) : Option (ByteArray) := if (l0.length : Int) > 256 then (some (⟨#[]⟩ : ByteArray)) else (history_Format.l0 k l0 (⟨#[]⟩ : ByteArray) 0)
theorem history_Format.mono_l : ∀ k, (∀ y0 y1 y2, LeO (history_Format.l0 k y0 y1 y2) (history_Format.l0 (k + 1) y0 y1 y2))
  | 0 => fun _ _ _ r h => by simp [history_Format.l0] at h
  | k + 1 => by
    have ih0 := history_Format.mono_l k
    · intro y0 y1 y2
      unfold history_Format.l0
      repeat' first
      | (with_reducible exact ih0 _ _ _)
      | (with_reducible exact history_line.mono _ _ _ _ _ _ _)
      | (with_reducible exact LeO.refl _)
      | (with_reducible exact LeO.none _)
      | (with_reducible refine LeO.ite ?_ ?_)
      | (with_reducible refine LeO.bind ?_ (fun _ => ?_))
      | exact ih0 _ _ _
      | exact history_line.mono _ _ _ _ _ _ _
      | exact LeO.none _
      | refine LeO.ite ?_ ?_
      | refine LeO.bind ?_ (fun _ => ?_)
theorem history_Format.mono : ∀ a0 k, LeO (history_Format.f k a0) (history_Format.f (k + 1) a0) := by
  intro a0 k
  have ih0 := history_Format.mono_l k
  unfold history_Format.f
  refine LeO.ite (LeO.refl _) (ih0 _ _ _)
theorem blt_below {T e B b : Nat} {bs : List Value} {w w' : World} (h : Lib.IsBuilder T e B b bs w) (hb : Below w.heap.size w w') : Lib.IsBuilder T e B b bs w' := by
  have one : ∀ p, Lib.BuilderAt T e B b p bs w → Lib.BuilderAt T e B b p bs w' := by
    rintro p ⟨h1, v, h2, h3, h4⟩
    exact ⟨h1, v, (hb.block b (blk_lt h2)).trans h2, pw_own_below h3 hb, h4⟩
  exact h.elim (fun x => .inl (one _ x)) (fun x => .inr (one _ x))
theorem blt_new (w : World) (hg : (w.alloc (.cells #[.pointer none, .slice none 0 0] 70)).heap.size = w.heap.size + 1) : Lib.IsBuilder 70 5 w.heap.size w.heap.size (Lib.strCells ⟨#[]⟩) (w.alloc (.cells #[.pointer none, .slice none 0 0] 70)) := by
  refine .inl ⟨Nat.le_refl _, .slice none 0 0, heap_alloc_new w _, ?_, by simp [Value.ownBlock]⟩
  exact own_nil _ _ _ _
theorem str_app (a b : ByteArray) : Lib.strCells a ++ Lib.strCells b = Lib.strCells (a ++ b) := by simp [Lib.strCells]
theorem str_len (a : ByteArray) : (Lib.strCells a).length = a.size := by simp [Lib.strCells]
theorem str_back (a : ByteArray) : (⟨a.data.toList.toArray⟩ : ByteArray) = a := rfl
theorem wr_str (B b : Nat) (x s : ByteArray) (w : World) (h : Lib.IsBuilder 70 5 B b (Lib.strCells x) w) (hlen : x.size + s.size ≤ 140737488355328) (hBw : B ≤ w.heap.size) :
    Calls Tryd.prog 35 #[.pointer (some ⟨b, 0, none⟩), .string s] w fun e w' => e = .returned (.tuple #[.int .i64 s.size, .nilIface]) ∧ Lib.IsBuilder 70 5 B b (Lib.strCells (x ++ s)) w' ∧ Below B w w' := by
  refine (Any.Builder_WriteString { Tryd.lays156 with } Tryd.Builder_Extra_156 B b (Lib.strCells x) s w h (by rw [str_len]; exact hlen) hBw).mono ?_
  rintro e w' ⟨rfl, h1, h2⟩
  exact ⟨rfl, .inr (by rw [← str_app]; exact h1), h2⟩
theorem len_str (B b : Nat) (x : ByteArray) (w : World) (h : Lib.IsBuilder 70 5 B b (Lib.strCells x) w) :
    Calls Tryd.prog 36 #[.pointer (some ⟨b, 0, none⟩)] w fun e w' => e = .returned (.int .i64 x.size) ∧ w = w' := by
  refine (Tryd.Builder_Len B b (Lib.strCells x) w h).mono ?_
  rintro e w' ⟨rfl, rfl⟩
  exact ⟨by rw [str_len], rfl⟩
theorem all_str (B b : Nat) (x : ByteArray) (w : World) (h : Lib.IsBuilder 70 5 B b (Lib.strCells x) w) (hBw : B ≤ w.heap.size) :
    Calls Tryd.prog 37 #[.pointer (some ⟨b, 0, none⟩)] w fun e w' => e = .returned (.string x) ∧ Below B w w' :=
  (Tryd.Builder_String_any B b x.data.toList w h hBw).mono fun _ _ hh => hh
set_option maxHeartbeats 8000000 in
set_option maxRecDepth 100000 in
theorem history_Format.calls (k : Nat) (A0 : Option Addr) (c0 : Nat) (l0 : List (S39)) (r : ByteArray) (w : World) (hLd : LaidW w) (hr0 : Kd.C k39 w A0 l0.length l0) (hc0 : l0.length ≤ c0) (h : history_Format.f k l0 = some r) :
    Calls Tryd.prog 15 #[.slice A0 l0.length c0] w fun e w' => e = .returned (.string r) ∧ Below w.heap.size w w' := by
  have hu39 := Tryd.underlying39
  have hu70 := Tryd.underlying70
  have HR0 := Aside0.mk hr0
  have HC0 := Aside0.mk hc0
  clear hr0 hc0
  have HLd := Aside0.mk hLd
  clear hLd
  have H : (if (l0.length : Int) > 256 then (some (⟨#[]⟩ : ByteArray)) else (history_Format.l0 k l0 (⟨#[]⟩ : ByteArray) 0)) = some r := h
  clear h
  by_cases c2 : (l0.length : Int) > 256
  · rw [if_pos c2] at H
    have c2b0 : decide (256 < (l0.length : Int)) = true := decide_eq_true c2
    have c2b1 : decide (256 < l0.length) = true := decide_eq_true (by omega)
    clear c2
    obtain rfl := Option.some.inj H
    go_enter Tryd.func15, Tryd.ntmps15
    go_wp2
    go_ret
    exact ⟨rfl, Below.refl _ _⟩
  · rw [if_neg c2] at H
    have c2b0 : decide (256 < (l0.length : Int)) = false := decide_eq_false c2
    have c2b1 : decide (256 < l0.length) = false := decide_eq_false (by omega)
    clear c2
    have H' := Aside0.mk H
    clear H
    go_enter Tryd.func15, Tryd.ntmps15
    go_wp2
    go_loopg [13] k (fun kq v13 w' => ∃ (x3_1 : ByteArray) (x4_1 : Int), v13 = .int .i64 x4_1 ∧ Aside0 (history_Format.l0 kq l0 x3_1 x4_1 = some r) ∧ Aside0 (kq ≤ k) ∧ Aside0 (Lib.IsBuilder 70 5 w.heap.size w.heap.size (Lib.strCells x3_1) w') ∧ Aside0 (Below w.heap.size w w'))
    case atStart => exact ⟨(⟨#[]⟩ : ByteArray), 0, rfl, H', ⟨Nat.le_refl _⟩, ⟨blt_new w (by simp)⟩, ⟨below_alloc (Below.refl _ _) _⟩⟩
    case round =>
      clear H'
      obtain ⟨x3_1, x4_1, rfl, HA, HK1, HBd, HB⟩ := hrel
      cases gk with
      | zero => exact absurd HA.out (by simp [history_Format.l0])
      | succ k1 =>
        have H := HA.out
        clear HA
        simp only [history_Format.l0] at H
        by_cases c3 : x4_1 < (l0.length : Int)
        · rw [if_pos c3] at H
          have c3b0 : decide (x4_1 < (l0.length : Int)) = true := decide_eq_true c3
          by_cases c4 : 0 ≤ x4_1
          · rw [if_pos c4] at H
            replace H := Option.bind_eq_some_iff.mp H
            obtain ⟨⟨t163, t164⟩, A50, H⟩ := H
            replace H : (if t164 = true then (if x3_1.size + t163.size ≤ 140737488355328 then (history_Format.l0 k1 l0 (x3_1 ++ t163) (wrap64 (x4_1 + 1))) else (none)) else (some (⟨#[]⟩ : ByteArray))) = some r := H
            have A5 := Aside0.mk A50
            clear A50
            obtain ⟨ad162, e162, hx162_0, hx162_1, hx162_2, hx162_3, hx162_4, hx162_5⟩ := at_T39 HR0.out x4_1 c4 c3
            cases e162
            replace hx162_0 := (HB.out.cell (World.block_lt_of_cell? w _ hx162_0)).trans hx162_0
            replace hx162_1 := (HB.out.cell (World.block_lt_of_cell? w _ hx162_1)).trans hx162_1
            replace hx162_2 := (HB.out.cell (World.block_lt_of_cell? w _ hx162_2)).trans hx162_2
            replace hx162_3 := (HB.out.cell (World.block_lt_of_cell? w _ hx162_3)).trans hx162_3
            replace hx162_4 := (HB.out.cell (World.block_lt_of_cell? w _ hx162_4)).trans hx162_4
            replace hx162_5 := (HB.out.cell (World.block_lt_of_cell? w _ hx162_5)).trans hx162_5
            have p162 := eq_true c4
            have q162 := eq_true c3
            clear c3 c4
            cases t164 with
            | true =>
              have H1 : (if x3_1.size + t163.size ≤ 140737488355328 then (history_Format.l0 k1 l0 (x3_1 ++ t163) (wrap64 (x4_1 + 1))) else (none)) = some r := by rw [if_pos rfl] at H; exact H
              clear H
              by_cases c7 : x3_1.size + t163.size ≤ 140737488355328
              · rw [if_pos c7] at H1
                have H' := Aside0.mk H1
                have C7 := Aside0.mk c7
                clear H1 c7
                go_wp2_with (first | (go_at_call 34; (with_reducible refine (history_line.calls k1 _ _ _ _ _ _ t163 true _ ?hl A5.out).mono ?_); (case hl => exact LaidW.below HLd.out (by repeat (first | (with_reducible first | exact HB.out | apply below_alloc | apply pw_below_drewN | apply below_drew1) | exact HB.out))); rintro e w8 ⟨rfl, hb⟩; have HBd1 := Aside0.mk (blt_below (blt_below HBd.out (below_alloc (Below.refl _ _) _)) hb); have n0_ := Aside0.mk (below_step (by repeat (first | (with_reducible first | exact HB.out | apply below_alloc | apply pw_below_drewN | apply below_drew1) | exact HB.out)) hb); clear HB; have HB := n0_; clear n0_ hb) | (go_at_call 35; (refine (wr_str w.heap.size w.heap.size x3_1 t163 _ HBd1.out C7.out HB.out.size).mono ?_); rintro e w9 ⟨rfl, hb1, hb2⟩; have HBd2 := Aside0.mk hb1; have n0_ := Aside0.mk (HB.out.trans hb2)))
                go_roundg k1
                case measure => have := HK1.out; omega
                case rel => exact ⟨(x3_1 ++ t163), (wrap64 (x4_1 + 1)), rfl, H', ⟨by have := HK1.out; omega⟩, HBd2, n0_⟩
              · rw [if_neg c7] at H1
                exact absurd H1 (by simp)
            | false =>
              have H1 : (some (⟨#[]⟩ : ByteArray)) = some r := by rw [if_neg (show ¬ (false = true) by decide)] at H; exact H
              clear H
              obtain rfl := Option.some.inj H1
              go_wp2_with (first | (go_at_call 34; (with_reducible refine (history_line.calls k1 _ _ _ _ _ _ t163 false _ ?hl A5.out).mono ?_); (case hl => exact LaidW.below HLd.out (by repeat (first | (with_reducible first | exact HB.out | apply below_alloc | apply pw_below_drewN | apply below_drew1) | exact HB.out))); rintro e w8 ⟨rfl, hb⟩; have n0_ := Aside0.mk (below_step (by repeat (first | (with_reducible first | exact HB.out | apply below_alloc | apply pw_below_drewN | apply below_drew1) | exact HB.out)) hb); clear HB; have HB := n0_; clear n0_ hb))
              go_ret
              exact ⟨rfl, HB.out⟩
          · rw [if_neg c4] at H
            exact absurd H (by simp)
        · rw [if_neg c3] at H
          have c3b0 : decide (x4_1 < (l0.length : Int)) = false := decide_eq_false c3
          clear c3
          by_cases c10 : (x3_1.size : Int) > 8192
          · rw [if_pos c10] at H
            have c10b0 : decide (8192 < (x3_1.size : Int)) = true := decide_eq_true c10
            have c10b1 : decide (8192 < x3_1.size) = true := decide_eq_true (by omega)
            clear c10
            obtain rfl := Option.some.inj H
            go_wp2_with (first | (go_at_call 36; (refine (len_str w.heap.size w.heap.size x3_1 _ HBd.out).mono ?_); rintro e w9 ⟨rfl, rfl⟩))
            go_ret
            exact ⟨rfl, HB.out⟩
          · rw [if_neg c10] at H
            have c10b0 : decide (8192 < (x3_1.size : Int)) = false := decide_eq_false c10
            have c10b1 : decide (8192 < x3_1.size) = false := decide_eq_false (by omega)
            clear c10
            obtain rfl := Option.some.inj H
            go_wp2_with (first | (go_at_call 36; (refine (len_str w.heap.size w.heap.size x3_1 _ HBd.out).mono ?_); rintro e w9 ⟨rfl, rfl⟩) | (go_at_call 37; (refine (all_str w.heap.size w.heap.size x3_1 _ HBd.out HB.out.size).mono ?_); rintro e w9 ⟨rfl, hb2⟩))
            go_ret
            exact ⟨rfl, HB.out.trans hb2⟩

/-! ### strings_Cut: function 40 -/
-- in YtcehmgmhlmbhnaaDoorGive

end Go.Proofs.YtcehmgmhlmbhnaaDoor.Pr
