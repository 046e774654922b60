-- Written by a program of this session (wip/tools/drive.py over the kit's print.py) out of the translation.
import Derived.Test.YtcehmgmhlmbhnaaDoorPr0
namespace Go.Proofs.YtcehmgmhlmbhnaaDoor.Pr
open Go.RowKit Go.Proofs.YtcehmgmhlmbhnaaDoorW.PrintWords Go.Proofs.YtcehmgmhlmbhnaaDoorW.PrintLast Go.Proofs.YtcehmgmhlmbhnaaDoorW.PrintMore
attribute [local go_sem] max2_int min2_int max_two min_two max_three min_three max_four min_four   -- for this text's walks alone
set_option linter.unusedVariables false
set_option linter.unusedSimpArgs false

/-! ### history_days: function 45 -/
def history_days.l0 : Nat → List (S39) → Int → Int → Option (Bool)
  | 0, _, _, _ => none
  | k + 1, x5, x6, x7 => if x7 < x6 then (if 0 ≤ x7 then (if x7 < (x5.length : Int) then (if ((rd_T39 x5 x7).f0) < 0 then (some false) else (if ((rd_T39 x5 x7).f0) > 1048576 then (some false) else (history_days.l0 k x5 x6 (wrap64 (x7 + 1))))) else (none)) else (none)) else (some true)
def history_days.f (k : Nat) (l0 : List (S39)) : Option (Bool) := history_days.l0 k l0 (l0.length : Int) 0
theorem history_days.mono_l : ∀ k, (∀ y0 y1 y2, LeO (history_days.l0 k y0 y1 y2) (history_days.l0 (k + 1) y0 y1 y2))
  | 0 => fun _ _ _ r h => by simp [history_days.l0] at h
  | k + 1 => by
    have ih0 := history_days.mono_l k
    · intro y0 y1 y2
      unfold history_days.l0
      repeat' first
      | (with_reducible exact ih0 _ _ _)
      | (with_reducible exact LeO.refl _)
      | (with_reducible exact LeO.none _)
      | (with_reducible refine LeO.ite ?_ ?_)
      | (with_reducible refine LeO.bind ?_ (fun _ => ?_))
      | exact ih0 _ _ _
      | exact LeO.none _
      | refine LeO.ite ?_ ?_
      | refine LeO.bind ?_ (fun _ => ?_)
theorem history_days.mono : ∀ a0 k, LeO (history_days.f k a0) (history_days.f (k + 1) a0) := by
  intro a0 k
  have ih0 := history_days.mono_l k
  unfold history_days.f
  repeat' first
      | (with_reducible exact ih0 _ _ _)
      | (with_reducible exact LeO.refl _)
      | (with_reducible exact LeO.none _)
      | (with_reducible refine LeO.ite ?_ ?_)
      | (with_reducible refine LeO.bind ?_ (fun _ => ?_))
      | exact ih0 _ _ _
      | exact LeO.none _
      | refine LeO.ite ?_ ?_
      | refine LeO.bind ?_ (fun _ => ?_)
set_option maxHeartbeats 8000000 in
set_option maxRecDepth 100000 in
theorem history_days.calls (k : Nat) (A0 : Option Addr) (c0 : Nat) (l0 : List (S39)) (r : Bool) (w : World) (hr0 : Kd.C k39 w A0 l0.length l0) (hc0 : l0.length ≤ c0) (h : history_days.f k l0 = some r) :
    Calls Tryd.prog 45 #[.slice A0 l0.length c0] w fun e w' => e = .returned (.bool r) ∧ Below w.heap.size w w' := by
  have hu39 := Tryd.underlying39
  have HR0 := Aside0.mk hr0
  have HC0 := Aside0.mk hc0
  clear hr0 hc0
  have HB := Aside0.mk (Below.refl w.heap.size w)
  have H : (history_days.l0 k l0 (l0.length : Int) 0) = some r := h
  clear h
  have H' := Aside0.mk H
  clear H
  go_enter Tryd.func45, Tryd.ntmps45
  go_wp2
  go_loopg [7] k (fun kq v7 w' => ∃ (x7_1 : Int), v7 = .int .i64 x7_1 ∧ Aside0 (history_days.l0 kq l0 (l0.length : Int) x7_1 = some r) ∧ Aside0 (kq ≤ k) ∧ Aside0 (Below w.heap.size w w'))
  case atStart => exact ⟨(0), (by first | rfl | (simp; done) | (simp [*]; done)), H', ⟨Nat.le_refl _⟩, ⟨by repeat (first | (with_reducible first | exact HB.out | apply below_alloc | apply pw_below_drewN | apply below_drew1) | exact HB.out)⟩⟩
  case round =>
    clear H'
    obtain ⟨x7_1, rfl, HA, HK1, HB⟩ := hrel
    cases gk with
    | zero => exact absurd HA.out (by simp [history_days.l0])
    | succ k1 =>
      have H := HA.out
      clear HA
      simp only [history_days.l0] at H
      by_cases c2 : x7_1 < (l0.length : Int)
      · rw [if_pos c2] at H
        have c2b0 : decide (x7_1 < (l0.length : Int)) = true := decide_eq_true c2
        clear c2
        by_cases c3 : 0 ≤ x7_1
        · rw [if_pos c3] at H
          have c3b0 : decide (0 ≤ x7_1) = true := decide_eq_true c3
          clear c3
          by_cases c4 : x7_1 < (l0.length : Int)
          · rw [if_pos c4] at H
            have c4b0 : decide (x7_1 < (l0.length : Int)) = true := decide_eq_true c4
            clear c4
            by_cases c5 : ((rd_T39 l0 x7_1).f0) < 0
            · rw [if_pos c5] at H
              have c5b0 : decide (((rd_T39 l0 x7_1).f0) < 0) = true := decide_eq_true c5
              clear c5
              obtain rfl := Option.some.inj H
              have p331 : 0 ≤ (x7_1 : Int) := of_decide_eq_true (by first | (with_reducible assumption) | assumption)
              have q331 : x7_1 < (l0.length : Int) := of_decide_eq_true (by first | (with_reducible assumption) | assumption)
              obtain ⟨ad331, e331, hx331_0, hx331_1, hx331_2, hx331_3, hx331_4, hx331_5⟩ := at_T39 HR0.out x7_1 p331 q331
              cases e331
              replace hx331_0 := (HB.out.cell (World.block_lt_of_cell? w _ hx331_0)).trans hx331_0
              replace hx331_1 := (HB.out.cell (World.block_lt_of_cell? w _ hx331_1)).trans hx331_1
              replace hx331_2 := (HB.out.cell (World.block_lt_of_cell? w _ hx331_2)).trans hx331_2
              replace hx331_3 := (HB.out.cell (World.block_lt_of_cell? w _ hx331_3)).trans hx331_3
              replace hx331_4 := (HB.out.cell (World.block_lt_of_cell? w _ hx331_4)).trans hx331_4
              replace hx331_5 := (HB.out.cell (World.block_lt_of_cell? w _ hx331_5)).trans hx331_5
              replace p331 := eq_true p331
              replace q331 := eq_true q331
              go_wp2_with (first | ((with_reducible refine gate_dst (N := 4) rfl ?_); refine box_event ?hg (N := 4) ?hd (cs := #[.int .i64 0, .int .i64 0, .int .i64 0, .int .i64 0, .int .i64 0, .int .i64 0]) (t := 39) ?hr ?_; (case hd => rfl); (case hg => rfl); (case hr => first | (go_simp; done) | (go_simp; rfl)); intro gb332 hg w6 hbox hb; have n0_ := Aside0.mk (below_step (by repeat (first | (with_reducible first | exact HB.out | apply below_alloc | apply pw_below_drewN | apply below_drew1) | exact HB.out)) hb); have n1_ := Aside0.mk (hbox); have n2_ := Aside0.mk ((by rw [hg]; exact (below_size (by repeat (first | (with_reducible first | exact HB.out | apply below_alloc | apply pw_below_drewN | apply below_drew1) | exact HB.out))) : w.heap.size ≤ gb332)); have n3_ := Aside0.mk ((by rw [hg]; exact (below_size (by repeat (first | (with_reducible first | exact HB.out | apply below_alloc | apply pw_below_drewN | apply below_drew1) | exact HB.out))) : w.heap.size ≤ gb332)); clear HB; have HB := n0_; have BK332 := n1_; have GW332 := n2_; have GE332 := n3_; clear n0_ n1_ n2_ n3_; clear hb hbox hg; have hcz7_0 : w6.cell? ⟨gb332, 0, none⟩ = some (.int .i64 0) := (blk_cell BK332.out 0).trans rfl; have hcz7_1 : w6.cell? ⟨gb332, 1, none⟩ = some (.int .i64 0) := (blk_cell BK332.out 1).trans rfl; have hcz7_2 : w6.cell? ⟨gb332, 2, none⟩ = some (.int .i64 0) := (blk_cell BK332.out 2).trans rfl; have hcz7_3 : w6.cell? ⟨gb332, 3, none⟩ = some (.int .i64 0) := (blk_cell BK332.out 3).trans rfl; have hcz7_4 : w6.cell? ⟨gb332, 4, none⟩ = some (.int .i64 0) := (blk_cell BK332.out 4).trans rfl; have hcz7_5 : w6.cell? ⟨gb332, 5, none⟩ = some (.int .i64 0) := (blk_cell BK332.out 5).trans rfl; have hfz7_0 := blk_frozen BK332.out 0; have hfz7_1 := blk_frozen BK332.out 1; have hfz7_2 := blk_frozen BK332.out 2; have hfz7_3 := blk_frozen BK332.out 3; have hfz7_4 := blk_frozen BK332.out 4; have hfz7_5 := blk_frozen BK332.out 5))
              go_ret
              exact ⟨by first | rfl | (simp [errW_none, errW_some] <;> rfl) | (simp [*, errW_none, errW_some] <;> rfl), by repeat (first | (with_reducible first | exact HB.out | apply below_alloc | apply pw_below_drewN | apply below_drew1 | refine below_set ?_ GE332.out) | exact HB.out)⟩
            · rw [if_neg c5] at H
              have c5b0 : decide (((rd_T39 l0 x7_1).f0) < 0) = false := decide_eq_false c5
              clear c5
              by_cases c8 : ((rd_T39 l0 x7_1).f0) > 1048576
              · rw [if_pos c8] at H
                have c8b0 : decide (1048576 < ((rd_T39 l0 x7_1).f0)) = true := decide_eq_true c8
                clear c8
                obtain rfl := Option.some.inj H
                have p331 : 0 ≤ (x7_1 : Int) := of_decide_eq_true (by first | (with_reducible assumption) | assumption)
                have q331 : x7_1 < (l0.length : Int) := of_decide_eq_true (by first | (with_reducible assumption) | assumption)
                obtain ⟨ad331, e331, hx331_0, hx331_1, hx331_2, hx331_3, hx331_4, hx331_5⟩ := at_T39 HR0.out x7_1 p331 q331
                cases e331
                replace hx331_0 := (HB.out.cell (World.block_lt_of_cell? w _ hx331_0)).trans hx331_0
                replace hx331_1 := (HB.out.cell (World.block_lt_of_cell? w _ hx331_1)).trans hx331_1
                replace hx331_2 := (HB.out.cell (World.block_lt_of_cell? w _ hx331_2)).trans hx331_2
                replace hx331_3 := (HB.out.cell (World.block_lt_of_cell? w _ hx331_3)).trans hx331_3
                replace hx331_4 := (HB.out.cell (World.block_lt_of_cell? w _ hx331_4)).trans hx331_4
                replace hx331_5 := (HB.out.cell (World.block_lt_of_cell? w _ hx331_5)).trans hx331_5
                replace p331 := eq_true p331
                replace q331 := eq_true q331
                go_wp2_with (first | ((with_reducible refine gate_dst (N := 4) rfl ?_); refine box_event ?hg (N := 4) ?hd (cs := #[.int .i64 0, .int .i64 0, .int .i64 0, .int .i64 0, .int .i64 0, .int .i64 0]) (t := 39) ?hr ?_; (case hd => rfl); (case hg => rfl); (case hr => first | (go_simp; done) | (go_simp; rfl)); intro gb332 hg w9 hbox hb; have n0_ := Aside0.mk (below_step (by repeat (first | (with_reducible first | exact HB.out | apply below_alloc | apply pw_below_drewN | apply below_drew1) | exact HB.out)) hb); have n1_ := Aside0.mk (hbox); have n2_ := Aside0.mk ((by rw [hg]; exact (below_size (by repeat (first | (with_reducible first | exact HB.out | apply below_alloc | apply pw_below_drewN | apply below_drew1) | exact HB.out))) : w.heap.size ≤ gb332)); have n3_ := Aside0.mk ((by rw [hg]; exact (below_size (by repeat (first | (with_reducible first | exact HB.out | apply below_alloc | apply pw_below_drewN | apply below_drew1) | exact HB.out))) : w.heap.size ≤ gb332)); clear HB; have HB := n0_; have BK332 := n1_; have GW332 := n2_; have GE332 := n3_; clear n0_ n1_ n2_ n3_; clear hb hbox hg; have hcz10_0 : w9.cell? ⟨gb332, 0, none⟩ = some (.int .i64 0) := (blk_cell BK332.out 0).trans rfl; have hcz10_1 : w9.cell? ⟨gb332, 1, none⟩ = some (.int .i64 0) := (blk_cell BK332.out 1).trans rfl; have hcz10_2 : w9.cell? ⟨gb332, 2, none⟩ = some (.int .i64 0) := (blk_cell BK332.out 2).trans rfl; have hcz10_3 : w9.cell? ⟨gb332, 3, none⟩ = some (.int .i64 0) := (blk_cell BK332.out 3).trans rfl; have hcz10_4 : w9.cell? ⟨gb332, 4, none⟩ = some (.int .i64 0) := (blk_cell BK332.out 4).trans rfl; have hcz10_5 : w9.cell? ⟨gb332, 5, none⟩ = some (.int .i64 0) := (blk_cell BK332.out 5).trans rfl; have hfz10_0 := blk_frozen BK332.out 0; have hfz10_1 := blk_frozen BK332.out 1; have hfz10_2 := blk_frozen BK332.out 2; have hfz10_3 := blk_frozen BK332.out 3; have hfz10_4 := blk_frozen BK332.out 4; have hfz10_5 := blk_frozen BK332.out 5))
                go_ret
                exact ⟨by first | rfl | (simp [errW_none, errW_some] <;> rfl) | (simp [*, errW_none, errW_some] <;> rfl), by repeat (first | (with_reducible first | exact HB.out | apply below_alloc | apply pw_below_drewN | apply below_drew1 | refine below_set ?_ GE332.out) | exact HB.out)⟩
              · rw [if_neg c8] at H
                have c8b0 : decide (1048576 < ((rd_T39 l0 x7_1).f0)) = false := decide_eq_false c8
                clear c8
                have H' := Aside0.mk H
                clear H
                have p331 : 0 ≤ (x7_1 : Int) := of_decide_eq_true (by first | (with_reducible assumption) | assumption)
                have q331 : x7_1 < (l0.length : Int) := of_decide_eq_true (by first | (with_reducible assumption) | assumption)
                obtain ⟨ad331, e331, hx331_0, hx331_1, hx331_2, hx331_3, hx331_4, hx331_5⟩ := at_T39 HR0.out x7_1 p331 q331
                cases e331
                replace hx331_0 := (HB.out.cell (World.block_lt_of_cell? w _ hx331_0)).trans hx331_0
                replace hx331_1 := (HB.out.cell (World.block_lt_of_cell? w _ hx331_1)).trans hx331_1
                replace hx331_2 := (HB.out.cell (World.block_lt_of_cell? w _ hx331_2)).trans hx331_2
                replace hx331_3 := (HB.out.cell (World.block_lt_of_cell? w _ hx331_3)).trans hx331_3
                replace hx331_4 := (HB.out.cell (World.block_lt_of_cell? w _ hx331_4)).trans hx331_4
                replace hx331_5 := (HB.out.cell (World.block_lt_of_cell? w _ hx331_5)).trans hx331_5
                replace p331 := eq_true p331
                replace q331 := eq_true q331
                go_wp2_with (first | ((with_reducible refine gate_dst (N := 4) rfl ?_); refine box_event ?hg (N := 4) ?hd (cs := #[.int .i64 0, .int .i64 0, .int .i64 0, .int .i64 0, .int .i64 0, .int .i64 0]) (t := 39) ?hr ?_; (case hd => rfl); (case hg => rfl); (case hr => first | (go_simp; done) | (go_simp; rfl)); intro gb332 hg w11 hbox hb; have n0_ := Aside0.mk (below_step (by repeat (first | (with_reducible first | exact HB.out | apply below_alloc | apply pw_below_drewN | apply below_drew1) | exact HB.out)) hb); have n1_ := Aside0.mk (hbox); have n2_ := Aside0.mk ((by rw [hg]; exact (below_size (by repeat (first | (with_reducible first | exact HB.out | apply below_alloc | apply pw_below_drewN | apply below_drew1) | exact HB.out))) : w.heap.size ≤ gb332)); have n3_ := Aside0.mk ((by rw [hg]; exact (below_size (by repeat (first | (with_reducible first | exact HB.out | apply below_alloc | apply pw_below_drewN | apply below_drew1) | exact HB.out))) : w.heap.size ≤ gb332)); clear HB; have HB := n0_; have BK332 := n1_; have GW332 := n2_; have GE332 := n3_; clear n0_ n1_ n2_ n3_; clear hb hbox hg; have hcz12_0 : w11.cell? ⟨gb332, 0, none⟩ = some (.int .i64 0) := (blk_cell BK332.out 0).trans rfl; have hcz12_1 : w11.cell? ⟨gb332, 1, none⟩ = some (.int .i64 0) := (blk_cell BK332.out 1).trans rfl; have hcz12_2 : w11.cell? ⟨gb332, 2, none⟩ = some (.int .i64 0) := (blk_cell BK332.out 2).trans rfl; have hcz12_3 : w11.cell? ⟨gb332, 3, none⟩ = some (.int .i64 0) := (blk_cell BK332.out 3).trans rfl; have hcz12_4 : w11.cell? ⟨gb332, 4, none⟩ = some (.int .i64 0) := (blk_cell BK332.out 4).trans rfl; have hcz12_5 : w11.cell? ⟨gb332, 5, none⟩ = some (.int .i64 0) := (blk_cell BK332.out 5).trans rfl; have hfz12_0 := blk_frozen BK332.out 0; have hfz12_1 := blk_frozen BK332.out 1; have hfz12_2 := blk_frozen BK332.out 2; have hfz12_3 := blk_frozen BK332.out 3; have hfz12_4 := blk_frozen BK332.out 4; have hfz12_5 := blk_frozen BK332.out 5))
                go_roundg k1
                case measure => have := HK1.out; omega
                case rel => exact ⟨(wrap64 (x7_1 + 1)), (by first | rfl | (simp; done) | (simp [*]; done)), H', ⟨by have := HK1.out; omega⟩, ⟨by repeat (first | (with_reducible first | exact HB.out | apply below_alloc | apply pw_below_drewN | apply below_drew1 | refine below_set ?_ GE332.out) | exact HB.out)⟩⟩
          · rw [if_neg c4] at H
            exact absurd H (by simp)
        · rw [if_neg c3] at H
          exact absurd H (by simp)
      · rw [if_neg c2] at H
        have c2b0 : decide (x7_1 < (l0.length : Int)) = false := decide_eq_false c2
        clear c2
        obtain rfl := Option.some.inj H
        go_wp2
        go_ret
        exact ⟨by first | rfl | (simp [errW_none, errW_some] <;> rfl) | (simp [*, errW_none, errW_some] <;> rfl), by repeat (first | (with_reducible first | exact HB.out | apply below_alloc | apply pw_below_drewN | apply below_drew1) | exact HB.out)⟩

/-! ### history_ordered: function 46 -/
def history_ordered.l0 : Nat → List (S39) → Int → Option (Int)
  | 0, _, _ => none
  | k + 1, x0, x3 => if x3 < (x0.length : Int) then (if 0 ≤ x3 then (if 0 ≤ (wrap64 (x3 - 1)) then (if (wrap64 (x3 - 1)) < (x0.length : Int) then (if ((rd_T39 x0 x3).f0) < ((rd_T39 x0 (wrap64 (x3 - 1))).f0) then (some 15) else (history_ordered.l0 k x0 (wrap64 (x3 + 1)))) else (none)) else (none)) else (none)) else (some 0)
def history_ordered.f (k : Nat) (l0 : List (S39)) : Option (Int) := history_ordered.l0 k l0 1
theorem history_ordered.mono_l : ∀ k, (∀ y0 y1, LeO (history_ordered.l0 k y0 y1) (history_ordered.l0 (k + 1) y0 y1))
  | 0 => fun _ _ r h => by simp [history_ordered.l0] at h
  | k + 1 => by
    have ih0 := history_ordered.mono_l k
    · intro y0 y1
      unfold history_ordered.l0
      repeat' first
      | (with_reducible exact ih0 _ _)
      | (with_reducible exact LeO.refl _)
      | (with_reducible exact LeO.none _)
      | (with_reducible refine LeO.ite ?_ ?_)
      | (with_reducible refine LeO.bind ?_ (fun _ => ?_))
      | exact ih0 _ _
      | exact LeO.none _
      | refine LeO.ite ?_ ?_
      | refine LeO.bind ?_ (fun _ => ?_)
theorem history_ordered.mono : ∀ a0 k, LeO (history_ordered.f k a0) (history_ordered.f (k + 1) a0) := by
  intro a0 k
  have ih0 := history_ordered.mono_l k
  unfold history_ordered.f
  repeat' first
      | (with_reducible exact ih0 _ _)
      | (with_reducible exact LeO.refl _)
      | (with_reducible exact LeO.none _)
      | (with_reducible refine LeO.ite ?_ ?_)
      | (with_reducible refine LeO.bind ?_ (fun _ => ?_))
      | exact ih0 _ _
      | exact LeO.none _
      | refine LeO.ite ?_ ?_
      | refine LeO.bind ?_ (fun _ => ?_)
set_option maxHeartbeats 8000000 in
set_option maxRecDepth 100000 in
theorem history_ordered.calls (k : Nat) (A0 : Option Addr) (c0 : Nat) (l0 : List (S39)) (r : Int) (w : World) (hr0 : Kd.C k39 w A0 l0.length l0) (hc0 : l0.length ≤ c0) (h : history_ordered.f k l0 = some r) :
    Calls Tryd.prog 46 #[.slice A0 l0.length c0] w fun e w' => e = .returned (.int .i64 r) ∧ Drawn0 w w' := by
  have HR0 := Aside0.mk hr0
  have HC0 := Aside0.mk hc0
  clear hr0 hc0
  have H : (history_ordered.l0 k l0 1) = some r := h
  clear h
  have H' := Aside0.mk H
  clear H
  go_enter Tryd.func46, Tryd.ntmps46
  go_wp2
  repeat (go_quiet (fail); try go_wp2)
  go_loopg [3] k (fun kq v3 w' => ∃ (x3_1 : Int), v3 = .int .i64 x3_1 ∧ Aside0 (history_ordered.l0 kq l0 x3_1 = some r) ∧ Aside0 (kq ≤ k) ∧ Drawn0 w w')
  case atStart => exact ⟨(1), (by first | rfl | (simp; done) | (simp [*]; done)), H', ⟨Nat.le_refl _⟩, by repeat (first | exact Drawn0.refl _ | apply Drawn0.step)⟩
  case round =>
    clear H'
    obtain ⟨x3_1, rfl, HA, HK1, ⟨m1, rfl⟩⟩ := hrel
    cases gk with
    | zero => exact absurd HA.out (by simp [history_ordered.l0])
    | succ k1 =>
      have H := HA.out
      clear HA
      simp only [history_ordered.l0] at H
      by_cases c2 : x3_1 < (l0.length : Int)
      · rw [if_pos c2] at H
        have c2b0 : decide (x3_1 < (l0.length : Int)) = true := decide_eq_true c2
        clear c2
        by_cases c3 : 0 ≤ x3_1
        · rw [if_pos c3] at H
          have c3b0 : decide (0 ≤ x3_1) = true := decide_eq_true c3
          clear c3
          obtain ⟨ji4, hji4⟩ : ∃ j_ : Int, (wrap64 (x3_1 - 1)) = j_ := ⟨_, rfl⟩
          replace H : (if 0 ≤ (ji4) then (if (ji4) < (l0.length : Int) then (if ((rd_T39 l0 x3_1).f0) < ((rd_T39 l0 (ji4)).f0) then (some 15) else (history_ordered.l0 k1 l0 (wrap64 (x3_1 + 1)))) else (none)) else (none)) = some r := by first | (rw [hji4] at H; exact H) | (simp only [hji4] at H ⊢; exact H)
          have hji4w : (IntKind.i64.wrap (x3_1 - 1)) = ji4 := (i64_w _).trans hji4
          by_cases c5 : 0 ≤ (ji4)
          · rw [if_pos c5] at H
            have c5b0 : decide (0 ≤ (ji4)) = true := decide_eq_true c5
            clear c5
            by_cases c6 : (ji4) < (l0.length : Int)
            · rw [if_pos c6] at H
              have c6b0 : decide ((ji4) < (l0.length : Int)) = true := decide_eq_true c6
              clear c6
              by_cases c7 : ((rd_T39 l0 x3_1).f0) < ((rd_T39 l0 (ji4)).f0)
              · rw [if_pos c7] at H
                have c7b0 : decide (((rd_T39 l0 x3_1).f0) < ((rd_T39 l0 (ji4)).f0)) = true := decide_eq_true c7
                clear c7
                obtain rfl := Option.some.inj H
                have p333 : 0 ≤ (x3_1 : Int) := of_decide_eq_true (by first | (with_reducible assumption) | assumption)
                have q333 : x3_1 < (l0.length : Int) := of_decide_eq_true (by first | (with_reducible assumption) | assumption)
                obtain ⟨ad333, e333, hx333_0, hx333_1, hx333_2, hx333_3, hx333_4, hx333_5⟩ := at_T39 HR0.out x3_1 p333 q333
                cases e333
                replace p333 := eq_true p333
                replace q333 := eq_true q333
                have p334 : 0 ≤ ((ji4) : Int) := of_decide_eq_true (by first | (with_reducible assumption) | assumption)
                have q334 : (ji4) < (l0.length : Int) := of_decide_eq_true (by first | (with_reducible assumption) | assumption)
                obtain ⟨ad334, e334, hx334_0, hx334_1, hx334_2, hx334_3, hx334_4, hx334_5⟩ := at_T39 HR0.out (ji4) p334 q334
                obtain rfl : ad333 = ad334 := (by injection e334)
                replace p334 := eq_true p334
                replace q334 := eq_true q334
                go_wp2
                repeat (go_quiet (fail); try go_wp2)
                go_ret
                exact ⟨by first | rfl | (simp; done) | (simp only [← hji4] <;> (first | rfl | simp)) | (simp [*]; done), by repeat (first | exact Drawn0.refl _ | apply Drawn0.step)⟩
              · rw [if_neg c7] at H
                have c7b0 : decide (((rd_T39 l0 x3_1).f0) < ((rd_T39 l0 (ji4)).f0)) = false := decide_eq_false c7
                clear c7
                have H' := Aside0.mk H
                clear H
                have p333 : 0 ≤ (x3_1 : Int) := of_decide_eq_true (by first | (with_reducible assumption) | assumption)
                have q333 : x3_1 < (l0.length : Int) := of_decide_eq_true (by first | (with_reducible assumption) | assumption)
                obtain ⟨ad333, e333, hx333_0, hx333_1, hx333_2, hx333_3, hx333_4, hx333_5⟩ := at_T39 HR0.out x3_1 p333 q333
                cases e333
                replace p333 := eq_true p333
                replace q333 := eq_true q333
                have p334 : 0 ≤ ((ji4) : Int) := of_decide_eq_true (by first | (with_reducible assumption) | assumption)
                have q334 : (ji4) < (l0.length : Int) := of_decide_eq_true (by first | (with_reducible assumption) | assumption)
                obtain ⟨ad334, e334, hx334_0, hx334_1, hx334_2, hx334_3, hx334_4, hx334_5⟩ := at_T39 HR0.out (ji4) p334 q334
                obtain rfl : ad333 = ad334 := (by injection e334)
                replace p334 := eq_true p334
                replace q334 := eq_true q334
                go_wp2
                repeat (go_quiet (fail); try go_wp2)
                go_roundg k1
                case measure => have := HK1.out; omega
                case rel => exact ⟨(wrap64 (x3_1 + 1)), (by first | rfl | (simp; done) | (simp [*]; done)), H', ⟨by have := HK1.out; omega⟩, by repeat (first | exact Drawn0.refl _ | apply Drawn0.step)⟩
            · rw [if_neg c6] at H
              exact absurd H (by simp)
          · rw [if_neg c5] at H
            exact absurd H (by simp)
        · rw [if_neg c3] at H
          exact absurd H (by simp)
      · rw [if_neg c2] at H
        have c2b0 : decide (x3_1 < (l0.length : Int)) = false := decide_eq_false c2
        clear c2
        obtain rfl := Option.some.inj H
        go_wp2
        repeat (go_quiet (fail); try go_wp2)
        go_ret
        exact ⟨by first | rfl | (simp; done) | (simp [*]; done), by repeat (first | exact Drawn0.refl _ | apply Drawn0.step)⟩

end Go.Proofs.YtcehmgmhlmbhnaaDoor.Pr
