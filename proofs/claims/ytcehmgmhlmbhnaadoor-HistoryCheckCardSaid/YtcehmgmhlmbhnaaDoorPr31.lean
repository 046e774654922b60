-- Written by a program of this session (wip/tools/drive.py over the kit's print.py) out of the translation.
import Derived.Test.YtcehmgmhlmbhnaaDoorPr0
import Derived.Test.YtcehmgmhlmbhnaaDoorPr30
namespace Go.Proofs.YtcehmgmhlmbhnaaDoor.Pr
open Go.RowKit Go.Proofs.YtcehmgmhlmbhnaaDoorW.PrintWords Go.Proofs.YtcehmgmhlmbhnaaDoorW.PrintLast Go.Proofs.YtcehmgmhlmbhnaaDoorW.PrintMore
attribute [local go_sem] max2_int min2_int max_two min_two max_three min_three max_four min_four   -- for this text's walks alone
set_option linter.unusedVariables false
set_option linter.unusedSimpArgs false

/-! ### history_Check: function 26 -/
def history_Check.l0 : Nat → Int → Int → List (S39) → Int → Int → Option (Int)
  | 0, _, _, _, _, _ => none
  | k + 1, x0, x5, x12, x13, x14 => if x14 < x13 then (if 0 ≤ x14 then (if x14 < (x12.length : Int) then ((history_checkRow.f k x0 ((rd_T39 x12 x14).f0) ((rd_T39 x12 x14).f1) ((rd_T39 x12 x14).f2) ((rd_T39 x12 x14).f3) ((rd_T39 x12 x14).f4) ((rd_T39 x12 x14).f5) x5).bind fun t298 => (if t298 = 0 then (history_Check.l0 k x0 ((rd_T39 x12 x14).f0) x12 x13 (wrap64 (x14 + 1))) else (some t298))) else (none)) else (none)) else (some 0)
def history_Check.f (k : Nat) (a0 : Int) (l1 : List (S39)) : Option (Int) := if (l1.length : Int) > 256 then (some 2) else (history_Check.l0 k a0 0 l1 (l1.length : Int) 0)
theorem history_Check.mono_l : ∀ k, (∀ y0 y1 y2 y3 y4, LeO (history_Check.l0 k y0 y1 y2 y3 y4) (history_Check.l0 (k + 1) y0 y1 y2 y3 y4))
  | 0 => fun _ _ _ _ _ r h => by simp [history_Check.l0] at h
  | k + 1 => by
    have ih0 := history_Check.mono_l k
    · intro y0 y1 y2 y3 y4
      unfold history_Check.l0
      repeat' first
      | (with_reducible exact ih0 _ _ _ _ _)
      | (with_reducible exact history_checkRow.mono _ _ _ _ _ _ _ _ _)
      | (with_reducible exact LeO.refl _)
      | (with_reducible exact LeO.none _)
      | (with_reducible refine LeO.ite ?_ ?_)
      | (with_reducible refine LeO.bind ?_ (fun _ => ?_))
      | exact ih0 _ _ _ _ _
      | exact history_checkRow.mono _ _ _ _ _ _ _ _ _
      | exact LeO.none _
      | refine LeO.ite ?_ ?_
      | refine LeO.bind ?_ (fun _ => ?_)
theorem history_Check.mono : ∀ a0 a1 k, LeO (history_Check.f k a0 a1) (history_Check.f (k + 1) a0 a1) := by
  intro a0 a1 k
  have ih0 := history_Check.mono_l k
  unfold history_Check.f
  repeat' first
      | (with_reducible exact ih0 _ _ _ _ _)
      | (with_reducible exact history_checkRow.mono _ _ _ _ _ _ _ _ _)
      | (with_reducible exact LeO.refl _)
      | (with_reducible exact LeO.none _)
      | (with_reducible refine LeO.ite ?_ ?_)
      | (with_reducible refine LeO.bind ?_ (fun _ => ?_))
      | exact ih0 _ _ _ _ _
      | exact history_checkRow.mono _ _ _ _ _ _ _ _ _
      | exact LeO.none _
      | refine LeO.ite ?_ ?_
      | refine LeO.bind ?_ (fun _ => ?_)
set_option maxHeartbeats 8000000 in
set_option maxRecDepth 100000 in
theorem history_Check.calls (k : Nat) (a0 : Int) (A1 : Option Addr) (c1 : Nat) (l1 : List (S39)) (r : Int) (w : World) (hr1 : Kd.C k39 w A1 l1.length l1) (hc1 : l1.length ≤ c1) (h : history_Check.f k a0 l1 = some r) :
    Calls Tryd.prog 26 #[.int .i64 a0, .slice A1 l1.length c1] w fun e w' => e = .returned (.int .i64 r) ∧ Below w.heap.size w w' := by
  have hu39 := Tryd.underlying39
  have HR1 := Aside0.mk hr1
  have HC1 := Aside0.mk hc1
  clear hr1 hc1
  have HB := Aside0.mk (Below.refl w.heap.size w)
  have H : (if (l1.length : Int) > 256 then (some 2) else (history_Check.l0 k a0 0 l1 (l1.length : Int) 0)) = some r := h
  clear h
  by_cases c3 : (l1.length : Int) > 256
  · rw [if_pos c3] at H
    have c3b0 : decide (256 < (l1.length : Int)) = true := decide_eq_true c3
    have c3b1 : decide (256 < l1.length) = true := decide_eq_true (by omega)
    clear c3
    obtain rfl := Option.some.inj H
    go_enter Tryd.func26, Tryd.ntmps26
    go_wp2
    go_ret
    exact ⟨by first | rfl | (simp [errW_none, errW_some] <;> rfl) | (simp [*, errW_none, errW_some] <;> rfl), by repeat (first | (with_reducible first | exact HB.out | apply below_alloc | apply pw_below_drewN | apply below_drew1) | exact HB.out)⟩
  · rw [if_neg c3] at H
    have c3b0 : decide (256 < (l1.length : Int)) = false := decide_eq_false c3
    have c3b1 : decide (256 < l1.length) = false := decide_eq_false (by omega)
    clear c3
    have H' := Aside0.mk H
    clear H
    go_enter Tryd.func26, Tryd.ntmps26
    go_wp2
    go_loopg [5, 14] k (fun kq v5 v14 w' => ∃ (x5_1 : Int) (x14_1 : Int), v5 = .int .i64 x5_1 ∧ v14 = .int .i64 x14_1 ∧ Aside0 (history_Check.l0 kq a0 x5_1 l1 (l1.length : Int) x14_1 = some r) ∧ Aside0 (kq ≤ k) ∧ Aside0 (Below w.heap.size w w'))
    case atStart => exact ⟨(0), (0), (by first | rfl | (simp; done) | (simp [*]; done)), (by first | rfl | (simp; done) | (simp [*]; done)), H', ⟨Nat.le_refl _⟩, ⟨by repeat (first | (with_reducible first | exact HB.out | apply below_alloc | apply pw_below_drewN | apply below_drew1) | exact HB.out)⟩⟩
    case round =>
      clear H'
      try clear c1
      try clear c2
      try clear p2
      try clear c3
      try clear c3b0
      try clear c3b1
      obtain ⟨x5_1, x14_1, rfl, rfl, HA, HK1, HB⟩ := hrel
      cases gk with
      | zero => exact absurd HA.out (by simp [history_Check.l0])
      | succ k1 =>
        have H := HA.out
        clear HA
        simp only [history_Check.l0] at H
        by_cases c4 : x14_1 < (l1.length : Int)
        · rw [if_pos c4] at H
          have c4b0 : decide (x14_1 < (l1.length : Int)) = true := decide_eq_true c4
          clear c4
          by_cases c5 : 0 ≤ x14_1
          · rw [if_pos c5] at H
            have c5b0 : decide (0 ≤ x14_1) = true := decide_eq_true c5
            clear c5
            by_cases c6 : x14_1 < (l1.length : Int)
            · rw [if_pos c6] at H
              have c6b0 : decide (x14_1 < (l1.length : Int)) = true := decide_eq_true c6
              clear c6
              replace H := Option.bind_eq_some_iff.mp H
              obtain ⟨t298, A70, H⟩ := H
              replace H : (if t298 = 0 then (history_Check.l0 k1 a0 ((rd_T39 l1 x14_1).f0) l1 (l1.length : Int) (wrap64 (x14_1 + 1))) else (some t298)) = some r := H
              have A7 := Aside0.mk A70
              clear A70
              by_cases c8 : t298 = 0
              · rw [if_pos c8] at H
                have c8b0 : (t298 == 0) = true := beq_iff_eq.mpr c8
                have c8b1 : (t298 != 0) = false := bne_eq_false_iff_eq.mpr c8
                clear c8
                have H' := Aside0.mk H
                clear H
                have p296 : 0 ≤ (x14_1 : Int) := of_decide_eq_true (by first | (with_reducible assumption) | assumption)
                have q296 : x14_1 < (l1.length : Int) := of_decide_eq_true (by first | (with_reducible assumption) | assumption)
                obtain ⟨ad296, e296, hx296_0, hx296_1, hx296_2, hx296_3, hx296_4, hx296_5⟩ := at_T39 HR1.out x14_1 p296 q296
                cases e296
                replace hx296_0 := (HB.out.cell (World.block_lt_of_cell? w _ hx296_0)).trans hx296_0
                replace hx296_1 := (HB.out.cell (World.block_lt_of_cell? w _ hx296_1)).trans hx296_1
                replace hx296_2 := (HB.out.cell (World.block_lt_of_cell? w _ hx296_2)).trans hx296_2
                replace hx296_3 := (HB.out.cell (World.block_lt_of_cell? w _ hx296_3)).trans hx296_3
                replace hx296_4 := (HB.out.cell (World.block_lt_of_cell? w _ hx296_4)).trans hx296_4
                replace hx296_5 := (HB.out.cell (World.block_lt_of_cell? w _ hx296_5)).trans hx296_5
                replace p296 := eq_true p296
                replace q296 := eq_true q296
                go_wp2_with (first | ((with_reducible refine gate_dst (N := 7) rfl ?_); refine box_event ?hg (N := 7) ?hd (cs := #[.int .i64 0, .int .i64 0, .int .i64 0, .int .i64 0, .int .i64 0, .int .i64 0]) (t := 39) ?hr ?_; (case hd => rfl); (case hg => rfl); (case hr => first | (go_simp; done) | (go_simp; rfl)); intro gb297 hg w9 hbox hb; have n0_ := Aside0.mk (below_step (by repeat (first | (with_reducible first | exact HB.out | apply below_alloc | apply pw_below_drewN | apply below_drew1) | exact HB.out)) hb); have n1_ := Aside0.mk (hbox); have n2_ := Aside0.mk ((by rw [hg]; exact (below_size (by repeat (first | (with_reducible first | exact HB.out | apply below_alloc | apply pw_below_drewN | apply below_drew1) | exact HB.out))) : w.heap.size ≤ gb297)); have n3_ := Aside0.mk ((by rw [hg]; exact (below_size (by repeat (first | (with_reducible first | exact HB.out | apply below_alloc | apply pw_below_drewN | apply below_drew1) | exact HB.out))) : w.heap.size ≤ gb297)); clear HB; have HB := n0_; have BK297 := n1_; have GW297 := n2_; have GE297 := n3_; clear n0_ n1_ n2_ n3_; clear hb hbox hg; have hcz10_0 : w9.cell? ⟨gb297, 0, none⟩ = some (.int .i64 0) := (blk_cell BK297.out 0).trans rfl; have hcz10_1 : w9.cell? ⟨gb297, 1, none⟩ = some (.int .i64 0) := (blk_cell BK297.out 1).trans rfl; have hcz10_2 : w9.cell? ⟨gb297, 2, none⟩ = some (.int .i64 0) := (blk_cell BK297.out 2).trans rfl; have hcz10_3 : w9.cell? ⟨gb297, 3, none⟩ = some (.int .i64 0) := (blk_cell BK297.out 3).trans rfl; have hcz10_4 : w9.cell? ⟨gb297, 4, none⟩ = some (.int .i64 0) := (blk_cell BK297.out 4).trans rfl; have hcz10_5 : w9.cell? ⟨gb297, 5, none⟩ = some (.int .i64 0) := (blk_cell BK297.out 5).trans rfl; have hfz10_0 := blk_frozen BK297.out 0; have hfz10_1 := blk_frozen BK297.out 1; have hfz10_2 := blk_frozen BK297.out 2; have hfz10_3 := blk_frozen BK297.out 3; have hfz10_4 := blk_frozen BK297.out 4; have hfz10_5 := blk_frozen BK297.out 5) | ((with_reducible refine gate_callee (f := 42) rfl ?_); refine goesL_ (some 21) rfl rfl Tryd.func42 (by kernel_rfl) rfl #[.int .i64 a0, .agg #[.int .i64 ((rd_T39 l1 x14_1).f0), .int .i64 ((rd_T39 l1 x14_1).f1), .int .i64 ((rd_T39 l1 x14_1).f2), .int .i64 ((rd_T39 l1 x14_1).f3), .int .i64 ((rd_T39 l1 x14_1).f4), .int .i64 ((rd_T39 l1 x14_1).f5)], .int .i64 x5_1] rfl (by (try simp only [List.map_toArray, List.map_cons, List.map_nil]); first | done | rfl | (simp only [List.length_drop, List.length_take]; rfl)) ?_; (with_reducible refine (history_checkRow.calls k1 a0 ((rd_T39 l1 x14_1).f0) ((rd_T39 l1 x14_1).f1) ((rd_T39 l1 x14_1).f2) ((rd_T39 l1 x14_1).f3) ((rd_T39 l1 x14_1).f4) ((rd_T39 l1 x14_1).f5) x5_1 t298 _ A7.out).mono ?_); rintro e w11 ⟨rfl, hb⟩; refine ⟨_, rfl, ?_⟩; have n0_ := Aside0.mk (blk_below (g := gb297) (o := .cells #[.int .i64 ((rd_T39 l1 x14_1).f0), .int .i64 ((rd_T39 l1 x14_1).f1), .int .i64 ((rd_T39 l1 x14_1).f2), .int .i64 ((rd_T39 l1 x14_1).f3), .int .i64 ((rd_T39 l1 x14_1).f4), .int .i64 ((rd_T39 l1 x14_1).f5)] 39 (0, 0)) (by (with_reducible repeat (first | refine blk_drewN ?_ _ | refine blk_drew ?_ | refine blk_alloc ?_ _)); refine blk_put (cs := #[.int .i64 ((rd_T39 l1 x14_1).f0), .int .i64 ((rd_T39 l1 x14_1).f1), .int .i64 ((rd_T39 l1 x14_1).f2), .int .i64 ((rd_T39 l1 x14_1).f3), .int .i64 ((rd_T39 l1 x14_1).f4), .int .i64 0]) ?_ 5 _ rfl; (with_reducible repeat (first | refine blk_drewN ?_ _ | refine blk_drew ?_ | refine blk_alloc ?_ _)); refine blk_put (cs := #[.int .i64 ((rd_T39 l1 x14_1).f0), .int .i64 ((rd_T39 l1 x14_1).f1), .int .i64 ((rd_T39 l1 x14_1).f2), .int .i64 ((rd_T39 l1 x14_1).f3), .int .i64 0, .int .i64 0]) ?_ 4 _ rfl; (with_reducible repeat (first | refine blk_drewN ?_ _ | refine blk_drew ?_ | refine blk_alloc ?_ _)); refine blk_put (cs := #[.int .i64 ((rd_T39 l1 x14_1).f0), .int .i64 ((rd_T39 l1 x14_1).f1), .int .i64 ((rd_T39 l1 x14_1).f2), .int .i64 0, .int .i64 0, .int .i64 0]) ?_ 3 _ rfl; (with_reducible repeat (first | refine blk_drewN ?_ _ | refine blk_drew ?_ | refine blk_alloc ?_ _)); refine blk_put (cs := #[.int .i64 ((rd_T39 l1 x14_1).f0), .int .i64 ((rd_T39 l1 x14_1).f1), .int .i64 0, .int .i64 0, .int .i64 0, .int .i64 0]) ?_ 2 _ rfl; (with_reducible repeat (first | refine blk_drewN ?_ _ | refine blk_drew ?_ | refine blk_alloc ?_ _)); refine blk_put (cs := #[.int .i64 ((rd_T39 l1 x14_1).f0), .int .i64 0, .int .i64 0, .int .i64 0, .int .i64 0, .int .i64 0]) ?_ 1 _ rfl; (with_reducible repeat (first | refine blk_drewN ?_ _ | refine blk_drew ?_ | refine blk_alloc ?_ _)); refine blk_put (cs := #[.int .i64 0, .int .i64 0, .int .i64 0, .int .i64 0, .int .i64 0, .int .i64 0]) ?_ 0 _ rfl; (with_reducible repeat (first | refine blk_drewN ?_ _ | refine blk_drew ?_ | refine blk_alloc ?_ _)); exact BK297.out) hb); have n1_ := Aside0.mk (below_step (by repeat (first | (with_reducible first | exact HB.out | apply below_alloc | apply pw_below_drewN | apply below_drew1 | refine below_set ?_ GE297.out) | exact HB.out)) hb); clear BK297; clear HB; have BK297 := n0_; have HB := n1_; clear n0_ n1_; (try clear hb); (try clear hb2); (try clear hk); (try clear hi); have hcz12_0 : w11.cell? ⟨gb297, 0, none⟩ = some (.int .i64 ((rd_T39 l1 x14_1).f0)) := (blk_cell BK297.out 0).trans rfl; have hcz12_1 : w11.cell? ⟨gb297, 1, none⟩ = some (.int .i64 ((rd_T39 l1 x14_1).f1)) := (blk_cell BK297.out 1).trans rfl; have hcz12_2 : w11.cell? ⟨gb297, 2, none⟩ = some (.int .i64 ((rd_T39 l1 x14_1).f2)) := (blk_cell BK297.out 2).trans rfl; have hcz12_3 : w11.cell? ⟨gb297, 3, none⟩ = some (.int .i64 ((rd_T39 l1 x14_1).f3)) := (blk_cell BK297.out 3).trans rfl; have hcz12_4 : w11.cell? ⟨gb297, 4, none⟩ = some (.int .i64 ((rd_T39 l1 x14_1).f4)) := (blk_cell BK297.out 4).trans rfl; have hcz12_5 : w11.cell? ⟨gb297, 5, none⟩ = some (.int .i64 ((rd_T39 l1 x14_1).f5)) := (blk_cell BK297.out 5).trans rfl; have hfz12_0 := blk_frozen BK297.out 0; have hfz12_1 := blk_frozen BK297.out 1; have hfz12_2 := blk_frozen BK297.out 2; have hfz12_3 := blk_frozen BK297.out 3; have hfz12_4 := blk_frozen BK297.out 4; have hfz12_5 := blk_frozen BK297.out 5))
                go_roundg k1
                case measure => have := HK1.out; omega
                case rel => exact ⟨((rd_T39 l1 x14_1).f0), (wrap64 (x14_1 + 1)), (by first | rfl | (simp; done) | (simp [*]; done)), (by first | rfl | (simp; done) | (simp [*]; done)), H', ⟨by have := HK1.out; omega⟩, ⟨by repeat (first | (with_reducible first | exact HB.out | apply below_alloc | apply pw_below_drewN | apply below_drew1 | refine below_set ?_ GE297.out) | exact HB.out)⟩⟩
              · rw [if_neg c8] at H
                have c8b0 : (t298 == 0) = false := beq_eq_false_iff_ne.mpr c8
                have c8b1 : (t298 != 0) = true := bne_iff_ne.mpr c8
                obtain rfl := Option.some.inj H
                have p296 : 0 ≤ (x14_1 : Int) := of_decide_eq_true (by first | (with_reducible assumption) | assumption)
                have q296 : x14_1 < (l1.length : Int) := of_decide_eq_true (by first | (with_reducible assumption) | assumption)
                obtain ⟨ad296, e296, hx296_0, hx296_1, hx296_2, hx296_3, hx296_4, hx296_5⟩ := at_T39 HR1.out x14_1 p296 q296
                cases e296
                replace hx296_0 := (HB.out.cell (World.block_lt_of_cell? w _ hx296_0)).trans hx296_0
                replace hx296_1 := (HB.out.cell (World.block_lt_of_cell? w _ hx296_1)).trans hx296_1
                replace hx296_2 := (HB.out.cell (World.block_lt_of_cell? w _ hx296_2)).trans hx296_2
                replace hx296_3 := (HB.out.cell (World.block_lt_of_cell? w _ hx296_3)).trans hx296_3
                replace hx296_4 := (HB.out.cell (World.block_lt_of_cell? w _ hx296_4)).trans hx296_4
                replace hx296_5 := (HB.out.cell (World.block_lt_of_cell? w _ hx296_5)).trans hx296_5
                replace p296 := eq_true p296
                replace q296 := eq_true q296
                go_wp2_with (first | ((with_reducible refine gate_dst (N := 7) rfl ?_); refine box_event ?hg (N := 7) ?hd (cs := #[.int .i64 0, .int .i64 0, .int .i64 0, .int .i64 0, .int .i64 0, .int .i64 0]) (t := 39) ?hr ?_; (case hd => rfl); (case hg => rfl); (case hr => first | (go_simp; done) | (go_simp; rfl)); intro gb297 hg w13 hbox hb; have n0_ := Aside0.mk (below_step (by repeat (first | (with_reducible first | exact HB.out | apply below_alloc | apply pw_below_drewN | apply below_drew1) | exact HB.out)) hb); have n1_ := Aside0.mk (hbox); have n2_ := Aside0.mk ((by rw [hg]; exact (below_size (by repeat (first | (with_reducible first | exact HB.out | apply below_alloc | apply pw_below_drewN | apply below_drew1) | exact HB.out))) : w.heap.size ≤ gb297)); have n3_ := Aside0.mk ((by rw [hg]; exact (below_size (by repeat (first | (with_reducible first | exact HB.out | apply below_alloc | apply pw_below_drewN | apply below_drew1) | exact HB.out))) : w.heap.size ≤ gb297)); clear HB; have HB := n0_; have BK297 := n1_; have GW297 := n2_; have GE297 := n3_; clear n0_ n1_ n2_ n3_; clear hb hbox hg; have hcz14_0 : w13.cell? ⟨gb297, 0, none⟩ = some (.int .i64 0) := (blk_cell BK297.out 0).trans rfl; have hcz14_1 : w13.cell? ⟨gb297, 1, none⟩ = some (.int .i64 0) := (blk_cell BK297.out 1).trans rfl; have hcz14_2 : w13.cell? ⟨gb297, 2, none⟩ = some (.int .i64 0) := (blk_cell BK297.out 2).trans rfl; have hcz14_3 : w13.cell? ⟨gb297, 3, none⟩ = some (.int .i64 0) := (blk_cell BK297.out 3).trans rfl; have hcz14_4 : w13.cell? ⟨gb297, 4, none⟩ = some (.int .i64 0) := (blk_cell BK297.out 4).trans rfl; have hcz14_5 : w13.cell? ⟨gb297, 5, none⟩ = some (.int .i64 0) := (blk_cell BK297.out 5).trans rfl; have hfz14_0 := blk_frozen BK297.out 0; have hfz14_1 := blk_frozen BK297.out 1; have hfz14_2 := blk_frozen BK297.out 2; have hfz14_3 := blk_frozen BK297.out 3; have hfz14_4 := blk_frozen BK297.out 4; have hfz14_5 := blk_frozen BK297.out 5) | ((with_reducible refine gate_callee (f := 42) rfl ?_); refine goesL_ (some 21) rfl rfl Tryd.func42 (by kernel_rfl) rfl #[.int .i64 a0, .agg #[.int .i64 ((rd_T39 l1 x14_1).f0), .int .i64 ((rd_T39 l1 x14_1).f1), .int .i64 ((rd_T39 l1 x14_1).f2), .int .i64 ((rd_T39 l1 x14_1).f3), .int .i64 ((rd_T39 l1 x14_1).f4), .int .i64 ((rd_T39 l1 x14_1).f5)], .int .i64 x5_1] rfl (by (try simp only [List.map_toArray, List.map_cons, List.map_nil]); first | done | rfl | (simp only [List.length_drop, List.length_take]; rfl)) ?_; (with_reducible refine (history_checkRow.calls k1 a0 ((rd_T39 l1 x14_1).f0) ((rd_T39 l1 x14_1).f1) ((rd_T39 l1 x14_1).f2) ((rd_T39 l1 x14_1).f3) ((rd_T39 l1 x14_1).f4) ((rd_T39 l1 x14_1).f5) x5_1 t298 _ A7.out).mono ?_); rintro e w15 ⟨rfl, hb⟩; refine ⟨_, rfl, ?_⟩; have n0_ := Aside0.mk (blk_below (g := gb297) (o := .cells #[.int .i64 ((rd_T39 l1 x14_1).f0), .int .i64 ((rd_T39 l1 x14_1).f1), .int .i64 ((rd_T39 l1 x14_1).f2), .int .i64 ((rd_T39 l1 x14_1).f3), .int .i64 ((rd_T39 l1 x14_1).f4), .int .i64 ((rd_T39 l1 x14_1).f5)] 39 (0, 0)) (by (with_reducible repeat (first | refine blk_drewN ?_ _ | refine blk_drew ?_ | refine blk_alloc ?_ _)); refine blk_put (cs := #[.int .i64 ((rd_T39 l1 x14_1).f0), .int .i64 ((rd_T39 l1 x14_1).f1), .int .i64 ((rd_T39 l1 x14_1).f2), .int .i64 ((rd_T39 l1 x14_1).f3), .int .i64 ((rd_T39 l1 x14_1).f4), .int .i64 0]) ?_ 5 _ rfl; (with_reducible repeat (first | refine blk_drewN ?_ _ | refine blk_drew ?_ | refine blk_alloc ?_ _)); refine blk_put (cs := #[.int .i64 ((rd_T39 l1 x14_1).f0), .int .i64 ((rd_T39 l1 x14_1).f1), .int .i64 ((rd_T39 l1 x14_1).f2), .int .i64 ((rd_T39 l1 x14_1).f3), .int .i64 0, .int .i64 0]) ?_ 4 _ rfl; (with_reducible repeat (first | refine blk_drewN ?_ _ | refine blk_drew ?_ | refine blk_alloc ?_ _)); refine blk_put (cs := #[.int .i64 ((rd_T39 l1 x14_1).f0), .int .i64 ((rd_T39 l1 x14_1).f1), .int .i64 ((rd_T39 l1 x14_1).f2), .int .i64 0, .int .i64 0, .int .i64 0]) ?_ 3 _ rfl; (with_reducible repeat (first | refine blk_drewN ?_ _ | refine blk_drew ?_ | refine blk_alloc ?_ _)); refine blk_put (cs := #[.int .i64 ((rd_T39 l1 x14_1).f0), .int .i64 ((rd_T39 l1 x14_1).f1), .int .i64 0, .int .i64 0, .int .i64 0, .int .i64 0]) ?_ 2 _ rfl; (with_reducible repeat (first | refine blk_drewN ?_ _ | refine blk_drew ?_ | refine blk_alloc ?_ _)); refine blk_put (cs := #[.int .i64 ((rd_T39 l1 x14_1).f0), .int .i64 0, .int .i64 0, .int .i64 0, .int .i64 0, .int .i64 0]) ?_ 1 _ rfl; (with_reducible repeat (first | refine blk_drewN ?_ _ | refine blk_drew ?_ | refine blk_alloc ?_ _)); refine blk_put (cs := #[.int .i64 0, .int .i64 0, .int .i64 0, .int .i64 0, .int .i64 0, .int .i64 0]) ?_ 0 _ rfl; (with_reducible repeat (first | refine blk_drewN ?_ _ | refine blk_drew ?_ | refine blk_alloc ?_ _)); exact BK297.out) hb); have n1_ := Aside0.mk (below_step (by repeat (first | (with_reducible first | exact HB.out | apply below_alloc | apply pw_below_drewN | apply below_drew1 | refine below_set ?_ GE297.out) | exact HB.out)) hb); clear BK297; clear HB; have BK297 := n0_; have HB := n1_; clear n0_ n1_; (try clear hb); (try clear hb2); (try clear hk); (try clear hi)))
                go_ret
                exact ⟨by first | rfl | (simp [errW_none, errW_some] <;> rfl) | (simp [*, errW_none, errW_some] <;> rfl), by repeat (first | (with_reducible first | exact HB.out | apply below_alloc | apply pw_below_drewN | apply below_drew1 | refine below_set ?_ GE297.out) | exact HB.out)⟩
            · rw [if_neg c6] at H
              exact absurd H (by simp)
          · rw [if_neg c5] at H
            exact absurd H (by simp)
        · rw [if_neg c4] at H
          have c4b0 : decide (x14_1 < (l1.length : Int)) = false := decide_eq_false c4
          clear c4
          obtain rfl := Option.some.inj H
          go_wp2
          go_ret
          exact ⟨by first | rfl | (simp [errW_none, errW_some] <;> rfl) | (simp [*, errW_none, errW_some] <;> rfl), by repeat (first | (with_reducible first | exact HB.out | apply below_alloc | apply pw_below_drewN | apply below_drew1) | exact HB.out)⟩

/-! ### insolvencyref25_day: function 43 -/
def insolvencyref25_day.f (a0 : Int) : Option (Bool) := if a0 ≥ 0 then (some (decide (a0 ≤ 1048576))) else (some false)
set_option maxHeartbeats 8000000 in
set_option maxRecDepth 100000 in
theorem insolvencyref25_day.calls (a0 : Int) (r : Bool) (w : World) (h : insolvencyref25_day.f a0 = some r) :
    Calls Tryd.prog 43 #[.int .i64 a0] w fun e w' => e = .returned (.bool r) ∧ Drawn0 w w' := by
  have H : (if a0 ≥ 0 then (some (decide (a0 ≤ 1048576))) else (some false)) = some r := h
  clear h
  by_cases c2 : a0 ≥ 0
  · rw [if_pos c2] at H
    have c2b0 : decide (0 ≤ a0) = true := decide_eq_true c2
    clear c2
    obtain rfl := Option.some.inj H
    go_enter Tryd.func43, Tryd.ntmps43
    go_wp2
    go_ret
    exact ⟨by first | rfl | (simp; done) | (simp [*]; done), by repeat (first | exact Drawn0.refl _ | apply Drawn0.step)⟩
  · rw [if_neg c2] at H
    have c2b0 : decide (0 ≤ a0) = false := decide_eq_false c2
    clear c2
    obtain rfl := Option.some.inj H
    go_enter Tryd.func43, Tryd.ntmps43
    go_wp2
    go_ret
    exact ⟨by first | rfl | (simp; done) | (simp [*]; done), by repeat (first | exact Drawn0.refl _ | apply Drawn0.step)⟩

/-! ### insolvencyref25_cents: function 44 -/
def insolvencyref25_cents.f (a0 : Int) : Option (Bool) := if a0 ≥ 0 then (some (decide (a0 ≤ 1125899906842624))) else (some false)
set_option maxHeartbeats 8000000 in
set_option maxRecDepth 100000 in
theorem insolvencyref25_cents.calls (a0 : Int) (r : Bool) (w : World) (h : insolvencyref25_cents.f a0 = some r) :
    Calls Tryd.prog 44 #[.int .i64 a0] w fun e w' => e = .returned (.bool r) ∧ Drawn0 w w' := by
  have H : (if a0 ≥ 0 then (some (decide (a0 ≤ 1125899906842624))) else (some false)) = some r := h
  clear h
  by_cases c2 : a0 ≥ 0
  · rw [if_pos c2] at H
    have c2b0 : decide (0 ≤ a0) = true := decide_eq_true c2
    clear c2
    obtain rfl := Option.some.inj H
    go_enter Tryd.func44, Tryd.ntmps44
    go_wp2
    go_ret
    exact ⟨by first | rfl | (simp; done) | (simp [*]; done), by repeat (first | exact Drawn0.refl _ | apply Drawn0.step)⟩
  · rw [if_neg c2] at H
    have c2b0 : decide (0 ≤ a0) = false := decide_eq_false c2
    clear c2
    obtain rfl := Option.some.inj H
    go_enter Tryd.func44, Tryd.ntmps44
    go_wp2
    go_ret
    exact ⟨by first | rfl | (simp; done) | (simp [*]; done), by repeat (first | exact Drawn0.refl _ | apply Drawn0.step)⟩

end Go.Proofs.YtcehmgmhlmbhnaaDoor.Pr
