-- Written by a program of this session (wip/tools/drive.py over the kit's print.py) out of the translation.
import Derived.Test.YtcehmgmhlmbhnaaDoorPr0
import Derived.Test.YtcehmgmhlmbhnaaDoorPr10
import Derived.Test.YtcehmgmhlmbhnaaDoorPr23
namespace Go.Proofs.YtcehmgmhlmbhnaaDoor.Pr
open Go.RowKit Go.Proofs.YtcehmgmhlmbhnaaDoorW.PrintWords Go.Proofs.YtcehmgmhlmbhnaaDoorW.PrintLast Go.Proofs.YtcehmgmhlmbhnaaDoorW.PrintMore
attribute [local go_sem] max2_int min2_int max_two min_two max_three min_three max_four min_four   -- for this text's walks alone
set_option linter.unusedVariables false
set_option linter.unusedSimpArgs false

/-! ### history_Balance: function 22 -/
def history_Balance.l0 : Nat → Int → Int → Int → List (S39) → Int → Int → Option (Int)
  | 0, _, _, _, _, _, _ => none
  | k + 1, x1, x2, x3, x11, x12, x13 => if x13 < x12 then (if 0 ≤ x13 then (if x13 < (x11.length : Int) then (if ((rd_T39 x11 x13).f0) ≤ x3 then ((history_Money.f k ((rd_T39 x11 x13).f0) ((rd_T39 x11 x13).f1) ((rd_T39 x11 x13).f2) ((rd_T39 x11 x13).f3) ((rd_T39 x11 x13).f4) ((rd_T39 x11 x13).f5) x1).bind fun t254 => (history_Balance.l0 k x1 (wrap64 (x2 + t254)) x3 x11 x12 (wrap64 (x13 + 1)))) else (history_Balance.l0 k x1 x2 x3 x11 x12 (wrap64 (x13 + 1)))) else (none)) else (none)) else (some x2)
def history_Balance.f (k : Nat) (l0 : List (S39)) (a1 : Int) (a2 : Int) (a3 : Int) : Option (Int) := history_Balance.l0 k a1 a2 a3 l0 (l0.length : Int) 0
theorem history_Balance.mono_l : ∀ k, (∀ y0 y1 y2 y3 y4 y5, LeO (history_Balance.l0 k y0 y1 y2 y3 y4 y5) (history_Balance.l0 (k + 1) y0 y1 y2 y3 y4 y5))
  | 0 => fun _ _ _ _ _ _ r h => by simp [history_Balance.l0] at h
  | k + 1 => by
    have ih0 := history_Balance.mono_l k
    · intro y0 y1 y2 y3 y4 y5
      unfold history_Balance.l0
      repeat' first
      | (with_reducible exact ih0 _ _ _ _ _ _)
      | (with_reducible exact history_Money.mono _ _ _ _ _ _ _ _)
      | (with_reducible exact LeO.refl _)
      | (with_reducible exact LeO.none _)
      | (with_reducible refine LeO.ite ?_ ?_)
      | (with_reducible refine LeO.bind ?_ (fun _ => ?_))
      | exact ih0 _ _ _ _ _ _
      | exact history_Money.mono _ _ _ _ _ _ _ _
      | exact LeO.none _
      | refine LeO.ite ?_ ?_
      | refine LeO.bind ?_ (fun _ => ?_)
theorem history_Balance.mono : ∀ a0 a1 a2 a3 k, LeO (history_Balance.f k a0 a1 a2 a3) (history_Balance.f (k + 1) a0 a1 a2 a3) := by
  intro a0 a1 a2 a3 k
  have ih0 := history_Balance.mono_l k
  unfold history_Balance.f
  repeat' first
      | (with_reducible exact ih0 _ _ _ _ _ _)
      | (with_reducible exact history_Money.mono _ _ _ _ _ _ _ _)
      | (with_reducible exact LeO.refl _)
      | (with_reducible exact LeO.none _)
      | (with_reducible refine LeO.ite ?_ ?_)
      | (with_reducible refine LeO.bind ?_ (fun _ => ?_))
      | exact ih0 _ _ _ _ _ _
      | exact history_Money.mono _ _ _ _ _ _ _ _
      | exact LeO.none _
      | refine LeO.ite ?_ ?_
      | refine LeO.bind ?_ (fun _ => ?_)
set_option maxHeartbeats 8000000 in
set_option maxRecDepth 100000 in
theorem history_Balance.calls (k : Nat) (A0 : Option Addr) (c0 : Nat) (l0 : List (S39)) (a1 : Int) (a2 : Int) (a3 : Int) (r : Int) (w : World) (hr0 : Kd.C k39 w A0 l0.length l0) (hc0 : l0.length ≤ c0) (h : history_Balance.f k l0 a1 a2 a3 = some r) :
    Calls Tryd.prog 22 #[.slice A0 l0.length c0, .int .i64 a1, .int .i64 a2, .int .i64 a3] w fun e w' => e = .returned (.int .i64 r) ∧ Below w.heap.size w w' := by
  have hu39 := Tryd.underlying39
  have HR0 := Aside0.mk hr0
  have HC0 := Aside0.mk hc0
  clear hr0 hc0
  have HB := Aside0.mk (Below.refl w.heap.size w)
  have H : (history_Balance.l0 k a1 a2 a3 l0 (l0.length : Int) 0) = some r := h
  clear h
  have H' := Aside0.mk H
  clear H
  go_enter Tryd.func22, Tryd.ntmps22
  go_wp2
  go_loopg [2, 13] k (fun kq v2 v13 w' => ∃ (x2_1 : Int) (x13_1 : Int), v2 = .int .i64 x2_1 ∧ v13 = .int .i64 x13_1 ∧ Aside0 (history_Balance.l0 kq a1 x2_1 a3 l0 (l0.length : Int) x13_1 = some r) ∧ Aside0 (kq ≤ k) ∧ Aside0 (Below w.heap.size w w'))
  case atStart => exact ⟨(a2), (0), (by first | rfl | (simp; done) | (simp [*]; done)), (by first | rfl | (simp; done) | (simp [*]; done)), H', ⟨Nat.le_refl _⟩, ⟨by repeat (first | (with_reducible first | exact HB.out | apply below_alloc | apply pw_below_drewN | apply below_drew1) | exact HB.out)⟩⟩
  case round =>
    clear H'
    try clear c2
    try clear p2
    obtain ⟨x2_1, x13_1, rfl, rfl, HA, HK1, HB⟩ := hrel
    cases gk with
    | zero => exact absurd HA.out (by simp [history_Balance.l0])
    | succ k1 =>
      have H := HA.out
      clear HA
      simp only [history_Balance.l0] at H
      by_cases c5 : x13_1 < (l0.length : Int)
      · rw [if_pos c5] at H
        have c5b0 : decide (x13_1 < (l0.length : Int)) = true := decide_eq_true c5
        clear c5
        by_cases c6 : 0 ≤ x13_1
        · rw [if_pos c6] at H
          have c6b0 : decide (0 ≤ x13_1) = true := decide_eq_true c6
          clear c6
          by_cases c7 : x13_1 < (l0.length : Int)
          · rw [if_pos c7] at H
            have c7b0 : decide (x13_1 < (l0.length : Int)) = true := decide_eq_true c7
            clear c7
            by_cases c8 : ((rd_T39 l0 x13_1).f0) ≤ a3
            · rw [if_pos c8] at H
              have c8b0 : decide (((rd_T39 l0 x13_1).f0) ≤ a3) = true := decide_eq_true c8
              clear c8
              replace H := Option.bind_eq_some_iff.mp H
              obtain ⟨t254, A90, H⟩ := H
              replace H : (history_Balance.l0 k1 a1 (wrap64 (x2_1 + t254)) a3 l0 (l0.length : Int) (wrap64 (x13_1 + 1))) = some r := H
              have A9 := Aside0.mk A90
              clear A90
              have H' := Aside0.mk H
              clear H
              have p252 : 0 ≤ (x13_1 : Int) := of_decide_eq_true (by first | (with_reducible assumption) | assumption)
              have q252 : x13_1 < (l0.length : Int) := of_decide_eq_true (by first | (with_reducible assumption) | assumption)
              obtain ⟨ad252, e252, hx252_0, hx252_1, hx252_2, hx252_3, hx252_4, hx252_5⟩ := at_T39 HR0.out x13_1 p252 q252
              cases e252
              replace hx252_0 := (HB.out.cell (World.block_lt_of_cell? w _ hx252_0)).trans hx252_0
              replace hx252_1 := (HB.out.cell (World.block_lt_of_cell? w _ hx252_1)).trans hx252_1
              replace hx252_2 := (HB.out.cell (World.block_lt_of_cell? w _ hx252_2)).trans hx252_2
              replace hx252_3 := (HB.out.cell (World.block_lt_of_cell? w _ hx252_3)).trans hx252_3
              replace hx252_4 := (HB.out.cell (World.block_lt_of_cell? w _ hx252_4)).trans hx252_4
              replace hx252_5 := (HB.out.cell (World.block_lt_of_cell? w _ hx252_5)).trans hx252_5
              replace p252 := eq_true p252
              replace q252 := eq_true q252
              go_wp2_with (first | ((with_reducible refine gate_dst (N := 10) rfl ?_); refine box_event ?hg (N := 10) ?hd (cs := #[.int .i64 0, .int .i64 0, .int .i64 0, .int .i64 0, .int .i64 0, .int .i64 0]) (t := 39) ?hr ?_; (case hd => rfl); (case hg => rfl); (case hr => first | (go_simp; done) | (go_simp; rfl)); intro gb253 hg w10 hbox hb; have n0_ := Aside0.mk (below_step (by repeat (first | (with_reducible first | exact HB.out | apply below_alloc | apply pw_below_drewN | apply below_drew1) | exact HB.out)) hb); have n1_ := Aside0.mk (hbox); have n2_ := Aside0.mk ((by rw [hg]; exact (below_size (by repeat (first | (with_reducible first | exact HB.out | apply below_alloc | apply pw_below_drewN | apply below_drew1) | exact HB.out))) : w.heap.size ≤ gb253)); have n3_ := Aside0.mk ((by rw [hg]; exact (below_size (by repeat (first | (with_reducible first | exact HB.out | apply below_alloc | apply pw_below_drewN | apply below_drew1) | exact HB.out))) : w.heap.size ≤ gb253)); clear HB; have HB := n0_; have BK253 := n1_; have GW253 := n2_; have GE253 := n3_; clear n0_ n1_ n2_ n3_; clear hb hbox hg; have hcz11_0 : w10.cell? ⟨gb253, 0, none⟩ = some (.int .i64 0) := (blk_cell BK253.out 0).trans rfl; have hcz11_1 : w10.cell? ⟨gb253, 1, none⟩ = some (.int .i64 0) := (blk_cell BK253.out 1).trans rfl; have hcz11_2 : w10.cell? ⟨gb253, 2, none⟩ = some (.int .i64 0) := (blk_cell BK253.out 2).trans rfl; have hcz11_3 : w10.cell? ⟨gb253, 3, none⟩ = some (.int .i64 0) := (blk_cell BK253.out 3).trans rfl; have hcz11_4 : w10.cell? ⟨gb253, 4, none⟩ = some (.int .i64 0) := (blk_cell BK253.out 4).trans rfl; have hcz11_5 : w10.cell? ⟨gb253, 5, none⟩ = some (.int .i64 0) := (blk_cell BK253.out 5).trans rfl; have hfz11_0 := blk_frozen BK253.out 0; have hfz11_1 := blk_frozen BK253.out 1; have hfz11_2 := blk_frozen BK253.out 2; have hfz11_3 := blk_frozen BK253.out 3; have hfz11_4 := blk_frozen BK253.out 4; have hfz11_5 := blk_frozen BK253.out 5) | ((with_reducible refine gate_callee (f := 20) rfl ?_); refine goesL_ (some 24) rfl rfl Tryd.func20 (by kernel_rfl) rfl #[.agg #[.int .i64 ((rd_T39 l0 x13_1).f0), .int .i64 ((rd_T39 l0 x13_1).f1), .int .i64 ((rd_T39 l0 x13_1).f2), .int .i64 ((rd_T39 l0 x13_1).f3), .int .i64 ((rd_T39 l0 x13_1).f4), .int .i64 ((rd_T39 l0 x13_1).f5)], .int .i64 a1] rfl (by (try simp only [List.map_toArray, List.map_cons, List.map_nil]); first | done | rfl | (simp only [List.length_drop, List.length_take]; rfl)) ?_; (with_reducible refine (history_Money.calls k1 ((rd_T39 l0 x13_1).f0) ((rd_T39 l0 x13_1).f1) ((rd_T39 l0 x13_1).f2) ((rd_T39 l0 x13_1).f3) ((rd_T39 l0 x13_1).f4) ((rd_T39 l0 x13_1).f5) a1 t254 _ A9.out).mono ?_); rintro e w12 ⟨rfl, hb⟩; refine ⟨_, rfl, ?_⟩; have n0_ := Aside0.mk (blk_below (g := gb253) (o := .cells #[.int .i64 ((rd_T39 l0 x13_1).f0), .int .i64 ((rd_T39 l0 x13_1).f1), .int .i64 ((rd_T39 l0 x13_1).f2), .int .i64 ((rd_T39 l0 x13_1).f3), .int .i64 ((rd_T39 l0 x13_1).f4), .int .i64 ((rd_T39 l0 x13_1).f5)] 39 (0, 0)) (by (with_reducible repeat (first | refine blk_drewN ?_ _ | refine blk_drew ?_ | refine blk_alloc ?_ _)); refine blk_put (cs := #[.int .i64 ((rd_T39 l0 x13_1).f0), .int .i64 ((rd_T39 l0 x13_1).f1), .int .i64 ((rd_T39 l0 x13_1).f2), .int .i64 ((rd_T39 l0 x13_1).f3), .int .i64 ((rd_T39 l0 x13_1).f4), .int .i64 0]) ?_ 5 _ rfl; (with_reducible repeat (first | refine blk_drewN ?_ _ | refine blk_drew ?_ | refine blk_alloc ?_ _)); refine blk_put (cs := #[.int .i64 ((rd_T39 l0 x13_1).f0), .int .i64 ((rd_T39 l0 x13_1).f1), .int .i64 ((rd_T39 l0 x13_1).f2), .int .i64 ((rd_T39 l0 x13_1).f3), .int .i64 0, .int .i64 0]) ?_ 4 _ rfl; (with_reducible repeat (first | refine blk_drewN ?_ _ | refine blk_drew ?_ | refine blk_alloc ?_ _)); refine blk_put (cs := #[.int .i64 ((rd_T39 l0 x13_1).f0), .int .i64 ((rd_T39 l0 x13_1).f1), .int .i64 ((rd_T39 l0 x13_1).f2), .int .i64 0, .int .i64 0, .int .i64 0]) ?_ 3 _ rfl; (with_reducible repeat (first | refine blk_drewN ?_ _ | refine blk_drew ?_ | refine blk_alloc ?_ _)); refine blk_put (cs := #[.int .i64 ((rd_T39 l0 x13_1).f0), .int .i64 ((rd_T39 l0 x13_1).f1), .int .i64 0, .int .i64 0, .int .i64 0, .int .i64 0]) ?_ 2 _ rfl; (with_reducible repeat (first | refine blk_drewN ?_ _ | refine blk_drew ?_ | refine blk_alloc ?_ _)); refine blk_put (cs := #[.int .i64 ((rd_T39 l0 x13_1).f0), .int .i64 0, .int .i64 0, .int .i64 0, .int .i64 0, .int .i64 0]) ?_ 1 _ rfl; (with_reducible repeat (first | refine blk_drewN ?_ _ | refine blk_drew ?_ | refine blk_alloc ?_ _)); refine blk_put (cs := #[.int .i64 0, .int .i64 0, .int .i64 0, .int .i64 0, .int .i64 0, .int .i64 0]) ?_ 0 _ rfl; (with_reducible repeat (first | refine blk_drewN ?_ _ | refine blk_drew ?_ | refine blk_alloc ?_ _)); exact BK253.out) hb); have n1_ := Aside0.mk (below_step (by repeat (first | (with_reducible first | exact HB.out | apply below_alloc | apply pw_below_drewN | apply below_drew1 | refine below_set ?_ GE253.out) | exact HB.out)) hb); clear BK253; clear HB; have BK253 := n0_; have HB := n1_; clear n0_ n1_; (try clear hb); (try clear hb2); (try clear hk); (try clear hi)))
              go_roundg k1
              case measure => have := HK1.out; omega
              case rel => exact ⟨(wrap64 (x2_1 + t254)), (wrap64 (x13_1 + 1)), (by first | rfl | (simp; done) | (simp [*]; done)), (by first | rfl | (simp; done) | (simp [*]; done)), H', ⟨by have := HK1.out; omega⟩, ⟨by repeat (first | (with_reducible first | exact HB.out | apply below_alloc | apply pw_below_drewN | apply below_drew1 | refine below_set ?_ GE253.out) | exact HB.out)⟩⟩
            · rw [if_neg c8] at H
              have c8b0 : decide (((rd_T39 l0 x13_1).f0) ≤ a3) = false := decide_eq_false c8
              clear c8
              have H' := Aside0.mk H
              clear H
              have p252 : 0 ≤ (x13_1 : Int) := of_decide_eq_true (by first | (with_reducible assumption) | assumption)
              have q252 : x13_1 < (l0.length : Int) := of_decide_eq_true (by first | (with_reducible assumption) | assumption)
              obtain ⟨ad252, e252, hx252_0, hx252_1, hx252_2, hx252_3, hx252_4, hx252_5⟩ := at_T39 HR0.out x13_1 p252 q252
              cases e252
              replace hx252_0 := (HB.out.cell (World.block_lt_of_cell? w _ hx252_0)).trans hx252_0
              replace hx252_1 := (HB.out.cell (World.block_lt_of_cell? w _ hx252_1)).trans hx252_1
              replace hx252_2 := (HB.out.cell (World.block_lt_of_cell? w _ hx252_2)).trans hx252_2
              replace hx252_3 := (HB.out.cell (World.block_lt_of_cell? w _ hx252_3)).trans hx252_3
              replace hx252_4 := (HB.out.cell (World.block_lt_of_cell? w _ hx252_4)).trans hx252_4
              replace hx252_5 := (HB.out.cell (World.block_lt_of_cell? w _ hx252_5)).trans hx252_5
              replace p252 := eq_true p252
              replace q252 := eq_true q252
              go_wp2_with (first | ((with_reducible refine gate_dst (N := 10) rfl ?_); refine box_event ?hg (N := 10) ?hd (cs := #[.int .i64 0, .int .i64 0, .int .i64 0, .int .i64 0, .int .i64 0, .int .i64 0]) (t := 39) ?hr ?_; (case hd => rfl); (case hg => rfl); (case hr => first | (go_simp; done) | (go_simp; rfl)); intro gb253 hg w13 hbox hb; have n0_ := Aside0.mk (below_step (by repeat (first | (with_reducible first | exact HB.out | apply below_alloc | apply pw_below_drewN | apply below_drew1) | exact HB.out)) hb); have n1_ := Aside0.mk (hbox); have n2_ := Aside0.mk ((by rw [hg]; exact (below_size (by repeat (first | (with_reducible first | exact HB.out | apply below_alloc | apply pw_below_drewN | apply below_drew1) | exact HB.out))) : w.heap.size ≤ gb253)); have n3_ := Aside0.mk ((by rw [hg]; exact (below_size (by repeat (first | (with_reducible first | exact HB.out | apply below_alloc | apply pw_below_drewN | apply below_drew1) | exact HB.out))) : w.heap.size ≤ gb253)); clear HB; have HB := n0_; have BK253 := n1_; have GW253 := n2_; have GE253 := n3_; clear n0_ n1_ n2_ n3_; clear hb hbox hg; have hcz14_0 : w13.cell? ⟨gb253, 0, none⟩ = some (.int .i64 0) := (blk_cell BK253.out 0).trans rfl; have hcz14_1 : w13.cell? ⟨gb253, 1, none⟩ = some (.int .i64 0) := (blk_cell BK253.out 1).trans rfl; have hcz14_2 : w13.cell? ⟨gb253, 2, none⟩ = some (.int .i64 0) := (blk_cell BK253.out 2).trans rfl; have hcz14_3 : w13.cell? ⟨gb253, 3, none⟩ = some (.int .i64 0) := (blk_cell BK253.out 3).trans rfl; have hcz14_4 : w13.cell? ⟨gb253, 4, none⟩ = some (.int .i64 0) := (blk_cell BK253.out 4).trans rfl; have hcz14_5 : w13.cell? ⟨gb253, 5, none⟩ = some (.int .i64 0) := (blk_cell BK253.out 5).trans rfl; have hfz14_0 := blk_frozen BK253.out 0; have hfz14_1 := blk_frozen BK253.out 1; have hfz14_2 := blk_frozen BK253.out 2; have hfz14_3 := blk_frozen BK253.out 3; have hfz14_4 := blk_frozen BK253.out 4; have hfz14_5 := blk_frozen BK253.out 5))
              go_roundg k1
              case measure => have := HK1.out; omega
              case rel => exact ⟨(x2_1), (wrap64 (x13_1 + 1)), (by first | rfl | (simp; done) | (simp [*]; done)), (by first | rfl | (simp; done) | (simp [*]; done)), H', ⟨by have := HK1.out; omega⟩, ⟨by repeat (first | (with_reducible first | exact HB.out | apply below_alloc | apply pw_below_drewN | apply below_drew1 | refine below_set ?_ GE253.out) | exact HB.out)⟩⟩
          · rw [if_neg c7] at H
            exact absurd H (by simp)
        · rw [if_neg c6] at H
          exact absurd H (by simp)
      · rw [if_neg c5] at H
        have c5b0 : decide (x13_1 < (l0.length : Int)) = false := decide_eq_false c5
        clear c5
        obtain rfl := Option.some.inj H
        go_wp2
        go_ret
        exact ⟨by first | rfl | (simp [errW_none, errW_some] <;> rfl) | (simp [*, errW_none, errW_some] <;> rfl), by repeat (first | (with_reducible first | exact HB.out | apply below_alloc | apply pw_below_drewN | apply below_drew1) | exact HB.out)⟩

/-! ### insolvencyref25_Balance: function 23 -/
def insolvencyref25_Balance.l0 : Nat → List (S39) → Int → Int → Int → Int → Option (Int)
  | 0, _, _, _, _, _ => none
  | k + 1, x0, x1, x2, x3, x9 => if x9 < (x0.length : Int) then (if 0 ≤ x9 then (if ((rd_T39 x0 x9).f0) ≤ x3 then ((insolvencyref25_Money.f k ((rd_T39 x0 x9).f0) ((rd_T39 x0 x9).f1) ((rd_T39 x0 x9).f2) ((rd_T39 x0 x9).f3) ((rd_T39 x0 x9).f4) ((rd_T39 x0 x9).f5) x1).bind fun t257 => (insolvencyref25_Balance.l0 k x0 x1 (wrap64 (x2 + t257)) x3 (wrap64 (x9 + 1)))) else (insolvencyref25_Balance.l0 k x0 x1 x2 x3 (wrap64 (x9 + 1)))) else (none)) else (some x2)
def insolvencyref25_Balance.f (k : Nat) (l0 : List (S39)) (a1 : Int) (a2 : Int) (a3 : Int) : Option (Int) := insolvencyref25_Balance.l0 k l0 a1 a2 a3 0
theorem insolvencyref25_Balance.mono_l : ∀ k, (∀ y0 y1 y2 y3 y4, LeO (insolvencyref25_Balance.l0 k y0 y1 y2 y3 y4) (insolvencyref25_Balance.l0 (k + 1) y0 y1 y2 y3 y4))
  | 0 => fun _ _ _ _ _ r h => by simp [insolvencyref25_Balance.l0] at h
  | k + 1 => by
    have ih0 := insolvencyref25_Balance.mono_l k
    · intro y0 y1 y2 y3 y4
      unfold insolvencyref25_Balance.l0
      repeat' first
      | (with_reducible exact ih0 _ _ _ _ _)
      | (with_reducible exact insolvencyref25_Money.mono _ _ _ _ _ _ _ _)
      | (with_reducible exact LeO.refl _)
      | (with_reducible exact LeO.none _)
      | (with_reducible refine LeO.ite ?_ ?_)
      | (with_reducible refine LeO.bind ?_ (fun _ => ?_))
      | exact ih0 _ _ _ _ _
      | exact insolvencyref25_Money.mono _ _ _ _ _ _ _ _
      | exact LeO.none _
      | refine LeO.ite ?_ ?_
      | refine LeO.bind ?_ (fun _ => ?_)
theorem insolvencyref25_Balance.mono : ∀ a0 a1 a2 a3 k, LeO (insolvencyref25_Balance.f k a0 a1 a2 a3) (insolvencyref25_Balance.f (k + 1) a0 a1 a2 a3) := by
  intro a0 a1 a2 a3 k
  have ih0 := insolvencyref25_Balance.mono_l k
  unfold insolvencyref25_Balance.f
  repeat' first
      | (with_reducible exact ih0 _ _ _ _ _)
      | (with_reducible exact insolvencyref25_Money.mono _ _ _ _ _ _ _ _)
      | (with_reducible exact LeO.refl _)
      | (with_reducible exact LeO.none _)
      | (with_reducible refine LeO.ite ?_ ?_)
      | (with_reducible refine LeO.bind ?_ (fun _ => ?_))
      | exact ih0 _ _ _ _ _
      | exact insolvencyref25_Money.mono _ _ _ _ _ _ _ _
      | exact LeO.none _
      | refine LeO.ite ?_ ?_
      | refine LeO.bind ?_ (fun _ => ?_)
set_option maxHeartbeats 8000000 in
set_option maxRecDepth 100000 in
theorem insolvencyref25_Balance.calls (k : Nat) (A0 : Option Addr) (c0 : Nat) (l0 : List (S39)) (a1 : Int) (a2 : Int) (a3 : Int) (r : Int) (w : World) (hr0 : Kd.C k39 w A0 l0.length l0) (hc0 : l0.length ≤ c0) (h : insolvencyref25_Balance.f k l0 a1 a2 a3 = some r) :
    Calls Tryd.prog 23 #[.slice A0 l0.length c0, .int .i64 a1, .int .i64 a2, .int .i64 a3] w fun e w' => e = .returned (.int .i64 r) ∧ Below w.heap.size w w' := by
  have hu39 := Tryd.underlying39
  have HR0 := Aside0.mk hr0
  have HC0 := Aside0.mk hc0
  clear hr0 hc0
  have HB := Aside0.mk (Below.refl w.heap.size w)
  have H : (insolvencyref25_Balance.l0 k l0 a1 a2 a3 0) = some r := h
  clear h
  have H' := Aside0.mk H
  clear H
  go_enter Tryd.func23, Tryd.ntmps23
  go_wp2
  go_loopg [2, 9] k (fun kq v2 v9 w' => ∃ (x2_1 : Int) (x9_1 : Int), v2 = .int .i64 x2_1 ∧ v9 = .int .i64 x9_1 ∧ Aside0 (insolvencyref25_Balance.l0 kq l0 a1 x2_1 a3 x9_1 = some r) ∧ Aside0 (kq ≤ k) ∧ Aside0 (Below w.heap.size w w'))
  case atStart => exact ⟨(a2), (0), (by first | rfl | (simp; done) | (simp [*]; done)), (by first | rfl | (simp; done) | (simp [*]; done)), H', ⟨Nat.le_refl _⟩, ⟨by repeat (first | (with_reducible first | exact HB.out | apply below_alloc | apply pw_below_drewN | apply below_drew1) | exact HB.out)⟩⟩
  case round =>
    clear H'
    try clear c2
    try clear p2
    obtain ⟨x2_1, x9_1, rfl, rfl, HA, HK1, HB⟩ := hrel
    cases gk with
    | zero => exact absurd HA.out (by simp [insolvencyref25_Balance.l0])
    | succ k1 =>
      have H := HA.out
      clear HA
      simp only [insolvencyref25_Balance.l0] at H
      by_cases c5 : x9_1 < (l0.length : Int)
      · rw [if_pos c5] at H
        have c5b0 : decide (x9_1 < (l0.length : Int)) = true := decide_eq_true c5
        clear c5
        by_cases c6 : 0 ≤ x9_1
        · rw [if_pos c6] at H
          have c6b0 : decide (0 ≤ x9_1) = true := decide_eq_true c6
          clear c6
          by_cases c7 : ((rd_T39 l0 x9_1).f0) ≤ a3
          · rw [if_pos c7] at H
            have c7b0 : decide (((rd_T39 l0 x9_1).f0) ≤ a3) = true := decide_eq_true c7
            clear c7
            replace H := Option.bind_eq_some_iff.mp H
            obtain ⟨t257, A80, H⟩ := H
            replace H : (insolvencyref25_Balance.l0 k1 l0 a1 (wrap64 (x2_1 + t257)) a3 (wrap64 (x9_1 + 1))) = some r := H
            have A8 := Aside0.mk A80
            clear A80
            have H' := Aside0.mk H
            clear H
            have p255 : 0 ≤ (x9_1 : Int) := of_decide_eq_true (by first | (with_reducible assumption) | assumption)
            have q255 : x9_1 < (l0.length : Int) := of_decide_eq_true (by first | (with_reducible assumption) | assumption)
            obtain ⟨ad255, e255, hx255_0, hx255_1, hx255_2, hx255_3, hx255_4, hx255_5⟩ := at_T39 HR0.out x9_1 p255 q255
            cases e255
            replace hx255_0 := (HB.out.cell (World.block_lt_of_cell? w _ hx255_0)).trans hx255_0
            replace hx255_1 := (HB.out.cell (World.block_lt_of_cell? w _ hx255_1)).trans hx255_1
            replace hx255_2 := (HB.out.cell (World.block_lt_of_cell? w _ hx255_2)).trans hx255_2
            replace hx255_3 := (HB.out.cell (World.block_lt_of_cell? w _ hx255_3)).trans hx255_3
            replace hx255_4 := (HB.out.cell (World.block_lt_of_cell? w _ hx255_4)).trans hx255_4
            replace hx255_5 := (HB.out.cell (World.block_lt_of_cell? w _ hx255_5)).trans hx255_5
            replace p255 := eq_true p255
            replace q255 := eq_true q255
            have p256 : 0 ≤ (x9_1 : Int) := of_decide_eq_true (by first | (with_reducible assumption) | assumption)
            have q256 : x9_1 < (l0.length : Int) := of_decide_eq_true (by first | (with_reducible assumption) | assumption)
            obtain ⟨ad256, e256, hx256_0, hx256_1, hx256_2, hx256_3, hx256_4, hx256_5⟩ := at_T39 HR0.out x9_1 p256 q256
            obtain rfl : ad255 = ad256 := (by injection e256)
            replace hx256_0 := (HB.out.cell (World.block_lt_of_cell? w _ hx256_0)).trans hx256_0
            replace hx256_1 := (HB.out.cell (World.block_lt_of_cell? w _ hx256_1)).trans hx256_1
            replace hx256_2 := (HB.out.cell (World.block_lt_of_cell? w _ hx256_2)).trans hx256_2
            replace hx256_3 := (HB.out.cell (World.block_lt_of_cell? w _ hx256_3)).trans hx256_3
            replace hx256_4 := (HB.out.cell (World.block_lt_of_cell? w _ hx256_4)).trans hx256_4
            replace hx256_5 := (HB.out.cell (World.block_lt_of_cell? w _ hx256_5)).trans hx256_5
            replace p256 := eq_true p256
            replace q256 := eq_true q256
            go_wp2_with (first | ((with_reducible refine gate_callee (f := 21) rfl ?_); refine goesL_ (some 29) rfl rfl Tryd.func21 (by kernel_rfl) rfl #[.agg #[.int .i64 ((rd_T39 l0 x9_1).f0), .int .i64 ((rd_T39 l0 x9_1).f1), .int .i64 ((rd_T39 l0 x9_1).f2), .int .i64 ((rd_T39 l0 x9_1).f3), .int .i64 ((rd_T39 l0 x9_1).f4), .int .i64 ((rd_T39 l0 x9_1).f5)], .int .i64 a1] rfl (by (try simp only [List.map_toArray, List.map_cons, List.map_nil]); first | done | rfl | (simp only [List.length_drop, List.length_take]; rfl)) ?_; (with_reducible refine (insolvencyref25_Money.calls k1 ((rd_T39 l0 x9_1).f0) ((rd_T39 l0 x9_1).f1) ((rd_T39 l0 x9_1).f2) ((rd_T39 l0 x9_1).f3) ((rd_T39 l0 x9_1).f4) ((rd_T39 l0 x9_1).f5) a1 t257 _ A8.out).mono ?_); rintro e w9 ⟨rfl, hb⟩; refine ⟨_, rfl, ?_⟩; have n0_ := Aside0.mk (below_step (by repeat (first | (with_reducible first | exact HB.out | apply below_alloc | apply pw_below_drewN | apply below_drew1) | exact HB.out)) hb); clear HB; have HB := n0_; clear n0_; (try clear hb); (try clear hb2); (try clear hk); (try clear hi)))
            go_roundg k1
            case measure => have := HK1.out; omega
            case rel => exact ⟨(wrap64 (x2_1 + t257)), (wrap64 (x9_1 + 1)), (by first | rfl | (simp; done) | (simp [*]; done)), (by first | rfl | (simp; done) | (simp [*]; done)), H', ⟨by have := HK1.out; omega⟩, ⟨by repeat (first | (with_reducible first | exact HB.out | apply below_alloc | apply pw_below_drewN | apply below_drew1) | exact HB.out)⟩⟩
          · rw [if_neg c7] at H
            have c7b0 : decide (((rd_T39 l0 x9_1).f0) ≤ a3) = false := decide_eq_false c7
            clear c7
            have H' := Aside0.mk H
            clear H
            have p255 : 0 ≤ (x9_1 : Int) := of_decide_eq_true (by first | (with_reducible assumption) | assumption)
            have q255 : x9_1 < (l0.length : Int) := of_decide_eq_true (by first | (with_reducible assumption) | assumption)
            obtain ⟨ad255, e255, hx255_0, hx255_1, hx255_2, hx255_3, hx255_4, hx255_5⟩ := at_T39 HR0.out x9_1 p255 q255
            cases e255
            replace hx255_0 := (HB.out.cell (World.block_lt_of_cell? w _ hx255_0)).trans hx255_0
            replace hx255_1 := (HB.out.cell (World.block_lt_of_cell? w _ hx255_1)).trans hx255_1
            replace hx255_2 := (HB.out.cell (World.block_lt_of_cell? w _ hx255_2)).trans hx255_2
            replace hx255_3 := (HB.out.cell (World.block_lt_of_cell? w _ hx255_3)).trans hx255_3
            replace hx255_4 := (HB.out.cell (World.block_lt_of_cell? w _ hx255_4)).trans hx255_4
            replace hx255_5 := (HB.out.cell (World.block_lt_of_cell? w _ hx255_5)).trans hx255_5
            replace p255 := eq_true p255
            replace q255 := eq_true q255
            go_wp2
            go_roundg k1
            case measure => have := HK1.out; omega
            case rel => exact ⟨(x2_1), (wrap64 (x9_1 + 1)), (by first | rfl | (simp; done) | (simp [*]; done)), (by first | rfl | (simp; done) | (simp [*]; done)), H', ⟨by have := HK1.out; omega⟩, ⟨by repeat (first | (with_reducible first | exact HB.out | apply below_alloc | apply pw_below_drewN | apply below_drew1) | exact HB.out)⟩⟩
        · rw [if_neg c6] at H
          exact absurd H (by simp)
      · rw [if_neg c5] at H
        have c5b0 : decide (x9_1 < (l0.length : Int)) = false := decide_eq_false c5
        clear c5
        obtain rfl := Option.some.inj H
        go_wp2
        go_ret
        exact ⟨by first | rfl | (simp [errW_none, errW_some] <;> rfl) | (simp [*, errW_none, errW_some] <;> rfl), by repeat (first | (with_reducible first | exact HB.out | apply below_alloc | apply pw_below_drewN | apply below_drew1) | exact HB.out)⟩

end Go.Proofs.YtcehmgmhlmbhnaaDoor.Pr
