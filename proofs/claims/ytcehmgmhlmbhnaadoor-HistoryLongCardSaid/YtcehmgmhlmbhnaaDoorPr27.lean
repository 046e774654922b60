-- Written by a program of this session (wip/tools/drive.py over the kit's print.py) out of the translation.
import Derived.Test.YtcehmgmhlmbhnaaDoorPr0
import Derived.Test.YtcehmgmhlmbhnaaDoorPr23
namespace Go.Proofs.YtcehmgmhlmbhnaaDoor.Pr
open Go.RowKit Go.Proofs.YtcehmgmhlmbhnaaDoorW.PrintWords Go.Proofs.YtcehmgmhlmbhnaaDoorW.PrintLast Go.Proofs.YtcehmgmhlmbhnaaDoorW.PrintMore
attribute [local go_sem] max2_int min2_int max_two min_two max_three min_three max_four min_four   -- for this text's walks alone
set_option linter.unusedVariables false
set_option linter.unusedSimpArgs false

/-! ### insolvencyref25_Lowest: function 25 -/
mutual
def insolvencyref25_Lowest.l0 : Nat → List (S39) → Int → Int → Int → Int → Int → Option (Int)
  | 0, _, _, _, _, _, _ => none
  | k + 1, x0, x1, x2, x3, x4, x11 => if x11 < (x0.length : Int) then (if 0 ≤ x11 then (if ((rd_T39 x0 x11).f0) < x3 then ((insolvencyref25_Money.f k ((rd_T39 x0 x11).f0) ((rd_T39 x0 x11).f1) ((rd_T39 x0 x11).f2) ((rd_T39 x0 x11).f3) ((rd_T39 x0 x11).f4) ((rd_T39 x0 x11).f5) x1).bind fun t266 => (insolvencyref25_Lowest.l0 k x0 x1 (wrap64 (x2 + t266)) x3 x4 (wrap64 (x11 + 1)))) else (insolvencyref25_Lowest.l0 k x0 x1 x2 x3 x4 (wrap64 (x11 + 1)))) else (none)) else (insolvencyref25_Lowest.l1 k x0 x1 x2 x3 x4 x2 0)
def insolvencyref25_Lowest.l1 : Nat → List (S39) → Int → Int → Int → Int → Int → Int → Option (Int)
  | 0, _, _, _, _, _, _, _ => none
  | k + 1, x0, x1, x2, x3, x4, x12, x13 => if x13 < (x0.length : Int) then (if 0 ≤ x13 then (if ((rd_T39 x0 x13).f0) ≥ x3 then (if ((rd_T39 x0 x13).f0) ≤ x4 then ((insolvencyref25_Money.f k ((rd_T39 x0 x13).f0) ((rd_T39 x0 x13).f1) ((rd_T39 x0 x13).f2) ((rd_T39 x0 x13).f3) ((rd_T39 x0 x13).f4) ((rd_T39 x0 x13).f5) x1).bind fun t270 => (insolvencyref25_Lowest.l1 k x0 x1 (wrap64 (x2 + t270)) x3 x4 (mn x12 (wrap64 (x2 + t270))) (wrap64 (x13 + 1)))) else (insolvencyref25_Lowest.l1 k x0 x1 x2 x3 x4 x12 (wrap64 (x13 + 1)))) else (insolvencyref25_Lowest.l1 k x0 x1 x2 x3 x4 x12 (wrap64 (x13 + 1)))) else (none)) else (some x12)
end
def insolvencyref25_Lowest.f (k : Nat) (l0 : List (S39)) (a1 : Int) (a2 : Int) (a3 : Int) (a4 : Int) : Option (Int) := insolvencyref25_Lowest.l0 k l0 a1 a2 a3 a4 0
theorem insolvencyref25_Lowest.mono_l : ∀ k, (∀ y0 y1 y2 y3 y4 y5, LeO (insolvencyref25_Lowest.l0 k y0 y1 y2 y3 y4 y5) (insolvencyref25_Lowest.l0 (k + 1) y0 y1 y2 y3 y4 y5)) ∧ (∀ y0 y1 y2 y3 y4 y5 y6, LeO (insolvencyref25_Lowest.l1 k y0 y1 y2 y3 y4 y5 y6) (insolvencyref25_Lowest.l1 (k + 1) y0 y1 y2 y3 y4 y5 y6))
  | 0 => ⟨fun _ _ _ _ _ _ r h => by simp [insolvencyref25_Lowest.l0] at h, fun _ _ _ _ _ _ _ r h => by simp [insolvencyref25_Lowest.l1] at h⟩
  | k + 1 => by
    obtain ⟨ih0, ih1⟩ := insolvencyref25_Lowest.mono_l k
    refine ⟨?_, ?_⟩
    · intro y0 y1 y2 y3 y4 y5
      unfold insolvencyref25_Lowest.l0
      repeat' first
      | (with_reducible exact ih0 _ _ _ _ _ _)
      | (with_reducible exact ih1 _ _ _ _ _ _ _)
      | (with_reducible exact insolvencyref25_Money.mono _ _ _ _ _ _ _ _)
      | (with_reducible exact LeO.refl _)
      | (with_reducible exact LeO.none _)
      | (with_reducible refine LeO.ite ?_ ?_)
      | (with_reducible refine LeO.bind ?_ (fun _ => ?_))
      | exact ih0 _ _ _ _ _ _
      | exact ih1 _ _ _ _ _ _ _
      | exact insolvencyref25_Money.mono _ _ _ _ _ _ _ _
      | exact LeO.none _
      | refine LeO.ite ?_ ?_
      | refine LeO.bind ?_ (fun _ => ?_)
    · intro y0 y1 y2 y3 y4 y5 y6
      unfold insolvencyref25_Lowest.l1
      repeat' first
      | (with_reducible exact ih0 _ _ _ _ _ _)
      | (with_reducible exact ih1 _ _ _ _ _ _ _)
      | (with_reducible exact insolvencyref25_Money.mono _ _ _ _ _ _ _ _)
      | (with_reducible exact LeO.refl _)
      | (with_reducible exact LeO.none _)
      | (with_reducible refine LeO.ite ?_ ?_)
      | (with_reducible refine LeO.bind ?_ (fun _ => ?_))
      | exact ih0 _ _ _ _ _ _
      | exact ih1 _ _ _ _ _ _ _
      | exact insolvencyref25_Money.mono _ _ _ _ _ _ _ _
      | exact LeO.none _
      | refine LeO.ite ?_ ?_
      | refine LeO.bind ?_ (fun _ => ?_)
theorem insolvencyref25_Lowest.mono : ∀ a0 a1 a2 a3 a4 k, LeO (insolvencyref25_Lowest.f k a0 a1 a2 a3 a4) (insolvencyref25_Lowest.f (k + 1) a0 a1 a2 a3 a4) := by
  intro a0 a1 a2 a3 a4 k
  obtain ⟨ih0, ih1⟩ := insolvencyref25_Lowest.mono_l k
  unfold insolvencyref25_Lowest.f
  repeat' first
      | (with_reducible exact ih0 _ _ _ _ _ _)
      | (with_reducible exact ih1 _ _ _ _ _ _ _)
      | (with_reducible exact insolvencyref25_Money.mono _ _ _ _ _ _ _ _)
      | (with_reducible exact LeO.refl _)
      | (with_reducible exact LeO.none _)
      | (with_reducible refine LeO.ite ?_ ?_)
      | (with_reducible refine LeO.bind ?_ (fun _ => ?_))
      | exact ih0 _ _ _ _ _ _
      | exact ih1 _ _ _ _ _ _ _
      | exact insolvencyref25_Money.mono _ _ _ _ _ _ _ _
      | exact LeO.none _
      | refine LeO.ite ?_ ?_
      | refine LeO.bind ?_ (fun _ => ?_)
set_option maxHeartbeats 8000000 in
set_option maxRecDepth 100000 in
theorem insolvencyref25_Lowest.calls (k : Nat) (A0 : Option Addr) (c0 : Nat) (l0 : List (S39)) (a1 : Int) (a2 : Int) (a3 : Int) (a4 : Int) (r : Int) (w : World) (hr0 : Kd.C k39 w A0 l0.length l0) (hc0 : l0.length ≤ c0) (h : insolvencyref25_Lowest.f k l0 a1 a2 a3 a4 = some r) :
    Calls Tryd.prog 25 #[.slice A0 l0.length c0, .int .i64 a1, .int .i64 a2, .int .i64 a3, .int .i64 a4] w fun e w' => e = .returned (.int .i64 r) ∧ Below w.heap.size w w' := by
  have hu39 := Tryd.underlying39
  have HR0 := Aside0.mk hr0
  have HC0 := Aside0.mk hc0
  clear hr0 hc0
  have HB := Aside0.mk (Below.refl w.heap.size w)
  have H : (insolvencyref25_Lowest.l0 k l0 a1 a2 a3 a4 0) = some r := h
  clear h
  have H' := Aside0.mk H
  clear H
  go_enter Tryd.func25, Tryd.ntmps25
  go_wp2
  go_loopg [2, 11] k (fun kq v2 v11 w' => ∃ (x2_1 : Int) (x11_1 : Int), v2 = .int .i64 x2_1 ∧ v11 = .int .i64 x11_1 ∧ Aside0 (insolvencyref25_Lowest.l0 kq l0 a1 x2_1 a3 a4 x11_1 = some r) ∧ Aside0 (kq ≤ k) ∧ Aside0 (Below w.heap.size w w'))
  case atStart => exact ⟨(a2), (0), (by first | rfl | (simp; done) | (simp [*]; done)), (by first | rfl | (simp; done) | (simp [*]; done)), H', ⟨Nat.le_refl _⟩, ⟨by repeat (first | (with_reducible first | exact HB.out | apply below_alloc | apply pw_below_drewN | apply below_drew1) | exact HB.out)⟩⟩
  case round =>
    clear H'
    try clear c2
    try clear p2
    obtain ⟨x2_1, x11_1, rfl, rfl, HA, HK1, HB⟩ := hrel
    cases gk with
    | zero => exact absurd HA.out (by simp [insolvencyref25_Lowest.l0])
    | succ k1 =>
      have H := HA.out
      clear HA
      simp only [insolvencyref25_Lowest.l0] at H
      by_cases c6 : x11_1 < (l0.length : Int)
      · rw [if_pos c6] at H
        have c6b0 : decide (x11_1 < (l0.length : Int)) = true := decide_eq_true c6
        clear c6
        by_cases c7 : 0 ≤ x11_1
        · rw [if_pos c7] at H
          have c7b0 : decide (0 ≤ x11_1) = true := decide_eq_true c7
          clear c7
          by_cases c8 : ((rd_T39 l0 x11_1).f0) < a3
          · rw [if_pos c8] at H
            have c8b0 : decide (((rd_T39 l0 x11_1).f0) < a3) = true := decide_eq_true c8
            clear c8
            replace H := Option.bind_eq_some_iff.mp H
            obtain ⟨t266, A90, H⟩ := H
            replace H : (insolvencyref25_Lowest.l0 k1 l0 a1 (wrap64 (x2_1 + t266)) a3 a4 (wrap64 (x11_1 + 1))) = some r := H
            have A9 := Aside0.mk A90
            clear A90
            have H' := Aside0.mk H
            clear H
            have p264 : 0 ≤ (x11_1 : Int) := of_decide_eq_true (by first | (with_reducible assumption) | assumption)
            have q264 : x11_1 < (l0.length : Int) := of_decide_eq_true (by first | (with_reducible assumption) | assumption)
            obtain ⟨ad264, e264, hx264_0, hx264_1, hx264_2, hx264_3, hx264_4, hx264_5⟩ := at_T39 HR0.out x11_1 p264 q264
            cases e264
            replace hx264_0 := (HB.out.cell (World.block_lt_of_cell? w _ hx264_0)).trans hx264_0
            replace hx264_1 := (HB.out.cell (World.block_lt_of_cell? w _ hx264_1)).trans hx264_1
            replace hx264_2 := (HB.out.cell (World.block_lt_of_cell? w _ hx264_2)).trans hx264_2
            replace hx264_3 := (HB.out.cell (World.block_lt_of_cell? w _ hx264_3)).trans hx264_3
            replace hx264_4 := (HB.out.cell (World.block_lt_of_cell? w _ hx264_4)).trans hx264_4
            replace hx264_5 := (HB.out.cell (World.block_lt_of_cell? w _ hx264_5)).trans hx264_5
            replace p264 := eq_true p264
            replace q264 := eq_true q264
            have p265 : 0 ≤ (x11_1 : Int) := of_decide_eq_true (by first | (with_reducible assumption) | assumption)
            have q265 : x11_1 < (l0.length : Int) := of_decide_eq_true (by first | (with_reducible assumption) | assumption)
            obtain ⟨ad265, e265, hx265_0, hx265_1, hx265_2, hx265_3, hx265_4, hx265_5⟩ := at_T39 HR0.out x11_1 p265 q265
            obtain rfl : ad264 = ad265 := (by injection e265)
            replace hx265_0 := (HB.out.cell (World.block_lt_of_cell? w _ hx265_0)).trans hx265_0
            replace hx265_1 := (HB.out.cell (World.block_lt_of_cell? w _ hx265_1)).trans hx265_1
            replace hx265_2 := (HB.out.cell (World.block_lt_of_cell? w _ hx265_2)).trans hx265_2
            replace hx265_3 := (HB.out.cell (World.block_lt_of_cell? w _ hx265_3)).trans hx265_3
            replace hx265_4 := (HB.out.cell (World.block_lt_of_cell? w _ hx265_4)).trans hx265_4
            replace hx265_5 := (HB.out.cell (World.block_lt_of_cell? w _ hx265_5)).trans hx265_5
            replace p265 := eq_true p265
            replace q265 := eq_true q265
            go_wp2_with (first | ((with_reducible refine gate_callee (f := 21) rfl ?_); refine goesL_ (some 33) rfl rfl Tryd.func21 (by kernel_rfl) rfl #[.agg #[.int .i64 ((rd_T39 l0 x11_1).f0), .int .i64 ((rd_T39 l0 x11_1).f1), .int .i64 ((rd_T39 l0 x11_1).f2), .int .i64 ((rd_T39 l0 x11_1).f3), .int .i64 ((rd_T39 l0 x11_1).f4), .int .i64 ((rd_T39 l0 x11_1).f5)], .int .i64 a1] rfl (by (try simp only [List.map_toArray, List.map_cons, List.map_nil]); first | done | rfl | (simp only [List.length_drop, List.length_take]; rfl)) ?_; (with_reducible refine (insolvencyref25_Money.calls k1 ((rd_T39 l0 x11_1).f0) ((rd_T39 l0 x11_1).f1) ((rd_T39 l0 x11_1).f2) ((rd_T39 l0 x11_1).f3) ((rd_T39 l0 x11_1).f4) ((rd_T39 l0 x11_1).f5) a1 t266 _ A9.out).mono ?_); rintro e w10 ⟨rfl, hb⟩; refine ⟨_, rfl, ?_⟩; have n0_ := Aside0.mk (below_step (by repeat (first | (with_reducible first | exact HB.out | apply below_alloc | apply pw_below_drewN | apply below_drew1) | exact HB.out)) hb); clear HB; have HB := n0_; clear n0_; (try clear hb); (try clear hb2); (try clear hk); (try clear hi)))
            go_roundg k1
            case measure => have := HK1.out; omega
            case rel => exact ⟨(wrap64 (x2_1 + t266)), (wrap64 (x11_1 + 1)), (by first | rfl | (simp; done) | (simp [*]; done)), (by first | rfl | (simp; done) | (simp [*]; done)), H', ⟨by have := HK1.out; omega⟩, ⟨by repeat (first | (with_reducible first | exact HB.out | apply below_alloc | apply pw_below_drewN | apply below_drew1) | exact HB.out)⟩⟩
          · rw [if_neg c8] at H
            have c8b0 : decide (((rd_T39 l0 x11_1).f0) < a3) = false := decide_eq_false c8
            clear c8
            have H' := Aside0.mk H
            clear H
            have p264 : 0 ≤ (x11_1 : Int) := of_decide_eq_true (by first | (with_reducible assumption) | assumption)
            have q264 : x11_1 < (l0.length : Int) := of_decide_eq_true (by first | (with_reducible assumption) | assumption)
            obtain ⟨ad264, e264, hx264_0, hx264_1, hx264_2, hx264_3, hx264_4, hx264_5⟩ := at_T39 HR0.out x11_1 p264 q264
            cases e264
            replace hx264_0 := (HB.out.cell (World.block_lt_of_cell? w _ hx264_0)).trans hx264_0
            replace hx264_1 := (HB.out.cell (World.block_lt_of_cell? w _ hx264_1)).trans hx264_1
            replace hx264_2 := (HB.out.cell (World.block_lt_of_cell? w _ hx264_2)).trans hx264_2
            replace hx264_3 := (HB.out.cell (World.block_lt_of_cell? w _ hx264_3)).trans hx264_3
            replace hx264_4 := (HB.out.cell (World.block_lt_of_cell? w _ hx264_4)).trans hx264_4
            replace hx264_5 := (HB.out.cell (World.block_lt_of_cell? w _ hx264_5)).trans hx264_5
            replace p264 := eq_true p264
            replace q264 := eq_true q264
            go_wp2
            go_roundg k1
            case measure => have := HK1.out; omega
            case rel => exact ⟨(x2_1), (wrap64 (x11_1 + 1)), (by first | rfl | (simp; done) | (simp [*]; done)), (by first | rfl | (simp; done) | (simp [*]; done)), H', ⟨by have := HK1.out; omega⟩, ⟨by repeat (first | (with_reducible first | exact HB.out | apply below_alloc | apply pw_below_drewN | apply below_drew1) | exact HB.out)⟩⟩
        · rw [if_neg c7] at H
          exact absurd H (by simp)
      · rw [if_neg c6] at H
        have c6b0 : decide (x11_1 < (l0.length : Int)) = false := decide_eq_false c6
        clear c6
        have H' := Aside0.mk H
        clear H
        go_wp2
        go_loopg [2, 12, 13] k1 (fun kq v2 v12 v13 w' => ∃ (x2_2 : Int) (x12_2 : Int) (x13_2 : Int), v2 = .int .i64 x2_2 ∧ v12 = .int .i64 x12_2 ∧ v13 = .int .i64 x13_2 ∧ Aside0 (insolvencyref25_Lowest.l1 kq l0 a1 x2_2 a3 a4 x12_2 x13_2 = some r) ∧ Aside0 (kq ≤ k1) ∧ Aside0 (Below w.heap.size w w'))
        case atStart => exact ⟨(x2_1), (x2_1), (0), (by first | rfl | (simp; done) | (simp [*]; done)), (by first | rfl | (simp; done) | (simp [*]; done)), (by first | rfl | (simp; done) | (simp [*]; done)), H', ⟨Nat.le_refl _⟩, ⟨by repeat (first | (with_reducible first | exact HB.out | apply below_alloc | apply pw_below_drewN | apply below_drew1) | exact HB.out)⟩⟩
        case round =>
          clear H'
          try clear c2
          try clear p2
          try clear q2
          try clear hx2
          try clear c6
          try clear c6b0
          try clear p6
          try clear c7
          try clear c7b0
          try clear c8
          try clear c8b0
          try clear hx264_0
          try clear hx264_1
          try clear hx264_2
          try clear hx264_3
          try clear hx264_4
          try clear hx264_5
          try clear hx265_0
          try clear hx265_1
          try clear hx265_2
          try clear hx265_3
          try clear hx265_4
          try clear hx265_5
          try clear p2
          try clear p264
          try clear p265
          try clear q264
          try clear q265
          obtain ⟨x2_2, x12_2, x13_2, rfl, rfl, rfl, HA, HK2, HB⟩ := hrel
          cases gk with
          | zero => exact absurd HA.out (by simp [insolvencyref25_Lowest.l1])
          | succ k2 =>
            have H := HA.out
            clear HA
            simp only [insolvencyref25_Lowest.l1] at H
            by_cases c11 : x13_2 < (l0.length : Int)
            · rw [if_pos c11] at H
              have c11b0 : decide (x13_2 < (l0.length : Int)) = true := decide_eq_true c11
              clear c11
              by_cases c12 : 0 ≤ x13_2
              · rw [if_pos c12] at H
                have c12b0 : decide (0 ≤ x13_2) = true := decide_eq_true c12
                clear c12
                by_cases c13 : ((rd_T39 l0 x13_2).f0) ≥ a3
                · rw [if_pos c13] at H
                  have c13b0 : decide (a3 ≤ ((rd_T39 l0 x13_2).f0)) = true := decide_eq_true c13
                  clear c13
                  by_cases c14 : ((rd_T39 l0 x13_2).f0) ≤ a4
                  · rw [if_pos c14] at H
                    have c14b0 : decide (((rd_T39 l0 x13_2).f0) ≤ a4) = true := decide_eq_true c14
                    clear c14
                    replace H := Option.bind_eq_some_iff.mp H
                    obtain ⟨t270, A150, H⟩ := H
                    replace H : (insolvencyref25_Lowest.l1 k2 l0 a1 (wrap64 (x2_2 + t270)) a3 a4 (mn x12_2 (wrap64 (x2_2 + t270))) (wrap64 (x13_2 + 1))) = some r := H
                    have A15 := Aside0.mk A150
                    clear A150
                    obtain ⟨ji16, hji16⟩ : ∃ j_ : Int, (mn x12_2 (wrap64 (x2_2 + t270))) = j_ := ⟨_, rfl⟩
                    replace H : (insolvencyref25_Lowest.l1 k2 l0 a1 (wrap64 (x2_2 + t270)) a3 a4 ji16 (wrap64 (x13_2 + 1))) = some r := by first | (rw [hji16] at H; exact H) | (simp only [hji16] at H ⊢; exact H)
                    (try rw [hji16] at A15)
                    have hji16_ : (if (wrap64 (x2_2 + t270)) < x12_2 then (wrap64 (x2_2 + t270)) else x12_2) = ji16 := hji16
                    have H' := Aside0.mk H
                    clear H
                    have p267 : 0 ≤ (x13_2 : Int) := of_decide_eq_true (by first | (with_reducible assumption) | assumption)
                    have q267 : x13_2 < (l0.length : Int) := of_decide_eq_true (by first | (with_reducible assumption) | assumption)
                    obtain ⟨ad267, e267, hx267_0, hx267_1, hx267_2, hx267_3, hx267_4, hx267_5⟩ := at_T39 HR0.out x13_2 p267 q267
                    cases e267
                    replace hx267_0 := (HB.out.cell (World.block_lt_of_cell? w _ hx267_0)).trans hx267_0
                    replace hx267_1 := (HB.out.cell (World.block_lt_of_cell? w _ hx267_1)).trans hx267_1
                    replace hx267_2 := (HB.out.cell (World.block_lt_of_cell? w _ hx267_2)).trans hx267_2
                    replace hx267_3 := (HB.out.cell (World.block_lt_of_cell? w _ hx267_3)).trans hx267_3
                    replace hx267_4 := (HB.out.cell (World.block_lt_of_cell? w _ hx267_4)).trans hx267_4
                    replace hx267_5 := (HB.out.cell (World.block_lt_of_cell? w _ hx267_5)).trans hx267_5
                    replace p267 := eq_true p267
                    replace q267 := eq_true q267
                    have p268 : 0 ≤ (x13_2 : Int) := of_decide_eq_true (by first | (with_reducible assumption) | assumption)
                    have q268 : x13_2 < (l0.length : Int) := of_decide_eq_true (by first | (with_reducible assumption) | assumption)
                    obtain ⟨ad268, e268, hx268_0, hx268_1, hx268_2, hx268_3, hx268_4, hx268_5⟩ := at_T39 HR0.out x13_2 p268 q268
                    obtain rfl : ad267 = ad268 := (by injection e268)
                    replace hx268_0 := (HB.out.cell (World.block_lt_of_cell? w _ hx268_0)).trans hx268_0
                    replace hx268_1 := (HB.out.cell (World.block_lt_of_cell? w _ hx268_1)).trans hx268_1
                    replace hx268_2 := (HB.out.cell (World.block_lt_of_cell? w _ hx268_2)).trans hx268_2
                    replace hx268_3 := (HB.out.cell (World.block_lt_of_cell? w _ hx268_3)).trans hx268_3
                    replace hx268_4 := (HB.out.cell (World.block_lt_of_cell? w _ hx268_4)).trans hx268_4
                    replace hx268_5 := (HB.out.cell (World.block_lt_of_cell? w _ hx268_5)).trans hx268_5
                    replace p268 := eq_true p268
                    replace q268 := eq_true q268
                    have p269 : 0 ≤ (x13_2 : Int) := of_decide_eq_true (by first | (with_reducible assumption) | assumption)
                    have q269 : x13_2 < (l0.length : Int) := of_decide_eq_true (by first | (with_reducible assumption) | assumption)
                    obtain ⟨ad269, e269, hx269_0, hx269_1, hx269_2, hx269_3, hx269_4, hx269_5⟩ := at_T39 HR0.out x13_2 p269 q269
                    obtain rfl : ad267 = ad269 := (by injection e269)
                    replace hx269_0 := (HB.out.cell (World.block_lt_of_cell? w _ hx269_0)).trans hx269_0
                    replace hx269_1 := (HB.out.cell (World.block_lt_of_cell? w _ hx269_1)).trans hx269_1
                    replace hx269_2 := (HB.out.cell (World.block_lt_of_cell? w _ hx269_2)).trans hx269_2
                    replace hx269_3 := (HB.out.cell (World.block_lt_of_cell? w _ hx269_3)).trans hx269_3
                    replace hx269_4 := (HB.out.cell (World.block_lt_of_cell? w _ hx269_4)).trans hx269_4
                    replace hx269_5 := (HB.out.cell (World.block_lt_of_cell? w _ hx269_5)).trans hx269_5
                    replace p269 := eq_true p269
                    replace q269 := eq_true q269
                    go_wp2_with (first | ((with_reducible refine gate_callee (f := 21) rfl ?_); refine goesL_ (some 64) rfl rfl Tryd.func21 (by kernel_rfl) rfl #[.agg #[.int .i64 ((rd_T39 l0 x13_2).f0), .int .i64 ((rd_T39 l0 x13_2).f1), .int .i64 ((rd_T39 l0 x13_2).f2), .int .i64 ((rd_T39 l0 x13_2).f3), .int .i64 ((rd_T39 l0 x13_2).f4), .int .i64 ((rd_T39 l0 x13_2).f5)], .int .i64 a1] rfl (by (try simp only [List.map_toArray, List.map_cons, List.map_nil]); first | done | rfl | (simp only [List.length_drop, List.length_take]; rfl)) ?_; (with_reducible refine (insolvencyref25_Money.calls k2 ((rd_T39 l0 x13_2).f0) ((rd_T39 l0 x13_2).f1) ((rd_T39 l0 x13_2).f2) ((rd_T39 l0 x13_2).f3) ((rd_T39 l0 x13_2).f4) ((rd_T39 l0 x13_2).f5) a1 t270 _ A15.out).mono ?_); rintro e w17 ⟨rfl, hb⟩; refine ⟨_, rfl, ?_⟩; have n0_ := Aside0.mk (below_step (by repeat (first | (with_reducible first | exact HB.out | apply below_alloc | apply pw_below_drewN | apply below_drew1) | exact HB.out)) hb); clear HB; have HB := n0_; clear n0_; (try clear hb); (try clear hb2); (try clear hk); (try clear hi)))
                    go_roundg k2
                    case measure => have := HK1.out; have := HK2.out; omega
                    case rel => exact ⟨(wrap64 (x2_2 + t270)), (ji16), (wrap64 (x13_2 + 1)), (by first | rfl | (simp; done) | (simp [*]; done)), (by first | rfl | (simp; done) | (simp only [← hji16] <;> (first | rfl | simp)) | (simp [*]; done)), (by first | rfl | (simp; done) | (simp [*]; done)), H', ⟨by have := HK1.out; have := HK2.out; omega⟩, ⟨by repeat (first | (with_reducible first | exact HB.out | apply below_alloc | apply pw_below_drewN | apply below_drew1) | exact HB.out)⟩⟩
                  · rw [if_neg c14] at H
                    have c14b0 : decide (((rd_T39 l0 x13_2).f0) ≤ a4) = false := decide_eq_false c14
                    clear c14
                    have H' := Aside0.mk H
                    clear H
                    have p267 : 0 ≤ (x13_2 : Int) := of_decide_eq_true (by first | (with_reducible assumption) | assumption)
                    have q267 : x13_2 < (l0.length : Int) := of_decide_eq_true (by first | (with_reducible assumption) | assumption)
                    obtain ⟨ad267, e267, hx267_0, hx267_1, hx267_2, hx267_3, hx267_4, hx267_5⟩ := at_T39 HR0.out x13_2 p267 q267
                    cases e267
                    replace hx267_0 := (HB.out.cell (World.block_lt_of_cell? w _ hx267_0)).trans hx267_0
                    replace hx267_1 := (HB.out.cell (World.block_lt_of_cell? w _ hx267_1)).trans hx267_1
                    replace hx267_2 := (HB.out.cell (World.block_lt_of_cell? w _ hx267_2)).trans hx267_2
                    replace hx267_3 := (HB.out.cell (World.block_lt_of_cell? w _ hx267_3)).trans hx267_3
                    replace hx267_4 := (HB.out.cell (World.block_lt_of_cell? w _ hx267_4)).trans hx267_4
                    replace hx267_5 := (HB.out.cell (World.block_lt_of_cell? w _ hx267_5)).trans hx267_5
                    replace p267 := eq_true p267
                    replace q267 := eq_true q267
                    have p268 : 0 ≤ (x13_2 : Int) := of_decide_eq_true (by first | (with_reducible assumption) | assumption)
                    have q268 : x13_2 < (l0.length : Int) := of_decide_eq_true (by first | (with_reducible assumption) | assumption)
                    obtain ⟨ad268, e268, hx268_0, hx268_1, hx268_2, hx268_3, hx268_4, hx268_5⟩ := at_T39 HR0.out x13_2 p268 q268
                    obtain rfl : ad267 = ad268 := (by injection e268)
                    replace hx268_0 := (HB.out.cell (World.block_lt_of_cell? w _ hx268_0)).trans hx268_0
                    replace hx268_1 := (HB.out.cell (World.block_lt_of_cell? w _ hx268_1)).trans hx268_1
                    replace hx268_2 := (HB.out.cell (World.block_lt_of_cell? w _ hx268_2)).trans hx268_2
                    replace hx268_3 := (HB.out.cell (World.block_lt_of_cell? w _ hx268_3)).trans hx268_3
                    replace hx268_4 := (HB.out.cell (World.block_lt_of_cell? w _ hx268_4)).trans hx268_4
                    replace hx268_5 := (HB.out.cell (World.block_lt_of_cell? w _ hx268_5)).trans hx268_5
                    replace p268 := eq_true p268
                    replace q268 := eq_true q268
                    go_wp2
                    go_roundg k2
                    case measure => have := HK1.out; have := HK2.out; omega
                    case rel => exact ⟨(x2_2), (x12_2), (wrap64 (x13_2 + 1)), (by first | rfl | (simp; done) | (simp [*]; done)), (by first | rfl | (simp; done) | (simp [*]; done)), (by first | rfl | (simp; done) | (simp [*]; done)), H', ⟨by have := HK1.out; have := HK2.out; omega⟩, ⟨by repeat (first | (with_reducible first | exact HB.out | apply below_alloc | apply pw_below_drewN | apply below_drew1) | exact HB.out)⟩⟩
                · rw [if_neg c13] at H
                  have c13b0 : decide (a3 ≤ ((rd_T39 l0 x13_2).f0)) = false := decide_eq_false c13
                  clear c13
                  have H' := Aside0.mk H
                  clear H
                  have p267 : 0 ≤ (x13_2 : Int) := of_decide_eq_true (by first | (with_reducible assumption) | assumption)
                  have q267 : x13_2 < (l0.length : Int) := of_decide_eq_true (by first | (with_reducible assumption) | assumption)
                  obtain ⟨ad267, e267, hx267_0, hx267_1, hx267_2, hx267_3, hx267_4, hx267_5⟩ := at_T39 HR0.out x13_2 p267 q267
                  cases e267
                  replace hx267_0 := (HB.out.cell (World.block_lt_of_cell? w _ hx267_0)).trans hx267_0
                  replace hx267_1 := (HB.out.cell (World.block_lt_of_cell? w _ hx267_1)).trans hx267_1
                  replace hx267_2 := (HB.out.cell (World.block_lt_of_cell? w _ hx267_2)).trans hx267_2
                  replace hx267_3 := (HB.out.cell (World.block_lt_of_cell? w _ hx267_3)).trans hx267_3
                  replace hx267_4 := (HB.out.cell (World.block_lt_of_cell? w _ hx267_4)).trans hx267_4
                  replace hx267_5 := (HB.out.cell (World.block_lt_of_cell? w _ hx267_5)).trans hx267_5
                  replace p267 := eq_true p267
                  replace q267 := eq_true q267
                  go_wp2
                  go_roundg k2
                  case measure => have := HK1.out; have := HK2.out; omega
                  case rel => exact ⟨(x2_2), (x12_2), (wrap64 (x13_2 + 1)), (by first | rfl | (simp; done) | (simp [*]; done)), (by first | rfl | (simp; done) | (simp [*]; done)), (by first | rfl | (simp; done) | (simp [*]; done)), H', ⟨by have := HK1.out; have := HK2.out; omega⟩, ⟨by repeat (first | (with_reducible first | exact HB.out | apply below_alloc | apply pw_below_drewN | apply below_drew1) | exact HB.out)⟩⟩
              · rw [if_neg c12] at H
                exact absurd H (by simp)
            · rw [if_neg c11] at H
              have c11b0 : decide (x13_2 < (l0.length : Int)) = false := decide_eq_false c11
              clear c11
              obtain rfl := Option.some.inj H
              go_wp2
              go_ret
              exact ⟨by first | rfl | (simp [errW_none, errW_some] <;> rfl) | (simp [*, errW_none, errW_some] <;> rfl), by repeat (first | (with_reducible first | exact HB.out | apply below_alloc | apply pw_below_drewN | apply below_drew1) | exact HB.out)⟩

end Go.Proofs.YtcehmgmhlmbhnaaDoor.Pr
