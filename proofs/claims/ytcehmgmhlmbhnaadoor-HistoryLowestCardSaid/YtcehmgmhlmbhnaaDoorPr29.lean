-- Written by a program of this session (wip/tools/drive.py over the kit's print.py) out of the translation.
import Derived.Test.YtcehmgmhlmbhnaaDoorPr0
import Derived.Test.YtcehmgmhlmbhnaaDoorPr10
import Derived.Test.YtcehmgmhlmbhnaaDoorPr11
import Derived.Test.YtcehmgmhlmbhnaaDoorPr12
import Derived.Test.YtcehmgmhlmbhnaaDoorPr25
import Derived.Test.YtcehmgmhlmbhnaaDoorPr26
namespace Go.Proofs.YtcehmgmhlmbhnaaDoor.Pr
open Go.RowKit Go.Proofs.YtcehmgmhlmbhnaaDoorW.PrintWords Go.Proofs.YtcehmgmhlmbhnaaDoorW.PrintLast Go.Proofs.YtcehmgmhlmbhnaaDoorW.PrintMore
attribute [local go_sem] max2_int min2_int max_two min_two max_three min_three max_four min_four   -- for this text's walks alone
set_option linter.unusedVariables false
set_option linter.unusedSimpArgs false

/-! ### insolvencylaw25_HistoryLowest: function 9 -/
mutual
def insolvencylaw25_HistoryLowest.l0 : Nat → Int → List (S39) → Int → Int → Int → Int → Int → Option (Bool)
  | 0, _, _, _, _, _, _, _ => none
  | k + 1, x2, x11, x12, x13, x14, x15, x16 => if x16 ≤ x14 then ((history_Balance.f k x11 x12 (wrap64 (x2)) x16).bind fun t288 => (if t288 < x15 then (some false) else (insolvencylaw25_HistoryLowest.l0 k x2 x11 x12 x13 x14 x15 (wrap64 (x16 + 1))))) else ((history_Balance.f k x11 x12 (wrap64 (x2)) (wrap64 (x13 - 1))).bind fun t289 => (insolvencylaw25_HistoryLowest.l1 k x11 x12 x13 x14 x15 t289 (t289 == x15) 0))
def insolvencylaw25_HistoryLowest.l1 : Nat → List (S39) → Int → Int → Int → Int → Int → Bool → Int → Option (Bool)
  | 0, _, _, _, _, _, _, _, _ => none
  | k + 1, x11, x12, x13, x14, x15, x17, x18, x19 => if x19 < (x11.length : Int) then (if 0 ≤ x19 then (if ((rd_T39 x11 x19).f0) ≥ x13 then (if ((rd_T39 x11 x19).f0) ≤ x14 then ((history_Money.f k ((rd_T39 x11 x19).f0) ((rd_T39 x11 x19).f1) ((rd_T39 x11 x19).f2) ((rd_T39 x11 x19).f3) ((rd_T39 x11 x19).f4) ((rd_T39 x11 x19).f5) x12).bind fun t293 => (if x18 = true then (insolvencylaw25_HistoryLowest.l1 k x11 x12 x13 x14 x15 (wrap64 (x17 + t293)) true (wrap64 (x19 + 1))) else (insolvencylaw25_HistoryLowest.l1 k x11 x12 x13 x14 x15 (wrap64 (x17 + t293)) ((wrap64 (x17 + t293)) == x15) (wrap64 (x19 + 1))))) else (insolvencylaw25_HistoryLowest.l1 k x11 x12 x13 x14 x15 x17 x18 (wrap64 (x19 + 1)))) else (insolvencylaw25_HistoryLowest.l1 k x11 x12 x13 x14 x15 x17 x18 (wrap64 (x19 + 1)))) else (none)) else ((insolvencylaw25_awake.f k).bind fun t294 => (if t294 = true then (some x18) else (some false)))
end
def insolvencylaw25_HistoryLowest.f (k : Nat) (l0 : List (S67)) (a1 : Int) (a2 : Int) (a3 : Int) (a4 : Int) : Option (Bool) := (insolvencylaw0_Rows.f l0 4 20).bind fun t284 => ((history_Lowest.f k t284 (Int.tmod (wrap64 (a1)) 4) (wrap64 (a2)) (wrap64 (Int.tmod a3 60)) (wrap64 ((wrap64 (Int.tmod a3 60)) + (wrap64 (Int.tmod a4 40))))).bind fun t287 => (insolvencylaw25_HistoryLowest.l0 k a2 t284 (Int.tmod (wrap64 (a1)) 4) (wrap64 (Int.tmod a3 60)) (wrap64 ((wrap64 (Int.tmod a3 60)) + (wrap64 (Int.tmod a4 40)))) t287 (wrap64 ((wrap64 (Int.tmod a3 60)) - 1))))
theorem insolvencylaw25_HistoryLowest.mono_l : ∀ k, (∀ y0 y1 y2 y3 y4 y5 y6, LeO (insolvencylaw25_HistoryLowest.l0 k y0 y1 y2 y3 y4 y5 y6) (insolvencylaw25_HistoryLowest.l0 (k + 1) y0 y1 y2 y3 y4 y5 y6)) ∧ (∀ y0 y1 y2 y3 y4 y5 y6 y7, LeO (insolvencylaw25_HistoryLowest.l1 k y0 y1 y2 y3 y4 y5 y6 y7) (insolvencylaw25_HistoryLowest.l1 (k + 1) y0 y1 y2 y3 y4 y5 y6 y7))
  | 0 => ⟨fun _ _ _ _ _ _ _ r h => by simp [insolvencylaw25_HistoryLowest.l0] at h, fun _ _ _ _ _ _ _ _ r h => by simp [insolvencylaw25_HistoryLowest.l1] at h⟩
  | k + 1 => by
    obtain ⟨ih0, ih1⟩ := insolvencylaw25_HistoryLowest.mono_l k
    refine ⟨?_, ?_⟩
    · intro y0 y1 y2 y3 y4 y5 y6
      unfold insolvencylaw25_HistoryLowest.l0
      repeat' first
      | (with_reducible exact ih0 _ _ _ _ _ _ _)
      | (with_reducible exact ih1 _ _ _ _ _ _ _ _)
      | (with_reducible exact history_Balance.mono _ _ _ _ _)
      | (with_reducible exact history_Lowest.mono _ _ _ _ _ _)
      | (with_reducible exact history_Money.mono _ _ _ _ _ _ _ _)
      | (with_reducible exact insolvencylaw25_awake.mono _)
      | (with_reducible exact LeO.refl _)
      | (with_reducible exact LeO.none _)
      | (with_reducible refine LeO.ite ?_ ?_)
      | (with_reducible refine LeO.bind ?_ (fun _ => ?_))
      | exact ih0 _ _ _ _ _ _ _
      | exact ih1 _ _ _ _ _ _ _ _
      | exact history_Balance.mono _ _ _ _ _
      | exact history_Lowest.mono _ _ _ _ _ _
      | exact history_Money.mono _ _ _ _ _ _ _ _
      | exact insolvencylaw25_awake.mono _
      | exact LeO.none _
      | refine LeO.ite ?_ ?_
      | refine LeO.bind ?_ (fun _ => ?_)
    · intro y0 y1 y2 y3 y4 y5 y6 y7
      unfold insolvencylaw25_HistoryLowest.l1
      repeat' first
      | (with_reducible exact ih0 _ _ _ _ _ _ _)
      | (with_reducible exact ih1 _ _ _ _ _ _ _ _)
      | (with_reducible exact history_Balance.mono _ _ _ _ _)
      | (with_reducible exact history_Lowest.mono _ _ _ _ _ _)
      | (with_reducible exact history_Money.mono _ _ _ _ _ _ _ _)
      | (with_reducible exact insolvencylaw25_awake.mono _)
      | (with_reducible exact LeO.refl _)
      | (with_reducible exact LeO.none _)
      | (with_reducible refine LeO.ite ?_ ?_)
      | (with_reducible refine LeO.bind ?_ (fun _ => ?_))
      | exact ih0 _ _ _ _ _ _ _
      | exact ih1 _ _ _ _ _ _ _ _
      | exact history_Balance.mono _ _ _ _ _
      | exact history_Lowest.mono _ _ _ _ _ _
      | exact history_Money.mono _ _ _ _ _ _ _ _
      | exact insolvencylaw25_awake.mono _
      | exact LeO.none _
      | refine LeO.ite ?_ ?_
      | refine LeO.bind ?_ (fun _ => ?_)
theorem insolvencylaw25_HistoryLowest.mono : ∀ a0 a1 a2 a3 a4 k, LeO (insolvencylaw25_HistoryLowest.f k a0 a1 a2 a3 a4) (insolvencylaw25_HistoryLowest.f (k + 1) a0 a1 a2 a3 a4) := by
  intro a0 a1 a2 a3 a4 k
  obtain ⟨ih0, ih1⟩ := insolvencylaw25_HistoryLowest.mono_l k
  unfold insolvencylaw25_HistoryLowest.f
  repeat' first
      | (with_reducible exact ih0 _ _ _ _ _ _ _)
      | (with_reducible exact ih1 _ _ _ _ _ _ _ _)
      | (with_reducible exact history_Balance.mono _ _ _ _ _)
      | (with_reducible exact history_Lowest.mono _ _ _ _ _ _)
      | (with_reducible exact history_Money.mono _ _ _ _ _ _ _ _)
      | (with_reducible exact insolvencylaw25_awake.mono _)
      | (with_reducible exact LeO.refl _)
      | (with_reducible exact LeO.none _)
      | (with_reducible refine LeO.ite ?_ ?_)
      | (with_reducible refine LeO.bind ?_ (fun _ => ?_))
      | exact ih0 _ _ _ _ _ _ _
      | exact ih1 _ _ _ _ _ _ _ _
      | exact history_Balance.mono _ _ _ _ _
      | exact history_Lowest.mono _ _ _ _ _ _
      | exact history_Money.mono _ _ _ _ _ _ _ _
      | exact insolvencylaw25_awake.mono _
      | exact LeO.none _
      | refine LeO.ite ?_ ?_
      | refine LeO.bind ?_ (fun _ => ?_)
set_option maxHeartbeats 8000000 in
set_option maxRecDepth 100000 in
theorem insolvencylaw25_HistoryLowest.calls (k : Nat) (A0 : Option Addr) (c0 : Nat) (l0 : List (S67)) (a1 : Int) (a2 : Int) (a3 : Int) (a4 : Int) (r : Bool) (w : World) (hLd : LaidW w) (hr0 : Kd.C k67 w A0 l0.length l0) (hc0 : l0.length ≤ c0) (h : insolvencylaw25_HistoryLowest.f k l0 a1 a2 a3 a4 = some r) :
    Calls Tryd.prog 9 #[.slice A0 l0.length c0, .int .u8 a1, .int .i16 a2, .int .u8 a3, .int .u8 a4] w fun e w' => e = .returned (.bool r) ∧ Below w.heap.size w w' := by
  have hu39 := Tryd.underlying39
  have HR0 := Aside0.mk hr0
  have HC0 := Aside0.mk hc0
  clear hr0 hc0
  have HB := Aside0.mk (Below.refl w.heap.size w)
  have HLd := Aside0.mk hLd
  clear hLd
  have H : ((insolvencylaw0_Rows.f l0 4 20).bind fun t284 => ((history_Lowest.f k t284 (Int.tmod (wrap64 (a1)) 4) (wrap64 (a2)) (wrap64 (Int.tmod a3 60)) (wrap64 ((wrap64 (Int.tmod a3 60)) + (wrap64 (Int.tmod a4 40))))).bind fun t287 => (insolvencylaw25_HistoryLowest.l0 k a2 t284 (Int.tmod (wrap64 (a1)) 4) (wrap64 (Int.tmod a3 60)) (wrap64 ((wrap64 (Int.tmod a3 60)) + (wrap64 (Int.tmod a4 40)))) t287 (wrap64 ((wrap64 (Int.tmod a3 60)) - 1))))) = some r := h
  clear h
  replace H := Option.bind_eq_some_iff.mp H
  obtain ⟨t284, A60, H⟩ := H
  replace H : ((history_Lowest.f k t284 (Int.tmod (wrap64 (a1)) 4) (wrap64 (a2)) (wrap64 (Int.tmod a3 60)) (wrap64 ((wrap64 (Int.tmod a3 60)) + (wrap64 (Int.tmod a4 40))))).bind fun t287 => (insolvencylaw25_HistoryLowest.l0 k a2 t284 (Int.tmod (wrap64 (a1)) 4) (wrap64 (Int.tmod a3 60)) (wrap64 ((wrap64 (Int.tmod a3 60)) + (wrap64 (Int.tmod a4 40)))) t287 (wrap64 ((wrap64 (Int.tmod a3 60)) - 1)))) = some r := H
  have A6 := Aside0.mk A60
  clear A60
  replace H := Option.bind_eq_some_iff.mp H
  obtain ⟨t287, A70, H⟩ := H
  replace H : (insolvencylaw25_HistoryLowest.l0 k a2 t284 (Int.tmod (wrap64 (a1)) 4) (wrap64 (Int.tmod a3 60)) (wrap64 ((wrap64 (Int.tmod a3 60)) + (wrap64 (Int.tmod a4 40)))) t287 (wrap64 ((wrap64 (Int.tmod a3 60)) - 1))) = some r := H
  have A7 := Aside0.mk A70
  clear A70
  have H' := Aside0.mk H
  clear H
  go_enter Tryd.func9, Tryd.ntmps9
  go_wp2_with (first | ((with_reducible refine gate_callee (f := 14) rfl ?_); refine goesL_ (some 21) rfl rfl Tryd.func14 (by kernel_rfl) rfl #[.slice A0 l0.length c0, .int .i64 4, .int .i64 20] rfl (by (try simp only [List.map_toArray, List.map_cons, List.map_nil]); first | done | rfl | (simp only [List.length_drop, List.length_take]; rfl)) ?_; (with_reducible refine (insolvencylaw0_Rows.calls _ _ l0 4 20 t284 _ ?side1 ?side2 A6.out).mono ?_); (case side1 => repeat (first | exact HR0.out | (with_reducible refine Kd.C_alloc ?_ _) | (with_reducible refine Kd.C_drewN ?_ _) | (with_reducible refine Kd.C_drew ?_))); (case side2 => exact HC0.out); rintro e w8 ⟨v285, rfl, ho0, hb⟩; refine ⟨_, rfl, ?_⟩; have n0_ := Aside0.mk (Kd.R_lower ho0 (below_size (by repeat (first | (with_reducible first | exact HB.out | apply below_alloc | apply pw_below_drewN | apply below_drew1) | exact HB.out)))); have n1_ := Aside0.mk (below_step (by repeat (first | (with_reducible first | exact HB.out | apply below_alloc | apply pw_below_drewN | apply below_drew1) | exact HB.out)) hb); clear HB; have HO286 := n0_; have HB := n1_; clear n0_ n1_; (try clear hb); (try clear hb2); (try clear hk); (try clear hi); (try clear ho0); obtain ⟨Ao9, co9, eo9⟩ := Kd.R_slice HO286.out; subst eo9) | ((with_reducible refine gate_callee (f := 24) rfl ?_); refine goesL_ (some 39) rfl rfl Tryd.func24 (by kernel_rfl) rfl #[.slice Ao9 t284.length co9, .int .i64 (Int.tmod (wrap64 (a1)) 4), .int .i64 (wrap64 (a2)), .int .i64 (wrap64 (Int.tmod a3 60)), .int .i64 (wrap64 ((wrap64 (Int.tmod a3 60)) + (wrap64 (Int.tmod a4 40))))] rfl (by (try simp only [List.map_toArray, List.map_cons, List.map_nil]); first | done | rfl | (simp only [List.length_drop, List.length_take]; rfl)) ?_; (with_reducible refine (history_Lowest.calls k _ _ t284 (Int.tmod (wrap64 (a1)) 4) (wrap64 (a2)) (wrap64 (Int.tmod a3 60)) (wrap64 ((wrap64 (Int.tmod a3 60)) + (wrap64 (Int.tmod a4 40)))) t287 _ ?side1 ?side2 A7.out).mono ?_); (case side1 => repeat (first | exact (Kd.R_reads' HO286.out).2.2 | (with_reducible refine Kd.C_alloc ?_ _) | (with_reducible refine Kd.C_drewN ?_ _) | (with_reducible refine Kd.C_drew ?_))); (case side2 => exact (Kd.R_reads' HO286.out).2.1); rintro e w10 ⟨rfl, hb⟩; refine ⟨_, rfl, ?_⟩; have n0_ := Aside0.mk (Kd.R_below (by (with_reducible repeat (first | apply Kd.R_alloc | apply Kd.R_drewN | apply Kd.R_drew)); exact HO286.out) hb); have n1_ := Aside0.mk (below_step (by repeat (first | (with_reducible first | exact HB.out | apply below_alloc | apply pw_below_drewN | apply below_drew1) | exact HB.out)) hb); clear HO286; clear HB; have HO286 := n0_; have HB := n1_; clear n0_ n1_; (try clear hb); (try clear hb2); (try clear hk); (try clear hi)))
  go_loopg [16] k (fun kq v16 w' => ∃ (x16_1 : Int), v16 = .int .i64 x16_1 ∧ Aside0 (insolvencylaw25_HistoryLowest.l0 kq a2 t284 (Int.tmod (wrap64 (a1)) 4) (wrap64 (Int.tmod a3 60)) (wrap64 ((wrap64 (Int.tmod a3 60)) + (wrap64 (Int.tmod a4 40)))) t287 x16_1 = some r) ∧ Aside0 (kq ≤ k) ∧ Aside0 (Kd.R k39 39 w' w.heap.size (fun _ => True) (.slice Ao9 t284.length co9) t284) ∧ Aside0 (Below w.heap.size w w'))
  case atStart => exact ⟨(wrap64 ((wrap64 (Int.tmod a3 60)) - 1)), (by first | rfl | (simp; done) | (simp [*]; done)), H', ⟨Nat.le_refl _⟩, ⟨by (with_reducible repeat (first | apply Kd.R_alloc | apply Kd.R_drewN | apply Kd.R_drew)); exact HO286.out⟩, ⟨by repeat (first | (with_reducible first | exact HB.out | apply below_alloc | apply pw_below_drewN | apply below_drew1) | exact HB.out)⟩⟩
  case round =>
    clear H'
    try clear c1
    try clear c2
    try clear p2
    try clear p6
    try clear c9
    obtain ⟨x16_1, rfl, HA, HK1, HO_11, HB⟩ := hrel
    cases gk with
    | zero => exact absurd HA.out (by simp [insolvencylaw25_HistoryLowest.l0])
    | succ k1 =>
      have H := HA.out
      clear HA
      simp only [insolvencylaw25_HistoryLowest.l0] at H
      by_cases c11 : x16_1 ≤ (wrap64 ((wrap64 (Int.tmod a3 60)) + (wrap64 (Int.tmod a4 40))))
      · rw [if_pos c11] at H
        have c11b0 : decide (x16_1 ≤ (wrap64 ((wrap64 (Int.tmod a3 60)) + (wrap64 (Int.tmod a4 40))))) = true := decide_eq_true c11
        clear c11
        replace H := Option.bind_eq_some_iff.mp H
        obtain ⟨t288, A120, H⟩ := H
        replace H : (if t288 < t287 then (some false) else (insolvencylaw25_HistoryLowest.l0 k1 a2 t284 (Int.tmod (wrap64 (a1)) 4) (wrap64 (Int.tmod a3 60)) (wrap64 ((wrap64 (Int.tmod a3 60)) + (wrap64 (Int.tmod a4 40)))) t287 (wrap64 (x16_1 + 1)))) = some r := H
        have A12 := Aside0.mk A120
        clear A120
        by_cases c13 : t288 < t287
        · rw [if_pos c13] at H
          have c13b0 : decide (t288 < t287) = true := decide_eq_true c13
          clear c13
          obtain rfl := Option.some.inj H
          go_wp2_with (first | ((with_reducible refine gate_callee (f := 22) rfl ?_); refine goesL_ (some 52) rfl rfl Tryd.func22 (by kernel_rfl) rfl #[.slice Ao9 t284.length co9, .int .i64 (Int.tmod (wrap64 (a1)) 4), .int .i64 (wrap64 (a2)), .int .i64 x16_1] rfl (by (try simp only [List.map_toArray, List.map_cons, List.map_nil]); first | done | rfl | (simp only [List.length_drop, List.length_take]; rfl)) ?_; (with_reducible refine (history_Balance.calls k1 _ _ t284 (Int.tmod (wrap64 (a1)) 4) (wrap64 (a2)) x16_1 t288 _ ?side1 ?side2 A12.out).mono ?_); (case side1 => repeat (first | exact (Kd.R_reads' HO_11.out).2.2 | (with_reducible refine Kd.C_alloc ?_ _) | (with_reducible refine Kd.C_drewN ?_ _) | (with_reducible refine Kd.C_drew ?_))); (case side2 => exact (Kd.R_reads' HO_11.out).2.1); rintro e w14 ⟨rfl, hb⟩; refine ⟨_, rfl, ?_⟩; have n0_ := Aside0.mk (Kd.R_below (by (with_reducible repeat (first | apply Kd.R_alloc | apply Kd.R_drewN | apply Kd.R_drew)); exact HO_11.out) hb); have n1_ := Aside0.mk (below_step (by repeat (first | (with_reducible first | exact HB.out | apply below_alloc | apply pw_below_drewN | apply below_drew1) | exact HB.out)) hb); clear HO_11; clear HB; have HO_11 := n0_; have HB := n1_; clear n0_ n1_; (try clear hb); (try clear hb2); (try clear hk); (try clear hi)))
          go_ret
          exact ⟨by first | rfl | (simp [errW_none, errW_some] <;> rfl) | (simp [*, errW_none, errW_some] <;> rfl), by repeat (first | (with_reducible first | exact HB.out | apply below_alloc | apply pw_below_drewN | apply below_drew1) | exact HB.out)⟩
        · rw [if_neg c13] at H
          have c13b0 : decide (t288 < t287) = false := decide_eq_false c13
          clear c13
          have H' := Aside0.mk H
          clear H
          go_wp2_with (first | ((with_reducible refine gate_callee (f := 22) rfl ?_); refine goesL_ (some 52) rfl rfl Tryd.func22 (by kernel_rfl) rfl #[.slice Ao9 t284.length co9, .int .i64 (Int.tmod (wrap64 (a1)) 4), .int .i64 (wrap64 (a2)), .int .i64 x16_1] rfl (by (try simp only [List.map_toArray, List.map_cons, List.map_nil]); first | done | rfl | (simp only [List.length_drop, List.length_take]; rfl)) ?_; (with_reducible refine (history_Balance.calls k1 _ _ t284 (Int.tmod (wrap64 (a1)) 4) (wrap64 (a2)) x16_1 t288 _ ?side1 ?side2 A12.out).mono ?_); (case side1 => repeat (first | exact (Kd.R_reads' HO_11.out).2.2 | (with_reducible refine Kd.C_alloc ?_ _) | (with_reducible refine Kd.C_drewN ?_ _) | (with_reducible refine Kd.C_drew ?_))); (case side2 => exact (Kd.R_reads' HO_11.out).2.1); rintro e w15 ⟨rfl, hb⟩; refine ⟨_, rfl, ?_⟩; have n0_ := Aside0.mk (Kd.R_below (by (with_reducible repeat (first | apply Kd.R_alloc | apply Kd.R_drewN | apply Kd.R_drew)); exact HO_11.out) hb); have n1_ := Aside0.mk (below_step (by repeat (first | (with_reducible first | exact HB.out | apply below_alloc | apply pw_below_drewN | apply below_drew1) | exact HB.out)) hb); clear HO_11; clear HB; have HO_11 := n0_; have HB := n1_; clear n0_ n1_; (try clear hb); (try clear hb2); (try clear hk); (try clear hi)))
          go_roundg k1
          case measure => have := HK1.out; omega
          case rel => exact ⟨(wrap64 (x16_1 + 1)), (by first | rfl | (simp; done) | (simp [*]; done)), H', ⟨by have := HK1.out; omega⟩, ⟨by (with_reducible repeat (first | apply Kd.R_alloc | apply Kd.R_drewN | apply Kd.R_drew)); exact HO_11.out⟩, ⟨by repeat (first | (with_reducible first | exact HB.out | apply below_alloc | apply pw_below_drewN | apply below_drew1) | exact HB.out)⟩⟩
      · rw [if_neg c11] at H
        have c11b0 : decide (x16_1 ≤ (wrap64 ((wrap64 (Int.tmod a3 60)) + (wrap64 (Int.tmod a4 40))))) = false := decide_eq_false c11
        clear c11
        replace H := Option.bind_eq_some_iff.mp H
        obtain ⟨t289, A160, H⟩ := H
        replace H : (insolvencylaw25_HistoryLowest.l1 k1 t284 (Int.tmod (wrap64 (a1)) 4) (wrap64 (Int.tmod a3 60)) (wrap64 ((wrap64 (Int.tmod a3 60)) + (wrap64 (Int.tmod a4 40)))) t287 t289 (t289 == t287) 0) = some r := H
        have A16 := Aside0.mk A160
        clear A160
        have H' := Aside0.mk H
        clear H
        go_wp2_with (first | ((with_reducible refine gate_callee (f := 22) rfl ?_); refine goesL_ (some 61) rfl rfl Tryd.func22 (by kernel_rfl) rfl #[.slice Ao9 t284.length co9, .int .i64 (Int.tmod (wrap64 (a1)) 4), .int .i64 (wrap64 (a2)), .int .i64 (wrap64 ((wrap64 (Int.tmod a3 60)) - 1))] rfl (by (try simp only [List.map_toArray, List.map_cons, List.map_nil]); first | done | rfl | (simp only [List.length_drop, List.length_take]; rfl)) ?_; (with_reducible refine (history_Balance.calls k1 _ _ t284 (Int.tmod (wrap64 (a1)) 4) (wrap64 (a2)) (wrap64 ((wrap64 (Int.tmod a3 60)) - 1)) t289 _ ?side1 ?side2 A16.out).mono ?_); (case side1 => repeat (first | exact (Kd.R_reads' HO_11.out).2.2 | (with_reducible refine Kd.C_alloc ?_ _) | (with_reducible refine Kd.C_drewN ?_ _) | (with_reducible refine Kd.C_drew ?_))); (case side2 => exact (Kd.R_reads' HO_11.out).2.1); rintro e w17 ⟨rfl, hb⟩; refine ⟨_, rfl, ?_⟩; have n0_ := Aside0.mk (Kd.R_below (by (with_reducible repeat (first | apply Kd.R_alloc | apply Kd.R_drewN | apply Kd.R_drew)); exact HO_11.out) hb); have n1_ := Aside0.mk (below_step (by repeat (first | (with_reducible first | exact HB.out | apply below_alloc | apply pw_below_drewN | apply below_drew1) | exact HB.out)) hb); clear HO_11; clear HB; have HO_11 := n0_; have HB := n1_; clear n0_ n1_; (try clear hb); (try clear hb2); (try clear hk); (try clear hi)))
        go_loopg [17, 18, 19] k1 (fun kq v17 v18 v19 w' => ∃ (x17_2 : Int) (x18_2 : Bool) (x19_2 : Int), v17 = .int .i64 x17_2 ∧ v18 = .bool x18_2 ∧ v19 = .int .i64 x19_2 ∧ Aside0 (insolvencylaw25_HistoryLowest.l1 kq t284 (Int.tmod (wrap64 (a1)) 4) (wrap64 (Int.tmod a3 60)) (wrap64 ((wrap64 (Int.tmod a3 60)) + (wrap64 (Int.tmod a4 40)))) t287 x17_2 x18_2 x19_2 = some r) ∧ Aside0 (kq ≤ k1) ∧ Aside0 (Kd.R k39 39 w' w.heap.size (fun _ => True) (.slice Ao9 t284.length co9) t284) ∧ Aside0 (Below w.heap.size w w'))
        case atStart => exact ⟨(t289), ((t289 == t287)), (0), (by first | rfl | (simp; done) | (simp [*]; done)), (by first | rfl | (simp; done) | (simp [*]; done)), (by first | rfl | (simp; done) | (simp [*]; done)), H', ⟨Nat.le_refl _⟩, ⟨by (with_reducible repeat (first | apply Kd.R_alloc | apply Kd.R_drewN | apply Kd.R_drew)); exact HO_11.out⟩, ⟨by repeat (first | (with_reducible first | exact HB.out | apply below_alloc | apply pw_below_drewN | apply below_drew1) | exact HB.out)⟩⟩
        case round =>
          clear H'
          try clear c1
          try clear c2
          try clear p2
          try clear p6
          try clear c9
          try clear c11
          try clear c11b0
          try clear c13
          try clear c13b0
          try clear c14
          try clear p2
          try clear p6
          obtain ⟨x17_2, x18_2, x19_2, rfl, rfl, rfl, HA, HK2, HO_11, HB⟩ := hrel
          cases gk with
          | zero => exact absurd HA.out (by simp [insolvencylaw25_HistoryLowest.l1])
          | succ k2 =>
            have H := HA.out
            clear HA
            simp only [insolvencylaw25_HistoryLowest.l1] at H
            by_cases c18 : x19_2 < (t284.length : Int)
            · rw [if_pos c18] at H
              have c18b0 : decide (x19_2 < (t284.length : Int)) = true := decide_eq_true c18
              clear c18
              by_cases c19 : 0 ≤ x19_2
              · rw [if_pos c19] at H
                have c19b0 : decide (0 ≤ x19_2) = true := decide_eq_true c19
                clear c19
                by_cases c20 : ((rd_T39 t284 x19_2).f0) ≥ (wrap64 (Int.tmod a3 60))
                · rw [if_pos c20] at H
                  have c20b0 : decide ((wrap64 (Int.tmod a3 60)) ≤ ((rd_T39 t284 x19_2).f0)) = true := decide_eq_true c20
                  clear c20
                  by_cases c21 : ((rd_T39 t284 x19_2).f0) ≤ (wrap64 ((wrap64 (Int.tmod a3 60)) + (wrap64 (Int.tmod a4 40))))
                  · rw [if_pos c21] at H
                    have c21b0 : decide (((rd_T39 t284 x19_2).f0) ≤ (wrap64 ((wrap64 (Int.tmod a3 60)) + (wrap64 (Int.tmod a4 40))))) = true := decide_eq_true c21
                    clear c21
                    replace H := Option.bind_eq_some_iff.mp H
                    obtain ⟨t293, A220, H⟩ := H
                    replace H : (if x18_2 = true then (insolvencylaw25_HistoryLowest.l1 k2 t284 (Int.tmod (wrap64 (a1)) 4) (wrap64 (Int.tmod a3 60)) (wrap64 ((wrap64 (Int.tmod a3 60)) + (wrap64 (Int.tmod a4 40)))) t287 (wrap64 (x17_2 + t293)) true (wrap64 (x19_2 + 1))) else (insolvencylaw25_HistoryLowest.l1 k2 t284 (Int.tmod (wrap64 (a1)) 4) (wrap64 (Int.tmod a3 60)) (wrap64 ((wrap64 (Int.tmod a3 60)) + (wrap64 (Int.tmod a4 40)))) t287 (wrap64 (x17_2 + t293)) ((wrap64 (x17_2 + t293)) == t287) (wrap64 (x19_2 + 1)))) = some r := H
                    have A22 := Aside0.mk A220
                    clear A220
                    by_cases c23 : x18_2 = true
                    · subst c23
                      have H1 : (insolvencylaw25_HistoryLowest.l1 k2 t284 (Int.tmod (wrap64 (a1)) 4) (wrap64 (Int.tmod a3 60)) (wrap64 ((wrap64 (Int.tmod a3 60)) + (wrap64 (Int.tmod a4 40)))) t287 (wrap64 (x17_2 + t293)) true (wrap64 (x19_2 + 1))) = some r := by rw [if_pos rfl] at H; exact H
                      clear H
                      have H := H1
                      clear H1
                      have H' := Aside0.mk H
                      clear H
                      have p290 : 0 ≤ (x19_2 : Int) := of_decide_eq_true (by first | (with_reducible assumption) | assumption)
                      have q290 : x19_2 < (t284.length : Int) := of_decide_eq_true (by first | (with_reducible assumption) | assumption)
                      obtain ⟨ad290, e290, hx290_0, hx290_1, hx290_2, hx290_3, hx290_4, hx290_5⟩ := at_T39 (Kd.R_reads' HO_11.out).2.2 x19_2 p290 q290
                      cases e290
                      replace p290 := eq_true p290
                      replace q290 := eq_true q290
                      have p291 : 0 ≤ (x19_2 : Int) := of_decide_eq_true (by first | (with_reducible assumption) | assumption)
                      have q291 : x19_2 < (t284.length : Int) := of_decide_eq_true (by first | (with_reducible assumption) | assumption)
                      obtain ⟨ad291, e291, hx291_0, hx291_1, hx291_2, hx291_3, hx291_4, hx291_5⟩ := at_T39 (Kd.R_reads' HO_11.out).2.2 x19_2 p291 q291
                      obtain rfl : ad290 = ad291 := (by injection e291)
                      replace p291 := eq_true p291
                      replace q291 := eq_true q291
                      have p292 : 0 ≤ (x19_2 : Int) := of_decide_eq_true (by first | (with_reducible assumption) | assumption)
                      have q292 : x19_2 < (t284.length : Int) := of_decide_eq_true (by first | (with_reducible assumption) | assumption)
                      obtain ⟨ad292, e292, hx292_0, hx292_1, hx292_2, hx292_3, hx292_4, hx292_5⟩ := at_T39 (Kd.R_reads' HO_11.out).2.2 x19_2 p292 q292
                      obtain rfl : ad290 = ad292 := (by injection e292)
                      replace p292 := eq_true p292
                      replace q292 := eq_true q292
                      go_wp2_with (first | ((with_reducible refine gate_callee (f := 20) rfl ?_); refine goesL_ (some 93) rfl rfl Tryd.func20 (by kernel_rfl) rfl #[.agg #[.int .i64 ((rd_T39 t284 x19_2).f0), .int .i64 ((rd_T39 t284 x19_2).f1), .int .i64 ((rd_T39 t284 x19_2).f2), .int .i64 ((rd_T39 t284 x19_2).f3), .int .i64 ((rd_T39 t284 x19_2).f4), .int .i64 ((rd_T39 t284 x19_2).f5)], .int .i64 (Int.tmod (wrap64 (a1)) 4)] rfl (by (try simp only [List.map_toArray, List.map_cons, List.map_nil]); first | done | rfl | (simp only [List.length_drop, List.length_take]; rfl)) ?_; (with_reducible refine (history_Money.calls k2 ((rd_T39 t284 x19_2).f0) ((rd_T39 t284 x19_2).f1) ((rd_T39 t284 x19_2).f2) ((rd_T39 t284 x19_2).f3) ((rd_T39 t284 x19_2).f4) ((rd_T39 t284 x19_2).f5) (Int.tmod (wrap64 (a1)) 4) t293 _ A22.out).mono ?_); rintro e w24 ⟨rfl, hb⟩; refine ⟨_, rfl, ?_⟩; have n0_ := Aside0.mk (Kd.R_below (by (with_reducible repeat (first | apply Kd.R_alloc | apply Kd.R_drewN | apply Kd.R_drew)); exact HO_11.out) hb); have n1_ := Aside0.mk (below_step (by repeat (first | (with_reducible first | exact HB.out | apply below_alloc | apply pw_below_drewN | apply below_drew1) | exact HB.out)) hb); clear HO_11; clear HB; have HO_11 := n0_; have HB := n1_; clear n0_ n1_; (try clear hb); (try clear hb2); (try clear hk); (try clear hi)))
                      go_roundg k2
                      case measure => have := HK1.out; have := HK2.out; omega
                      case rel => exact ⟨(wrap64 (x17_2 + t293)), (true), (wrap64 (x19_2 + 1)), (by first | rfl | (simp; done) | (simp [*]; done)), (by first | rfl | (simp; done) | (simp [*]; done)), (by first | rfl | (simp; done) | (simp [*]; done)), H', ⟨by have := HK1.out; have := HK2.out; omega⟩, ⟨by (with_reducible repeat (first | apply Kd.R_alloc | apply Kd.R_drewN | apply Kd.R_drew)); exact HO_11.out⟩, ⟨by repeat (first | (with_reducible first | exact HB.out | apply below_alloc | apply pw_below_drewN | apply below_drew1) | exact HB.out)⟩⟩
                    · replace c23 := Bool.eq_false_iff.mpr c23
                      subst c23
                      have H1 : (insolvencylaw25_HistoryLowest.l1 k2 t284 (Int.tmod (wrap64 (a1)) 4) (wrap64 (Int.tmod a3 60)) (wrap64 ((wrap64 (Int.tmod a3 60)) + (wrap64 (Int.tmod a4 40)))) t287 (wrap64 (x17_2 + t293)) ((wrap64 (x17_2 + t293)) == t287) (wrap64 (x19_2 + 1))) = some r := by rw [if_neg (show ¬ (false = true) by decide)] at H; exact H
                      clear H
                      have H := H1
                      clear H1
                      have H' := Aside0.mk H
                      clear H
                      have p290 : 0 ≤ (x19_2 : Int) := of_decide_eq_true (by first | (with_reducible assumption) | assumption)
                      have q290 : x19_2 < (t284.length : Int) := of_decide_eq_true (by first | (with_reducible assumption) | assumption)
                      obtain ⟨ad290, e290, hx290_0, hx290_1, hx290_2, hx290_3, hx290_4, hx290_5⟩ := at_T39 (Kd.R_reads' HO_11.out).2.2 x19_2 p290 q290
                      cases e290
                      replace p290 := eq_true p290
                      replace q290 := eq_true q290
                      have p291 : 0 ≤ (x19_2 : Int) := of_decide_eq_true (by first | (with_reducible assumption) | assumption)
                      have q291 : x19_2 < (t284.length : Int) := of_decide_eq_true (by first | (with_reducible assumption) | assumption)
                      obtain ⟨ad291, e291, hx291_0, hx291_1, hx291_2, hx291_3, hx291_4, hx291_5⟩ := at_T39 (Kd.R_reads' HO_11.out).2.2 x19_2 p291 q291
                      obtain rfl : ad290 = ad291 := (by injection e291)
                      replace p291 := eq_true p291
                      replace q291 := eq_true q291
                      have p292 : 0 ≤ (x19_2 : Int) := of_decide_eq_true (by first | (with_reducible assumption) | assumption)
                      have q292 : x19_2 < (t284.length : Int) := of_decide_eq_true (by first | (with_reducible assumption) | assumption)
                      obtain ⟨ad292, e292, hx292_0, hx292_1, hx292_2, hx292_3, hx292_4, hx292_5⟩ := at_T39 (Kd.R_reads' HO_11.out).2.2 x19_2 p292 q292
                      obtain rfl : ad290 = ad292 := (by injection e292)
                      replace p292 := eq_true p292
                      replace q292 := eq_true q292
                      go_wp2_with (first | ((with_reducible refine gate_callee (f := 20) rfl ?_); refine goesL_ (some 93) rfl rfl Tryd.func20 (by kernel_rfl) rfl #[.agg #[.int .i64 ((rd_T39 t284 x19_2).f0), .int .i64 ((rd_T39 t284 x19_2).f1), .int .i64 ((rd_T39 t284 x19_2).f2), .int .i64 ((rd_T39 t284 x19_2).f3), .int .i64 ((rd_T39 t284 x19_2).f4), .int .i64 ((rd_T39 t284 x19_2).f5)], .int .i64 (Int.tmod (wrap64 (a1)) 4)] rfl (by (try simp only [List.map_toArray, List.map_cons, List.map_nil]); first | done | rfl | (simp only [List.length_drop, List.length_take]; rfl)) ?_; (with_reducible refine (history_Money.calls k2 ((rd_T39 t284 x19_2).f0) ((rd_T39 t284 x19_2).f1) ((rd_T39 t284 x19_2).f2) ((rd_T39 t284 x19_2).f3) ((rd_T39 t284 x19_2).f4) ((rd_T39 t284 x19_2).f5) (Int.tmod (wrap64 (a1)) 4) t293 _ A22.out).mono ?_); rintro e w25 ⟨rfl, hb⟩; refine ⟨_, rfl, ?_⟩; have n0_ := Aside0.mk (Kd.R_below (by (with_reducible repeat (first | apply Kd.R_alloc | apply Kd.R_drewN | apply Kd.R_drew)); exact HO_11.out) hb); have n1_ := Aside0.mk (below_step (by repeat (first | (with_reducible first | exact HB.out | apply below_alloc | apply pw_below_drewN | apply below_drew1) | exact HB.out)) hb); clear HO_11; clear HB; have HO_11 := n0_; have HB := n1_; clear n0_ n1_; (try clear hb); (try clear hb2); (try clear hk); (try clear hi)))
                      go_roundg k2
                      case measure => have := HK1.out; have := HK2.out; omega
                      case rel => exact ⟨(wrap64 (x17_2 + t293)), (((wrap64 (x17_2 + t293)) == t287)), (wrap64 (x19_2 + 1)), (by first | rfl | (simp; done) | (simp [*]; done)), (by first | rfl | (simp; done) | (simp [*]; done)), (by first | rfl | (simp; done) | (simp [*]; done)), H', ⟨by have := HK1.out; have := HK2.out; omega⟩, ⟨by (with_reducible repeat (first | apply Kd.R_alloc | apply Kd.R_drewN | apply Kd.R_drew)); exact HO_11.out⟩, ⟨by repeat (first | (with_reducible first | exact HB.out | apply below_alloc | apply pw_below_drewN | apply below_drew1) | exact HB.out)⟩⟩
                  · rw [if_neg c21] at H
                    have c21b0 : decide (((rd_T39 t284 x19_2).f0) ≤ (wrap64 ((wrap64 (Int.tmod a3 60)) + (wrap64 (Int.tmod a4 40))))) = false := decide_eq_false c21
                    clear c21
                    have H' := Aside0.mk H
                    clear H
                    have p290 : 0 ≤ (x19_2 : Int) := of_decide_eq_true (by first | (with_reducible assumption) | assumption)
                    have q290 : x19_2 < (t284.length : Int) := of_decide_eq_true (by first | (with_reducible assumption) | assumption)
                    obtain ⟨ad290, e290, hx290_0, hx290_1, hx290_2, hx290_3, hx290_4, hx290_5⟩ := at_T39 (Kd.R_reads' HO_11.out).2.2 x19_2 p290 q290
                    cases e290
                    replace p290 := eq_true p290
                    replace q290 := eq_true q290
                    have p291 : 0 ≤ (x19_2 : Int) := of_decide_eq_true (by first | (with_reducible assumption) | assumption)
                    have q291 : x19_2 < (t284.length : Int) := of_decide_eq_true (by first | (with_reducible assumption) | assumption)
                    obtain ⟨ad291, e291, hx291_0, hx291_1, hx291_2, hx291_3, hx291_4, hx291_5⟩ := at_T39 (Kd.R_reads' HO_11.out).2.2 x19_2 p291 q291
                    obtain rfl : ad290 = ad291 := (by injection e291)
                    replace p291 := eq_true p291
                    replace q291 := eq_true q291
                    go_wp2
                    go_roundg k2
                    case measure => have := HK1.out; have := HK2.out; omega
                    case rel => exact ⟨(x17_2), (x18_2), (wrap64 (x19_2 + 1)), (by first | rfl | (simp; done) | (simp [*]; done)), (by first | rfl | (simp; done) | (simp [*]; done)), (by first | rfl | (simp; done) | (simp [*]; done)), H', ⟨by have := HK1.out; have := HK2.out; omega⟩, ⟨by (with_reducible repeat (first | apply Kd.R_alloc | apply Kd.R_drewN | apply Kd.R_drew)); exact HO_11.out⟩, ⟨by repeat (first | (with_reducible first | exact HB.out | apply below_alloc | apply pw_below_drewN | apply below_drew1) | exact HB.out)⟩⟩
                · rw [if_neg c20] at H
                  have c20b0 : decide ((wrap64 (Int.tmod a3 60)) ≤ ((rd_T39 t284 x19_2).f0)) = false := decide_eq_false c20
                  clear c20
                  have H' := Aside0.mk H
                  clear H
                  have p290 : 0 ≤ (x19_2 : Int) := of_decide_eq_true (by first | (with_reducible assumption) | assumption)
                  have q290 : x19_2 < (t284.length : Int) := of_decide_eq_true (by first | (with_reducible assumption) | assumption)
                  obtain ⟨ad290, e290, hx290_0, hx290_1, hx290_2, hx290_3, hx290_4, hx290_5⟩ := at_T39 (Kd.R_reads' HO_11.out).2.2 x19_2 p290 q290
                  cases e290
                  replace p290 := eq_true p290
                  replace q290 := eq_true q290
                  go_wp2
                  go_roundg k2
                  case measure => have := HK1.out; have := HK2.out; omega
                  case rel => exact ⟨(x17_2), (x18_2), (wrap64 (x19_2 + 1)), (by first | rfl | (simp; done) | (simp [*]; done)), (by first | rfl | (simp; done) | (simp [*]; done)), (by first | rfl | (simp; done) | (simp [*]; done)), H', ⟨by have := HK1.out; have := HK2.out; omega⟩, ⟨by (with_reducible repeat (first | apply Kd.R_alloc | apply Kd.R_drewN | apply Kd.R_drew)); exact HO_11.out⟩, ⟨by repeat (first | (with_reducible first | exact HB.out | apply below_alloc | apply pw_below_drewN | apply below_drew1) | exact HB.out)⟩⟩
              · rw [if_neg c19] at H
                exact absurd H (by simp)
            · rw [if_neg c18] at H
              have c18b0 : decide (x19_2 < (t284.length : Int)) = false := decide_eq_false c18
              clear c18
              replace H := Option.bind_eq_some_iff.mp H
              obtain ⟨t294, A260, H⟩ := H
              replace H : (if t294 = true then (some x18_2) else (some false)) = some r := H
              have A26 := Aside0.mk A260
              clear A260
              by_cases c27 : t294 = true
              · subst c27
                have H1 : (some x18_2) = some r := by rw [if_pos rfl] at H; exact H
                clear H
                have H := H1
                clear H1
                obtain rfl := Option.some.inj H
                go_wp2_with (first | ((with_reducible refine gate_callee (f := 13) rfl ?_); refine goesL_ (some 101) rfl rfl Tryd.func13 (by kernel_rfl) rfl #[] rfl (by (try simp only [List.map_toArray, List.map_cons, List.map_nil]); first | done | rfl | (simp only [List.length_drop, List.length_take]; rfl)) ?_; (with_reducible refine (insolvencylaw25_awake.calls k2  true _ ?side1 A26.out).mono ?_); (case side1 => exact LaidW.below HLd.out (by repeat (first | (with_reducible first | exact HB.out | apply below_alloc | apply pw_below_drewN | apply below_drew1) | exact HB.out))); rintro e w28 ⟨rfl, hb⟩; refine ⟨_, rfl, ?_⟩; have n0_ := Aside0.mk (Kd.R_below (by (with_reducible repeat (first | apply Kd.R_alloc | apply Kd.R_drewN | apply Kd.R_drew)); exact HO_11.out) hb); have n1_ := Aside0.mk (below_step (by repeat (first | (with_reducible first | exact HB.out | apply below_alloc | apply pw_below_drewN | apply below_drew1) | exact HB.out)) hb); clear HO_11; clear HB; have HO_11 := n0_; have HB := n1_; clear n0_ n1_; (try clear hb); (try clear hb2); (try clear hk); (try clear hi)))
                go_ret
                exact ⟨by first | rfl | (simp [errW_none, errW_some] <;> rfl) | (simp [*, errW_none, errW_some] <;> rfl), by repeat (first | (with_reducible first | exact HB.out | apply below_alloc | apply pw_below_drewN | apply below_drew1) | exact HB.out)⟩
              · replace c27 := Bool.eq_false_iff.mpr c27
                subst c27
                have H1 : (some false) = some r := by rw [if_neg (show ¬ (false = true) by decide)] at H; exact H
                clear H
                have H := H1
                clear H1
                obtain rfl := Option.some.inj H
                go_wp2_with (first | ((with_reducible refine gate_callee (f := 13) rfl ?_); refine goesL_ (some 101) rfl rfl Tryd.func13 (by kernel_rfl) rfl #[] rfl (by (try simp only [List.map_toArray, List.map_cons, List.map_nil]); first | done | rfl | (simp only [List.length_drop, List.length_take]; rfl)) ?_; (with_reducible refine (insolvencylaw25_awake.calls k2  false _ ?side1 A26.out).mono ?_); (case side1 => exact LaidW.below HLd.out (by repeat (first | (with_reducible first | exact HB.out | apply below_alloc | apply pw_below_drewN | apply below_drew1) | exact HB.out))); rintro e w29 ⟨rfl, hb⟩; refine ⟨_, rfl, ?_⟩; have n0_ := Aside0.mk (Kd.R_below (by (with_reducible repeat (first | apply Kd.R_alloc | apply Kd.R_drewN | apply Kd.R_drew)); exact HO_11.out) hb); have n1_ := Aside0.mk (below_step (by repeat (first | (with_reducible first | exact HB.out | apply below_alloc | apply pw_below_drewN | apply below_drew1) | exact HB.out)) hb); clear HO_11; clear HB; have HO_11 := n0_; have HB := n1_; clear n0_ n1_; (try clear hb); (try clear hb2); (try clear hk); (try clear hi)))
                go_ret
                exact ⟨by first | rfl | (simp [errW_none, errW_some] <;> rfl) | (simp [*, errW_none, errW_some] <;> rfl), by repeat (first | (with_reducible first | exact HB.out | apply below_alloc | apply pw_below_drewN | apply below_drew1) | exact HB.out)⟩

end Go.Proofs.YtcehmgmhlmbhnaaDoor.Pr
