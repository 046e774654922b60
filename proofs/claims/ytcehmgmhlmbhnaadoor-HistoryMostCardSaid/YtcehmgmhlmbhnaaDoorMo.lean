-- Written by a program of this session (wip/tools/drive.py over the kit's print.py) out of the translation.
import Derived.Test.YtcehmgmhlmbhnaaDoorPr0
import Derived.Test.YtcehmgmhlmbhnaaDoorCo
namespace Go.Proofs.YtcehmgmhlmbhnaaDoor.Pr
open Go.RowKit Go.Proofs.YtcehmgmhlmbhnaaDoorW.PrintWords Go.Proofs.YtcehmgmhlmbhnaaDoorW.PrintLast Go.Proofs.YtcehmgmhlmbhnaaDoorW.PrintMore
attribute [local go_sem] max2_int min2_int max_two min_two max_three min_three max_four min_four   -- for this text's walks alone
set_option linter.unusedVariables false
set_option linter.unusedSimpArgs false

/-! ### insolvencylaw25_most: function 33 -/
mutual
def insolvencylaw25_most.l0 : Nat → List (S39) → List (S39) → Int → Int → Int → Int → Int → Option (Int)
  | 0, _, _, _, _, _, _, _ => none
  | k + 1, x0, x1, x2, x3, x4, x11, x12 => if x12 < (x1.length : Int) then (if 0 ≤ (IntKind.u64.wrap (x12)) then (if (Go.bits .and .u64 (shr .u64 x4 (IntKind.u64.wrap (x12))) 1) = 0 then (if 0 ≤ x3 then (if x3 < (x0.length : Int) then (if 0 ≤ x12 then ((insolvencyref25_Corresponds.f ((rd_T39 x0 x3).f0) ((rd_T39 x0 x3).f1) ((rd_T39 x0 x3).f2) ((rd_T39 x0 x3).f3) ((rd_T39 x0 x3).f4) ((rd_T39 x0 x3).f5) ((rd_T39 x1 x12).f0) ((rd_T39 x1 x12).f1) ((rd_T39 x1 x12).f2) ((rd_T39 x1 x12).f3) ((rd_T39 x1 x12).f4) ((rd_T39 x1 x12).f5) x2).bind fun t411 => (if t411 = true then ((insolvencylaw25_most.f k x0 x1 x2 (wrap64 (x3 + 1)) (Go.bits .or .u64 x4 (shl .u64 1 (IntKind.u64.wrap (x12))))).bind fun t412 => (insolvencylaw25_most.l0 k x0 x1 x2 x3 x4 (mx x11 (wrap64 (1 + t412))) (wrap64 (x12 + 1)))) else (insolvencylaw25_most.l0 k x0 x1 x2 x3 x4 x11 (wrap64 (x12 + 1))))) else (none)) else (none)) else (none)) else (insolvencylaw25_most.l0 k x0 x1 x2 x3 x4 x11 (wrap64 (x12 + 1)))) else (none)) else (some x11)
def insolvencylaw25_most.f : Nat → List (S39) → List (S39) → Int → Int → Int → Option (Int)
  | 0, _, _, _, _, _ => none
  | k + 1, l0, l1, a2, a3, a4 => if a3 = (l0.length : Int) then (some 0) else ((insolvencylaw25_most.f k l0 l1 a2 (wrap64 (a3 + 1)) a4).bind fun t408 => (insolvencylaw25_most.l0 k l0 l1 a2 a3 a4 t408 0))
end
theorem insolvencylaw25_most.mono_l : ∀ k, (∀ y0 y1 y2 y3 y4, LeO (insolvencylaw25_most.f k y0 y1 y2 y3 y4) (insolvencylaw25_most.f (k + 1) y0 y1 y2 y3 y4)) ∧ (∀ y0 y1 y2 y3 y4 y5 y6, LeO (insolvencylaw25_most.l0 k y0 y1 y2 y3 y4 y5 y6) (insolvencylaw25_most.l0 (k + 1) y0 y1 y2 y3 y4 y5 y6))
  | 0 => ⟨fun _ _ _ _ _ r h => by simp [insolvencylaw25_most.f] at h, fun _ _ _ _ _ _ _ r h => by simp [insolvencylaw25_most.l0] at h⟩
  | k + 1 => by
    obtain ⟨ih0, ih1⟩ := insolvencylaw25_most.mono_l k
    refine ⟨?_, ?_⟩
    · intro y0 y1 y2 y3 y4
      unfold insolvencylaw25_most.f
      repeat' first
      | (with_reducible exact ih0 _ _ _ _ _)
      | (with_reducible exact ih1 _ _ _ _ _ _ _)
      | (with_reducible exact LeO.refl _)
      | (with_reducible exact LeO.none _)
      | (with_reducible refine LeO.ite ?_ ?_)
      | (with_reducible refine LeO.bind ?_ (fun _ => ?_))
      | exact ih0 _ _ _ _ _
      | exact ih1 _ _ _ _ _ _ _
      | exact LeO.none _
      | refine LeO.ite ?_ ?_
      | refine LeO.bind ?_ (fun _ => ?_)
    · intro y0 y1 y2 y3 y4 y5 y6
      unfold insolvencylaw25_most.l0
      repeat' first
      | (with_reducible exact ih0 _ _ _ _ _)
      | (with_reducible exact ih1 _ _ _ _ _ _ _)
      | (with_reducible exact LeO.refl _)
      | (with_reducible exact LeO.none _)
      | (with_reducible refine LeO.ite ?_ ?_)
      | (with_reducible refine LeO.bind ?_ (fun _ => ?_))
      | exact ih0 _ _ _ _ _
      | exact ih1 _ _ _ _ _ _ _
      | exact LeO.none _
      | refine LeO.ite ?_ ?_
      | refine LeO.bind ?_ (fun _ => ?_)
theorem insolvencylaw25_most.mono : ∀ a0 a1 a2 a3 a4 k, LeO (insolvencylaw25_most.f k a0 a1 a2 a3 a4) (insolvencylaw25_most.f (k + 1) a0 a1 a2 a3 a4) := by
  intro a0 a1 a2 a3 a4 k
  obtain ⟨ih0, ih1⟩ := insolvencylaw25_most.mono_l k
  exact ih0 a0 a1 a2 a3 a4
def insolvencylaw25_most.T7 : Bool × List (List Nat × List Nat) := (true, [([], []), ([], []), ([1], [1]), ([0, 2], [0, 2]), ([3], [3]), ([4], [4]), ([5], [5]), ([6], [6]), ([6], [6]), ([7, 8, 6], [6, 7, 8]), ([9, 6], [6, 9]), ([6], [6]), ([6], [6]), ([11, 12, 6], [6, 11, 12]), ([13, 6], [6, 13]), ([6], [6]), ([10, 14, 15, 6, 6], [6, 10, 14, 15]), ([6, 16], [6, 16])])
def insolvencylaw25_most.B7 : List Nat := [0, 0, 2, 7, 15, 31, 63, 127, 127, 511, 1023, 127, 127, 6271, 14463, 127, 65535, 131071]
theorem insolvencylaw25_most.tab7 : rtab .any (opsOf Tryd.f33 7) = insolvencylaw25_most.T7 := by kernel_rfl
theorem insolvencylaw25_most.bits7 : waitsOk insolvencylaw25_most.T7.2 insolvencylaw25_most.B7 = true := by kernel_rfl
set_option maxHeartbeats 8000000 in
set_option maxRecDepth 100000 in
theorem insolvencylaw25_most.calls (k : Nat) : ∀ (A0 : Option Addr) (c0 : Nat) (l0 : List (S39)) (A1 : Option Addr) (c1 : Nat) (l1 : List (S39)) (a2 : Int) (a3 : Int) (a4 : Int) (r : Int) (w : World) (hr0 : Kd.C k39 w A0 l0.length l0) (hc0 : l0.length ≤ c0) (hr1 : Kd.C k39 w A1 l1.length l1) (hc1 : l1.length ≤ c1) (h : insolvencylaw25_most.f k l0 l1 a2 a3 a4 = some r),
    Calls Tryd.prog 33 #[.slice A0 l0.length c0, .slice A1 l1.length c1, .int .i64 a2, .int .i64 a3, .int .u64 a4] w fun e w' => e = .returned (.int .i64 r) ∧ Below w.heap.size w w' := by
  induction k using Nat.strongRecOn with
  | _ k ih =>
  intro A0 c0 l0 A1 c1 l1 a2 a3 a4 r w hr0 hc0 hr1 hc1 h
  cases k with
  | zero => exact absurd h (by simp [insolvencylaw25_most.f])
  | succ k =>
  simp only [insolvencylaw25_most.f] at h
  have hu39 := Tryd.underlying39
  have HR0 := Aside0.mk hr0
  have HC0 := Aside0.mk hc0
  clear hr0 hc0
  have HR1 := Aside0.mk hr1
  have HC1 := Aside0.mk hc1
  clear hr1 hc1
  have HB := Aside0.mk (Below.refl w.heap.size w)
  have H : (if a3 = (l0.length : Int) then (some 0) else ((insolvencylaw25_most.f k l0 l1 a2 (wrap64 (a3 + 1)) a4).bind fun t408 => (insolvencylaw25_most.l0 k l0 l1 a2 a3 a4 t408 0))) = some r := h
  clear h
  by_cases c6 : a3 = (l0.length : Int)
  · rw [if_pos c6] at H
    have c6b0 : (a3 == (l0.length : Int)) = true := beq_iff_eq.mpr c6
    have c6b1 : (a3 != (l0.length : Int)) = false := bne_eq_false_iff_eq.mpr c6
    clear c6
    obtain rfl := Option.some.inj H
    go_enter Tryd.func33, Tryd.ntmps33
    go_wp2
    go_ret
    exact ⟨by first | rfl | (simp [errW_none, errW_some] <;> rfl) | (simp [*, errW_none, errW_some] <;> rfl), by repeat (first | (with_reducible first | exact HB.out | apply below_alloc | apply pw_below_drewN | apply below_drew1) | exact HB.out)⟩
  · rw [if_neg c6] at H
    have c6b0 : (a3 == (l0.length : Int)) = false := beq_eq_false_iff_ne.mpr c6
    have c6b1 : (a3 != (l0.length : Int)) = true := bne_iff_ne.mpr c6
    replace H := Option.bind_eq_some_iff.mp H
    obtain ⟨t408, A70, H⟩ := H
    replace H : (insolvencylaw25_most.l0 k l0 l1 a2 a3 a4 t408 0) = some r := H
    have A7 := Aside0.mk A70
    clear A70
    have H' := Aside0.mk H
    clear H
    go_enter Tryd.func33, Tryd.ntmps33
    go_wp2_with (first | ((with_reducible refine gate_callee (f := 33) rfl ?_); refine goesL_ (some 23) rfl rfl Tryd.func33 (by kernel_rfl) rfl #[.slice A0 l0.length c0, .slice A1 l1.length c1, .int .i64 a2, .int .i64 (wrap64 (a3 + 1)), .int .u64 a4] rfl (by (try simp only [List.map_toArray, List.map_cons, List.map_nil]); first | done | rfl | (simp only [List.length_drop, List.length_take]; rfl)) ?_; (with_reducible refine (ih k (by omega) _ _ l0 _ _ l1 a2 (wrap64 (a3 + 1)) a4 t408 _ ?side1 ?side2 ?side3 ?side4 A7.out).mono ?_); (case side1 => repeat (first | exact HR0.out | (with_reducible refine Kd.C_alloc ?_ _) | (with_reducible refine Kd.C_drewN ?_ _) | (with_reducible refine Kd.C_drew ?_))); (case side2 => exact HC0.out); (case side3 => repeat (first | exact HR1.out | (with_reducible refine Kd.C_alloc ?_ _) | (with_reducible refine Kd.C_drewN ?_ _) | (with_reducible refine Kd.C_drew ?_))); (case side4 => exact HC1.out); rintro e w8 ⟨rfl, hb⟩; refine ⟨_, rfl, ?_⟩; have n0_ := Aside0.mk (below_step (by repeat (first | (with_reducible first | exact HB.out | apply below_alloc | apply pw_below_drewN | apply below_drew1) | exact HB.out)) hb); clear HB; have HB := n0_; clear n0_; (try clear hb); (try clear hb2); (try clear hk); (try clear hi)))
    go_loopg [11, 12] k (fun kq v11 v12 w' => ∃ (x11_1 : Int) (x12_1 : Int), v11 = .int .i64 x11_1 ∧ v12 = .int .i64 x12_1 ∧ Aside0 (insolvencylaw25_most.l0 kq l0 l1 a2 a3 a4 x11_1 x12_1 = some r) ∧ Aside0 (kq ≤ k) ∧ Aside0 (Below w.heap.size w w'))
    case atStart => exact ⟨(t408), (0), (by first | rfl | (simp; done) | (simp [*]; done)), (by first | rfl | (simp; done) | (simp [*]; done)), H', ⟨Nat.le_refl _⟩, ⟨by repeat (first | (with_reducible first | exact HB.out | apply below_alloc | apply pw_below_drewN | apply below_drew1) | exact HB.out)⟩⟩
    case round =>
      clear H'
      try clear c1
      try clear p2
      try clear c3
      try clear c6
      try clear c6b0
      try clear c6b1
      try clear p6
      obtain ⟨x11_1, x12_1, rfl, rfl, HA, HK1, HB⟩ := hrel
      cases gk with
      | zero => exact absurd HA.out (by simp [insolvencylaw25_most.l0])
      | succ k1 =>
        have H := HA.out
        clear HA
        simp only [insolvencylaw25_most.l0] at H
        by_cases c9 : x12_1 < (l1.length : Int)
        · rw [if_pos c9] at H
          have c9b0 : decide (x12_1 < (l1.length : Int)) = true := decide_eq_true c9
          clear c9
          obtain ⟨ji10, hji10⟩ : ∃ j_ : Int, (IntKind.u64.wrap (x12_1)) = j_ := ⟨_, rfl⟩
          replace H : (if 0 ≤ (ji10) then (if (Go.bits .and .u64 (shr .u64 a4 (ji10)) 1) = 0 then (if 0 ≤ a3 then (if a3 < (l0.length : Int) then (if 0 ≤ x12_1 then ((insolvencyref25_Corresponds.f ((rd_T39 l0 a3).f0) ((rd_T39 l0 a3).f1) ((rd_T39 l0 a3).f2) ((rd_T39 l0 a3).f3) ((rd_T39 l0 a3).f4) ((rd_T39 l0 a3).f5) ((rd_T39 l1 x12_1).f0) ((rd_T39 l1 x12_1).f1) ((rd_T39 l1 x12_1).f2) ((rd_T39 l1 x12_1).f3) ((rd_T39 l1 x12_1).f4) ((rd_T39 l1 x12_1).f5) a2).bind fun t411 => (if t411 = true then ((insolvencylaw25_most.f k1 l0 l1 a2 (wrap64 (a3 + 1)) (Go.bits .or .u64 a4 (shl .u64 1 (ji10)))).bind fun t412 => (insolvencylaw25_most.l0 k1 l0 l1 a2 a3 a4 (mx x11_1 (wrap64 (1 + t412))) (wrap64 (x12_1 + 1)))) else (insolvencylaw25_most.l0 k1 l0 l1 a2 a3 a4 x11_1 (wrap64 (x12_1 + 1))))) else (none)) else (none)) else (none)) else (insolvencylaw25_most.l0 k1 l0 l1 a2 a3 a4 x11_1 (wrap64 (x12_1 + 1)))) else (none)) = some r := by first | (rw [hji10] at H; exact H) | (simp only [hji10] at H ⊢; exact H)
          by_cases c11 : 0 ≤ (ji10)
          · rw [if_pos c11] at H
            have c11b0 := eq_true c11
            have c11b1 : decide (0 ≤ (ji10)) = true := decide_eq_true c11
            clear c11
            obtain ⟨ji12, hji12⟩ : ∃ j_ : Int, (shr .u64 a4 (ji10)) = j_ := ⟨_, rfl⟩
            replace H : (if (Go.bits .and .u64 (ji12) 1) = 0 then (if 0 ≤ a3 then (if a3 < (l0.length : Int) then (if 0 ≤ x12_1 then ((insolvencyref25_Corresponds.f ((rd_T39 l0 a3).f0) ((rd_T39 l0 a3).f1) ((rd_T39 l0 a3).f2) ((rd_T39 l0 a3).f3) ((rd_T39 l0 a3).f4) ((rd_T39 l0 a3).f5) ((rd_T39 l1 x12_1).f0) ((rd_T39 l1 x12_1).f1) ((rd_T39 l1 x12_1).f2) ((rd_T39 l1 x12_1).f3) ((rd_T39 l1 x12_1).f4) ((rd_T39 l1 x12_1).f5) a2).bind fun t411 => (if t411 = true then ((insolvencylaw25_most.f k1 l0 l1 a2 (wrap64 (a3 + 1)) (Go.bits .or .u64 a4 (shl .u64 1 (ji10)))).bind fun t412 => (insolvencylaw25_most.l0 k1 l0 l1 a2 a3 a4 (mx x11_1 (wrap64 (1 + t412))) (wrap64 (x12_1 + 1)))) else (insolvencylaw25_most.l0 k1 l0 l1 a2 a3 a4 x11_1 (wrap64 (x12_1 + 1))))) else (none)) else (none)) else (none)) else (insolvencylaw25_most.l0 k1 l0 l1 a2 a3 a4 x11_1 (wrap64 (x12_1 + 1)))) = some r := by first | (rw [hji12] at H; exact H) | (simp only [hji12] at H ⊢; exact H)
            have hji12_ : (a4 / 2 ^ min (ji10).toNat 64) = ji12 := hji12
            have hji12z : (ji10) ≤ 64 → (a4 / 2 ^ (ji10).toNat) = ji12 := shr_small hji12
            by_cases c13 : (Go.bits .and .u64 (ji12) 1) = 0
            · rw [if_pos c13] at H
              have c13b0 : ((Go.bits .and .u64 (ji12) 1) == 0) = true := beq_iff_eq.mpr c13
              have c13b1 : ((Go.bits .and .u64 (ji12) 1) != 0) = false := bne_eq_false_iff_eq.mpr c13
              clear c13
              by_cases c14 : 0 ≤ a3
              · rw [if_pos c14] at H
                have c14b0 : decide (0 ≤ a3) = true := decide_eq_true c14
                clear c14
                by_cases c15 : a3 < (l0.length : Int)
                · rw [if_pos c15] at H
                  have c15b0 : decide (a3 < (l0.length : Int)) = true := decide_eq_true c15
                  clear c15
                  by_cases c16 : 0 ≤ x12_1
                  · rw [if_pos c16] at H
                    have c16b0 : decide (0 ≤ x12_1) = true := decide_eq_true c16
                    clear c16
                    replace H := Option.bind_eq_some_iff.mp H
                    obtain ⟨t411, A170, H⟩ := H
                    replace H : (if t411 = true then ((insolvencylaw25_most.f k1 l0 l1 a2 (wrap64 (a3 + 1)) (Go.bits .or .u64 a4 (shl .u64 1 (ji10)))).bind fun t412 => (insolvencylaw25_most.l0 k1 l0 l1 a2 a3 a4 (mx x11_1 (wrap64 (1 + t412))) (wrap64 (x12_1 + 1)))) else (insolvencylaw25_most.l0 k1 l0 l1 a2 a3 a4 x11_1 (wrap64 (x12_1 + 1)))) = some r := H
                    have A17 := Aside0.mk A170
                    clear A170
                    by_cases c18 : t411 = true
                    · subst c18
                      have H1 : ((insolvencylaw25_most.f k1 l0 l1 a2 (wrap64 (a3 + 1)) (Go.bits .or .u64 a4 (shl .u64 1 (ji10)))).bind fun t412 => (insolvencylaw25_most.l0 k1 l0 l1 a2 a3 a4 (mx x11_1 (wrap64 (1 + t412))) (wrap64 (x12_1 + 1)))) = some r := by rw [if_pos rfl] at H; exact H
                      clear H
                      have H := H1
                      clear H1
                      have c19b0 := eq_true (of_decide_eq_true (by first | (with_reducible assumption) | assumption) : 0 ≤ (ji10))
                      obtain ⟨ji20, hji20⟩ : ∃ j_ : Int, (shl .u64 1 (ji10)) = j_ := ⟨_, rfl⟩
                      replace H : ((insolvencylaw25_most.f k1 l0 l1 a2 (wrap64 (a3 + 1)) (Go.bits .or .u64 a4 (ji20))).bind fun t412 => (insolvencylaw25_most.l0 k1 l0 l1 a2 a3 a4 (mx x11_1 (wrap64 (1 + t412))) (wrap64 (x12_1 + 1)))) = some r := by first | (rw [hji20] at H; exact H) | (simp only [hji20] at H ⊢; exact H)
                      (try rw [hji20] at A17)
                      have hji20_ : (IntKind.u64.wrap (1 * 2 ^ min (ji10).toNat 64)) = ji20 := hji20
                      have hji20z : (ji10) ≤ 64 → (IntKind.u64.wrap (1 * 2 ^ (ji10).toNat)) = ji20 := shl_small hji20
                      have hji20u : (IntKind.u64.wrap (2 ^ min (ji10).toNat 64)) = ji20 := by have h_ := hji20_; rw [Int.one_mul] at h_; exact h_
                      have hji20v : (ji10) ≤ 64 → (IntKind.u64.wrap (2 ^ (ji10).toNat)) = ji20 := fun hle_ => by have h_ := hji20z hle_; rw [Int.one_mul] at h_; exact h_
                      replace H := Option.bind_eq_some_iff.mp H
                      obtain ⟨t412, A210, H⟩ := H
                      replace H : (insolvencylaw25_most.l0 k1 l0 l1 a2 a3 a4 (mx x11_1 (wrap64 (1 + t412))) (wrap64 (x12_1 + 1))) = some r := H
                      have A21 := Aside0.mk A210
                      clear A210
                      obtain ⟨ji22, hji22⟩ : ∃ j_ : Int, (mx x11_1 (wrap64 (1 + t412))) = j_ := ⟨_, rfl⟩
                      replace H : (insolvencylaw25_most.l0 k1 l0 l1 a2 a3 a4 ji22 (wrap64 (x12_1 + 1))) = some r := by first | (rw [hji22] at H; exact H) | (simp only [hji22] at H ⊢; exact H)
                      (try rw [hji22] at A17)
                      (try rw [hji22] at A21)
                      have hji22_ : (if x11_1 < (wrap64 (1 + t412)) then (wrap64 (1 + t412)) else x11_1) = ji22 := hji22
                      have H' := Aside0.mk H
                      clear H
                      try go_wp2
                      have n0_ := Aside0.mk (below_drew1 HB.out)
                      clear HB
                      have HB := n0_
                      clear n0_
                      have p409 : 0 ≤ (a3 : Int) := of_decide_eq_true (by first | (with_reducible assumption) | assumption)
                      have q409 : a3 < (l0.length : Int) := of_decide_eq_true (by first | (with_reducible assumption) | assumption)
                      obtain ⟨ad409, e409, hx409_0, hx409_1, hx409_2, hx409_3, hx409_4, hx409_5⟩ := at_T39 HR0.out a3 p409 q409
                      have hw409_5 := hx409_5
                      have hw409_4 := hx409_4
                      have hw409_3 := hx409_3
                      have hw409_2 := hx409_2
                      have hw409_1 := hx409_1
                      have hw409_0 := hx409_0
                      cases e409
                      replace hx409_0 := (HB.out.cell (World.block_lt_of_cell? w _ hx409_0)).trans hx409_0
                      replace hx409_1 := (HB.out.cell (World.block_lt_of_cell? w _ hx409_1)).trans hx409_1
                      replace hx409_2 := (HB.out.cell (World.block_lt_of_cell? w _ hx409_2)).trans hx409_2
                      replace hx409_3 := (HB.out.cell (World.block_lt_of_cell? w _ hx409_3)).trans hx409_3
                      replace hx409_4 := (HB.out.cell (World.block_lt_of_cell? w _ hx409_4)).trans hx409_4
                      replace hx409_5 := (HB.out.cell (World.block_lt_of_cell? w _ hx409_5)).trans hx409_5
                      replace p409 := eq_true p409
                      replace q409 := eq_true q409
                      have p410 : 0 ≤ (x12_1 : Int) := of_decide_eq_true (by first | (with_reducible assumption) | assumption)
                      have q410 : x12_1 < (l1.length : Int) := of_decide_eq_true (by first | (with_reducible assumption) | assumption)
                      obtain ⟨ad410, e410, hx410_0, hx410_1, hx410_2, hx410_3, hx410_4, hx410_5⟩ := at_T39 HR1.out x12_1 p410 q410
                      have hw410_5 := hx410_5
                      have hw410_4 := hx410_4
                      have hw410_3 := hx410_3
                      have hw410_2 := hx410_2
                      have hw410_1 := hx410_1
                      have hw410_0 := hx410_0
                      cases e410
                      replace hx410_0 := (HB.out.cell (World.block_lt_of_cell? w _ hx410_0)).trans hx410_0
                      replace hx410_1 := (HB.out.cell (World.block_lt_of_cell? w _ hx410_1)).trans hx410_1
                      replace hx410_2 := (HB.out.cell (World.block_lt_of_cell? w _ hx410_2)).trans hx410_2
                      replace hx410_3 := (HB.out.cell (World.block_lt_of_cell? w _ hx410_3)).trans hx410_3
                      replace hx410_4 := (HB.out.cell (World.block_lt_of_cell? w _ hx410_4)).trans hx410_4
                      replace hx410_5 := (HB.out.cell (World.block_lt_of_cell? w _ hx410_5)).trans hx410_5
                      replace p410 := eq_true p410
                      replace q410 := eq_true q410
                      refine start_ (n := 18) (S := fun w' => w'.cell? (ad409.add ((a3).toNat * 6)) = some (.int .i64 ((rd_T39 l0 a3).f0)) ∧ w'.cell? ⟨(ad409.add ((a3).toNat * 6)).block, (ad409.add ((a3).toNat * 6)).off + 1, none⟩ = some (.int .i64 ((rd_T39 l0 a3).f1)) ∧ w'.cell? ⟨(ad409.add ((a3).toNat * 6)).block, (ad409.add ((a3).toNat * 6)).off + 2, none⟩ = some (.int .i64 ((rd_T39 l0 a3).f2)) ∧ w'.cell? ⟨(ad409.add ((a3).toNat * 6)).block, (ad409.add ((a3).toNat * 6)).off + 3, none⟩ = some (.int .i64 ((rd_T39 l0 a3).f3)) ∧ w'.cell? ⟨(ad409.add ((a3).toNat * 6)).block, (ad409.add ((a3).toNat * 6)).off + 4, none⟩ = some (.int .i64 ((rd_T39 l0 a3).f4)) ∧ w'.cell? ⟨(ad409.add ((a3).toNat * 6)).block, (ad409.add ((a3).toNat * 6)).off + 5, none⟩ = some (.int .i64 ((rd_T39 l0 a3).f5)) ∧ w'.cell? (ad410.add ((x12_1).toNat * 6)) = some (.int .i64 ((rd_T39 l1 x12_1).f0)) ∧ w'.cell? ⟨(ad410.add ((x12_1).toNat * 6)).block, (ad410.add ((x12_1).toNat * 6)).off + 1, none⟩ = some (.int .i64 ((rd_T39 l1 x12_1).f1)) ∧ w'.cell? ⟨(ad410.add ((x12_1).toNat * 6)).block, (ad410.add ((x12_1).toNat * 6)).off + 2, none⟩ = some (.int .i64 ((rd_T39 l1 x12_1).f2)) ∧ w'.cell? ⟨(ad410.add ((x12_1).toNat * 6)).block, (ad410.add ((x12_1).toNat * 6)).off + 3, none⟩ = some (.int .i64 ((rd_T39 l1 x12_1).f3)) ∧ w'.cell? ⟨(ad410.add ((x12_1).toNat * 6)).block, (ad410.add ((x12_1).toNat * 6)).off + 4, none⟩ = some (.int .i64 ((rd_T39 l1 x12_1).f4)) ∧ w'.cell? ⟨(ad410.add ((x12_1).toNat * 6)).block, (ad410.add ((x12_1).toNat * 6)).off + 5, none⟩ = some (.int .i64 ((rd_T39 l1 x12_1).f5))) (ds := []) #[false, false, false, false, false, false, false, false, false, false, false, false, false, false, false, false, false, false] (by kernel_rfl) rfl rfl ⟨((HB.out.cell (World.block_lt_of_cell? w _ hw409_0)).trans hw409_0), ((HB.out.cell (World.block_lt_of_cell? w _ hw409_1)).trans hw409_1), ((HB.out.cell (World.block_lt_of_cell? w _ hw409_2)).trans hw409_2), ((HB.out.cell (World.block_lt_of_cell? w _ hw409_3)).trans hw409_3), ((HB.out.cell (World.block_lt_of_cell? w _ hw409_4)).trans hw409_4), ((HB.out.cell (World.block_lt_of_cell? w _ hw409_5)).trans hw409_5), ((HB.out.cell (World.block_lt_of_cell? w _ hw410_0)).trans hw410_0), ((HB.out.cell (World.block_lt_of_cell? w _ hw410_1)).trans hw410_1), ((HB.out.cell (World.block_lt_of_cell? w _ hw410_2)).trans hw410_2), ((HB.out.cell (World.block_lt_of_cell? w _ hw410_3)).trans hw410_3), ((HB.out.cell (World.block_lt_of_cell? w _ hw410_4)).trans hw410_4), ((HB.out.cell (World.block_lt_of_cell? w _ hw410_5)).trans hw410_5)⟩ (fun hHeld => ?_); refine with_tabW insolvencylaw25_most.tab7 insolvencylaw25_most.bits7 (fun HT_ HW_ => ?_)
                      generalize wr.drew = w23 at HB hx409_0 hx409_1 hx409_2 hx409_3 hx409_4 hx409_5 hx410_0 hx410_1 hx410_2 hx410_3 hx410_4 hx410_5 hHeld ⊢
                      refine pure_ (i := 0) (N := some 30) (v := ?_) (a' := ?_) #[true, false, false, false, false, false, false, false, false, false, false, false, false, false, false, false, false, false] rfl rfl (any_of HT_.out (by kernel_rfl)) (fun _ _ _ h => h) (Or.inl ⟨by rfl, ?_⟩) ?_ ?_
                      rotate_left
                      · intro w'
                        go_simp
                        with_reducible rfl
                      rotate_left
                      · simp only [Act.put, List.setIfInBounds_toArray, List.set_cons_zero, List.set_cons_succ, i64_w, i32_w]
                        rfl
                      refine pure_ (i := 1) (N := some 31) (v := ?_) (a' := ?_) #[true, true, false, false, false, false, false, false, false, false, false, false, false, false, false, false, false, false] rfl rfl (any_of HT_.out (by kernel_rfl)) (fun _ _ _ h => h) (Or.inl ⟨by rfl, ?_⟩) ?_ ?_
                      rotate_left
                      · intro w'
                        go_simp
                        with_reducible rfl
                      rotate_left
                      · simp only [Act.put, List.setIfInBounds_toArray, List.set_cons_zero, List.set_cons_succ, i64_w, i32_w]
                        rfl
                      refine pure_ (i := 2) (N := some 32) (v := ?_) (a' := ?_) #[true, true, true, false, false, false, false, false, false, false, false, false, false, false, false, false, false, false] rfl rfl (any_of HT_.out (by kernel_rfl)) (fun _ _ _ h => h) (Or.inl ⟨by rfl, ?_⟩) ?_ ?_
                      rotate_left
                      · intro w'
                        go_simp
                        with_reducible rfl
                      rotate_left
                      · simp only [Act.put, List.setIfInBounds_toArray, List.set_cons_zero, List.set_cons_succ, i64_w, i32_w]
                        rfl
                      refine pure_ (i := 3) (N := some 33) (v := ?_) (a' := ?_) #[true, true, true, true, false, false, false, false, false, false, false, false, false, false, false, false, false, false] rfl rfl (any_of HT_.out (by kernel_rfl)) (fun _ _ _ h => h) (Or.inl ⟨by rfl, ?_⟩) ?_ ?_
                      rotate_left
                      · intro w'
                        go_simp
                        with_reducible rfl
                      rotate_left
                      · simp only [Act.put, List.setIfInBounds_toArray, List.set_cons_zero, List.set_cons_succ, i64_w, i32_w]
                        rfl
                      refine pure_ (i := 4) (N := some 34) (v := ?_) (a' := ?_) #[true, true, true, true, true, false, false, false, false, false, false, false, false, false, false, false, false, false] rfl rfl (any_of HT_.out (by kernel_rfl)) (fun _ _ _ h => h) (Or.inl ⟨by rfl, ?_⟩) ?_ ?_
                      rotate_left
                      · intro w'
                        go_simp
                        with_reducible rfl
                      rotate_left
                      · simp only [Act.put, List.setIfInBounds_toArray, List.set_cons_zero, List.set_cons_succ, i64_w, i32_w]
                        rfl
                      refine pure_ (i := 5) (N := some 35) (v := ?_) (a' := ?_) #[true, true, true, true, true, true, false, false, false, false, false, false, false, false, false, false, false, false] rfl rfl (any_of HT_.out (by kernel_rfl)) (fun _ _ _ h => h) (Or.inl ⟨by rfl, ?_⟩) ?_ ?_
                      rotate_left
                      · intro w'
                        go_simp
                        with_reducible rfl
                      rotate_left
                      · simp only [Act.put, List.setIfInBounds_toArray, List.set_cons_zero, List.set_cons_succ, i64_w, i32_w]
                        rfl
                      refine pure_ (i := 6) (N := some 36) (v := ?_) (a' := ?_) #[true, true, true, true, true, true, true, false, false, false, false, false, false, false, false, false, false, false] rfl rfl (any_of HT_.out (by kernel_rfl)) (fun _ _ _ h => h) (Or.inl ⟨by rfl, ?_⟩) ?_ ?_
                      rotate_left
                      · intro w'
                        go_simp
                        with_reducible rfl
                      rotate_left
                      · simp only [Act.put, List.setIfInBounds_toArray, List.set_cons_zero, List.set_cons_succ, i64_w, i32_w]
                        rfl
                      refine pure_ (i := 7) (N := some 37) (v := ?_) (a' := ?_) #[true, true, true, true, true, true, true, true, false, false, false, false, false, false, false, false, false, false] rfl rfl (any_of HT_.out (by kernel_rfl)) (fun _ _ _ h => h) (Or.inl ⟨by rfl, ?_⟩) ?_ ?_
                      rotate_left
                      · intro w'
                        go_simp
                        with_reducible rfl
                      rotate_left
                      · simp only [Act.put, List.setIfInBounds_toArray, List.set_cons_zero, List.set_cons_succ, i64_w, i32_w]
                        rfl
                      refine pure_ (i := 8) (N := some 38) (v := ?_) (a' := ?_) #[true, true, true, true, true, true, true, true, true, false, false, false, false, false, false, false, false, false] rfl rfl (any_of HT_.out (by kernel_rfl)) (fun _ _ _ h => h) (Or.inl ⟨by rfl, ?_⟩) ?_ ?_
                      rotate_left
                      · intro w'
                        go_simp
                        with_reducible rfl
                      rotate_left
                      · simp only [Act.put, List.setIfInBounds_toArray, List.set_cons_zero, List.set_cons_succ, i64_w, i32_w]
                        rfl
                      refine pure_ (i := 9) (N := some 39) (v := ?_) (a' := ?_) #[true, true, true, true, true, true, true, true, true, true, false, false, false, false, false, false, false, false] rfl rfl (any_of HT_.out (by kernel_rfl)) (fun _ _ _ h => h) (Or.inl ⟨by rfl, ?_⟩) ?_ ?_
                      rotate_left
                      · intro w'
                        go_simp
                        with_reducible rfl
                      rotate_left
                      · simp only [Act.put, List.setIfInBounds_toArray, List.set_cons_zero, List.set_cons_succ, i64_w, i32_w]
                        rfl
                      refine pure_ (i := 11) (N := some 41) (v := ?_) (a' := ?_) #[true, true, true, true, true, true, true, true, true, true, false, true, false, false, false, false, false, false] rfl rfl (any_of HT_.out (by kernel_rfl)) (fun _ _ _ h => h) (Or.inl ⟨by rfl, ?_⟩) ?_ ?_
                      rotate_left
                      · intro w'
                        go_simp
                        with_reducible rfl
                      rotate_left
                      · simp only [Act.put, List.setIfInBounds_toArray, List.set_cons_zero, List.set_cons_succ, i64_w, i32_w]
                        rfl
                      refine pure_ (i := 12) (N := some 42) (v := ?_) (a' := ?_) #[true, true, true, true, true, true, true, true, true, true, false, true, true, false, false, false, false, false] rfl rfl (any_of HT_.out (by kernel_rfl)) (fun _ _ _ h => h) (Or.inl ⟨by rfl, ?_⟩) ?_ ?_
                      rotate_left
                      · intro w'
                        go_simp
                        with_reducible rfl
                      rotate_left
                      · simp only [Act.put, List.setIfInBounds_toArray, List.set_cons_zero, List.set_cons_succ, i64_w, i32_w]
                        rfl
                      refine pure_ (i := 13) (N := some 43) (v := ?_) (a' := ?_) #[true, true, true, true, true, true, true, true, true, true, false, true, true, true, false, false, false, false] rfl rfl (any_of HT_.out (by kernel_rfl)) (fun _ _ _ h => h) (Or.inl ⟨by rfl, ?_⟩) ?_ ?_
                      rotate_left
                      · intro w'
                        go_simp
                        with_reducible rfl
                      rotate_left
                      · simp only [Act.put, List.setIfInBounds_toArray, List.set_cons_zero, List.set_cons_succ, i64_w, i32_w]
                        rfl
                      refine pure_ (i := 15) (N := some 45) (v := ?_) (a' := ?_) #[true, true, true, true, true, true, true, true, true, true, false, true, true, true, false, true, false, false] rfl rfl (any_of HT_.out (by kernel_rfl)) (fun _ _ _ h => h) (Or.inl ⟨by rfl, ?_⟩) ?_ ?_
                      rotate_left
                      · intro w'
                        go_simp
                        with_reducible rfl
                      rotate_left
                      · simp only [Act.put, List.setIfInBounds_toArray, List.set_cons_zero, List.set_cons_succ, i64_w, i32_w]
                        rfl
                      refine take_ (i := 10) (N := some 40) (v := ?_) (a' := ?_) #[true, true, true, true, true, true, true, true, true, true, true, true, true, true, false, true, false, false] rfl rfl (take_ofW HT_.out HW_.out (by kernel_rfl)) (fun _ _ _ h => h) (Or.inl ⟨by rfl, ?_⟩) hHeld ?_ ?_
                      rotate_left
                      · rintro w' ⟨s0, s1, s2, s3, s4, s5, s6, s7, s8, s9, s10, s11⟩
                        go_simp
                        with_reducible rfl
                      rotate_left
                      · simp only [Act.put, List.setIfInBounds_toArray, List.set_cons_zero, List.set_cons_succ, i64_w, i32_w]
                        rfl
                      refine take_ (i := 14) (N := some 44) (v := ?_) (a' := ?_) #[true, true, true, true, true, true, true, true, true, true, true, true, true, true, true, true, false, false] rfl rfl (take_ofW HT_.out HW_.out (by kernel_rfl)) (fun _ _ _ h => h) (Or.inl ⟨by rfl, ?_⟩) hHeld ?_ ?_
                      rotate_left
                      · rintro w' ⟨s0, s1, s2, s3, s4, s5, s6, s7, s8, s9, s10, s11⟩
                        go_simp
                        with_reducible rfl
                      rotate_left
                      · simp only [Act.put, List.setIfInBounds_toArray, List.set_cons_zero, List.set_cons_succ, i64_w, i32_w]
                        rfl
                      refine one_ (i := 16) (N := some 46) #[true, true, true, true, true, true, true, true, true, true, true, true, true, true, true, true, true, false] rfl rfl (one_of HT_.out (by kernel_rfl)) (by decide) (fun K hK => ?_)
                      refine goes_ Tryd.func32 (by kernel_rfl) rfl #[.agg #[.int .i64 ((rd_T39 l0 a3).f0), .int .i64 ((rd_T39 l0 a3).f1), .int .i64 ((rd_T39 l0 a3).f2), .int .i64 ((rd_T39 l0 a3).f3), .int .i64 ((rd_T39 l0 a3).f4), .int .i64 ((rd_T39 l0 a3).f5)], .agg #[.int .i64 ((rd_T39 l1 x12_1).f0), .int .i64 ((rd_T39 l1 x12_1).f1), .int .i64 ((rd_T39 l1 x12_1).f2), .int .i64 ((rd_T39 l1 x12_1).f3), .int .i64 ((rd_T39 l1 x12_1).f4), .int .i64 ((rd_T39 l1 x12_1).f5)], .int .i64 a2] (by rfl) rfl rfl (by (try simp only [List.map_toArray, List.map_cons, List.map_nil]); first | done | rfl | (simp only [List.length_drop, List.length_take]; rfl)) ?_
                      with_reducible refine (insolvencyref25_Corresponds.calls ((rd_T39 l0 a3).f0) ((rd_T39 l0 a3).f1) ((rd_T39 l0 a3).f2) ((rd_T39 l0 a3).f3) ((rd_T39 l0 a3).f4) ((rd_T39 l0 a3).f5) ((rd_T39 l1 x12_1).f0) ((rd_T39 l1 x12_1).f1) ((rd_T39 l1 x12_1).f2) ((rd_T39 l1 x12_1).f3) ((rd_T39 l1 x12_1).f4) ((rd_T39 l1 x12_1).f5) a2 true _ A17.out).mono ?_
                      rintro e w24 ⟨rfl, hb⟩
                      refine ⟨_, rfl, ?_⟩
                      have n0_ := Aside0.mk (below_step (by repeat (first | (with_reducible first | exact HB.out | apply below_alloc | apply pw_below_drewN | apply below_drew1) | exact HB.out)) hb)
                      clear HB
                      have HB := n0_
                      clear n0_
                      (try clear hb)
                      (try clear hb2)
                      (try clear hk)
                      (try clear hi)
                      refine hK.out _ _ ⟨((HB.out.cell (World.block_lt_of_cell? w _ hw409_0)).trans hw409_0), ((HB.out.cell (World.block_lt_of_cell? w _ hw409_1)).trans hw409_1), ((HB.out.cell (World.block_lt_of_cell? w _ hw409_2)).trans hw409_2), ((HB.out.cell (World.block_lt_of_cell? w _ hw409_3)).trans hw409_3), ((HB.out.cell (World.block_lt_of_cell? w _ hw409_4)).trans hw409_4), ((HB.out.cell (World.block_lt_of_cell? w _ hw409_5)).trans hw409_5), ((HB.out.cell (World.block_lt_of_cell? w _ hw410_0)).trans hw410_0), ((HB.out.cell (World.block_lt_of_cell? w _ hw410_1)).trans hw410_1), ((HB.out.cell (World.block_lt_of_cell? w _ hw410_2)).trans hw410_2), ((HB.out.cell (World.block_lt_of_cell? w _ hw410_3)).trans hw410_3), ((HB.out.cell (World.block_lt_of_cell? w _ hw410_4)).trans hw410_4), ((HB.out.cell (World.block_lt_of_cell? w _ hw410_5)).trans hw410_5)⟩ (fun hHeld => ?_)
                      clear hK K
                      refine norm_ (a' := ?_) ?_ ?_
                      rotate_left
                      · show Act.put _ (some 46) _ = _
                        simp only [Act.put, List.setIfInBounds_toArray, List.set_cons_zero, List.set_cons_succ, i64_w, i32_w]
                        rfl
                      refine pure_ (i := 17) (N := some 47) (v := ?_) (a' := ?_) #[true, true, true, true, true, true, true, true, true, true, true, true, true, true, true, true, true, true] rfl rfl (any_of HT_.out (by kernel_rfl)) (fun _ _ _ h => h) (Or.inl ⟨by rfl, ?_⟩) ?_ ?_
                      rotate_left
                      · intro w'
                        go_simp
                        with_reducible rfl
                      rotate_left
                      · simp only [Act.put, List.setIfInBounds_toArray, List.set_cons_zero, List.set_cons_succ, i64_w, i32_w]
                        rfl
                      refine done_ (done_of HT_.out (by kernel_rfl)) ?_
                      try go_wp2_with (first | ((with_reducible refine gate_callee (f := 33) rfl ?_); refine goesL_ (some 59) rfl rfl Tryd.func33 (by kernel_rfl) rfl #[.slice (some ad409) l0.length c0, .slice (some ad410) l1.length c1, .int .i64 a2, .int .i64 (wrap64 (a3 + 1)), .int .u64 (Go.bits .or .u64 a4 (ji20))] rfl (by (try simp only [List.map_toArray, List.map_cons, List.map_nil]); first | done | (simp only [hji20]; rfl) | rfl | (simp only [List.length_drop, List.length_take]; rfl)) ?_; (with_reducible refine (ih k1 (by have := HK1.out; omega) _ _ l0 _ _ l1 a2 (wrap64 (a3 + 1)) (Go.bits .or .u64 a4 (ji20)) t412 _ ?side1 ?side2 ?side3 ?side4 A21.out).mono ?_); (case side1 => repeat (first | exact (Kd.C_below HR0.out HB.out) | (with_reducible refine Kd.C_alloc ?_ _) | (with_reducible refine Kd.C_drewN ?_ _) | (with_reducible refine Kd.C_drew ?_))); (case side2 => exact HC0.out); (case side3 => repeat (first | exact (Kd.C_below HR1.out HB.out) | (with_reducible refine Kd.C_alloc ?_ _) | (with_reducible refine Kd.C_drewN ?_ _) | (with_reducible refine Kd.C_drew ?_))); (case side4 => exact HC1.out); rintro e w25 ⟨rfl, hb⟩; refine ⟨_, rfl, ?_⟩; have n0_ := Aside0.mk (below_step (by repeat (first | (with_reducible first | exact HB.out | apply below_alloc | apply pw_below_drewN | apply below_drew1) | exact HB.out)) hb); clear HB; have HB := n0_; clear n0_; (try clear hb); (try clear hb2); (try clear hk); (try clear hi)))
                      go_roundg k1
                      case measure => have := HK1.out; omega
                      case rel => exact ⟨(ji22), (wrap64 (x12_1 + 1)), (by first | rfl | (simp; done) | (simp only [← hji22] <;> (first | rfl | simp)) | (simp [*]; done)), (by first | rfl | (simp; done) | (simp [*]; done)), H', ⟨by have := HK1.out; omega⟩, ⟨by repeat (first | (with_reducible first | exact HB.out | apply below_alloc | apply pw_below_drewN | apply below_drew1) | exact HB.out)⟩⟩
                    · replace c18 := Bool.eq_false_iff.mpr c18
                      subst c18
                      have H1 : (insolvencylaw25_most.l0 k1 l0 l1 a2 a3 a4 x11_1 (wrap64 (x12_1 + 1))) = some r := by rw [if_neg (show ¬ (false = true) by decide)] at H; exact H
                      clear H
                      have H := H1
                      clear H1
                      have H' := Aside0.mk H
                      clear H
                      try go_wp2
                      have n0_ := Aside0.mk (below_drew1 HB.out)
                      clear HB
                      have HB := n0_
                      clear n0_
                      have p409 : 0 ≤ (a3 : Int) := of_decide_eq_true (by first | (with_reducible assumption) | assumption)
                      have q409 : a3 < (l0.length : Int) := of_decide_eq_true (by first | (with_reducible assumption) | assumption)
                      obtain ⟨ad409, e409, hx409_0, hx409_1, hx409_2, hx409_3, hx409_4, hx409_5⟩ := at_T39 HR0.out a3 p409 q409
                      have hw409_5 := hx409_5
                      have hw409_4 := hx409_4
                      have hw409_3 := hx409_3
                      have hw409_2 := hx409_2
                      have hw409_1 := hx409_1
                      have hw409_0 := hx409_0
                      cases e409
                      replace hx409_0 := (HB.out.cell (World.block_lt_of_cell? w _ hx409_0)).trans hx409_0
                      replace hx409_1 := (HB.out.cell (World.block_lt_of_cell? w _ hx409_1)).trans hx409_1
                      replace hx409_2 := (HB.out.cell (World.block_lt_of_cell? w _ hx409_2)).trans hx409_2
                      replace hx409_3 := (HB.out.cell (World.block_lt_of_cell? w _ hx409_3)).trans hx409_3
                      replace hx409_4 := (HB.out.cell (World.block_lt_of_cell? w _ hx409_4)).trans hx409_4
                      replace hx409_5 := (HB.out.cell (World.block_lt_of_cell? w _ hx409_5)).trans hx409_5
                      replace p409 := eq_true p409
                      replace q409 := eq_true q409
                      have p410 : 0 ≤ (x12_1 : Int) := of_decide_eq_true (by first | (with_reducible assumption) | assumption)
                      have q410 : x12_1 < (l1.length : Int) := of_decide_eq_true (by first | (with_reducible assumption) | assumption)
                      obtain ⟨ad410, e410, hx410_0, hx410_1, hx410_2, hx410_3, hx410_4, hx410_5⟩ := at_T39 HR1.out x12_1 p410 q410
                      have hw410_5 := hx410_5
                      have hw410_4 := hx410_4
                      have hw410_3 := hx410_3
                      have hw410_2 := hx410_2
                      have hw410_1 := hx410_1
                      have hw410_0 := hx410_0
                      cases e410
                      replace hx410_0 := (HB.out.cell (World.block_lt_of_cell? w _ hx410_0)).trans hx410_0
                      replace hx410_1 := (HB.out.cell (World.block_lt_of_cell? w _ hx410_1)).trans hx410_1
                      replace hx410_2 := (HB.out.cell (World.block_lt_of_cell? w _ hx410_2)).trans hx410_2
                      replace hx410_3 := (HB.out.cell (World.block_lt_of_cell? w _ hx410_3)).trans hx410_3
                      replace hx410_4 := (HB.out.cell (World.block_lt_of_cell? w _ hx410_4)).trans hx410_4
                      replace hx410_5 := (HB.out.cell (World.block_lt_of_cell? w _ hx410_5)).trans hx410_5
                      replace p410 := eq_true p410
                      replace q410 := eq_true q410
                      refine start_ (n := 18) (S := fun w' => w'.cell? (ad409.add ((a3).toNat * 6)) = some (.int .i64 ((rd_T39 l0 a3).f0)) ∧ w'.cell? ⟨(ad409.add ((a3).toNat * 6)).block, (ad409.add ((a3).toNat * 6)).off + 1, none⟩ = some (.int .i64 ((rd_T39 l0 a3).f1)) ∧ w'.cell? ⟨(ad409.add ((a3).toNat * 6)).block, (ad409.add ((a3).toNat * 6)).off + 2, none⟩ = some (.int .i64 ((rd_T39 l0 a3).f2)) ∧ w'.cell? ⟨(ad409.add ((a3).toNat * 6)).block, (ad409.add ((a3).toNat * 6)).off + 3, none⟩ = some (.int .i64 ((rd_T39 l0 a3).f3)) ∧ w'.cell? ⟨(ad409.add ((a3).toNat * 6)).block, (ad409.add ((a3).toNat * 6)).off + 4, none⟩ = some (.int .i64 ((rd_T39 l0 a3).f4)) ∧ w'.cell? ⟨(ad409.add ((a3).toNat * 6)).block, (ad409.add ((a3).toNat * 6)).off + 5, none⟩ = some (.int .i64 ((rd_T39 l0 a3).f5)) ∧ w'.cell? (ad410.add ((x12_1).toNat * 6)) = some (.int .i64 ((rd_T39 l1 x12_1).f0)) ∧ w'.cell? ⟨(ad410.add ((x12_1).toNat * 6)).block, (ad410.add ((x12_1).toNat * 6)).off + 1, none⟩ = some (.int .i64 ((rd_T39 l1 x12_1).f1)) ∧ w'.cell? ⟨(ad410.add ((x12_1).toNat * 6)).block, (ad410.add ((x12_1).toNat * 6)).off + 2, none⟩ = some (.int .i64 ((rd_T39 l1 x12_1).f2)) ∧ w'.cell? ⟨(ad410.add ((x12_1).toNat * 6)).block, (ad410.add ((x12_1).toNat * 6)).off + 3, none⟩ = some (.int .i64 ((rd_T39 l1 x12_1).f3)) ∧ w'.cell? ⟨(ad410.add ((x12_1).toNat * 6)).block, (ad410.add ((x12_1).toNat * 6)).off + 4, none⟩ = some (.int .i64 ((rd_T39 l1 x12_1).f4)) ∧ w'.cell? ⟨(ad410.add ((x12_1).toNat * 6)).block, (ad410.add ((x12_1).toNat * 6)).off + 5, none⟩ = some (.int .i64 ((rd_T39 l1 x12_1).f5))) (ds := []) #[false, false, false, false, false, false, false, false, false, false, false, false, false, false, false, false, false, false] (by kernel_rfl) rfl rfl ⟨((HB.out.cell (World.block_lt_of_cell? w _ hw409_0)).trans hw409_0), ((HB.out.cell (World.block_lt_of_cell? w _ hw409_1)).trans hw409_1), ((HB.out.cell (World.block_lt_of_cell? w _ hw409_2)).trans hw409_2), ((HB.out.cell (World.block_lt_of_cell? w _ hw409_3)).trans hw409_3), ((HB.out.cell (World.block_lt_of_cell? w _ hw409_4)).trans hw409_4), ((HB.out.cell (World.block_lt_of_cell? w _ hw409_5)).trans hw409_5), ((HB.out.cell (World.block_lt_of_cell? w _ hw410_0)).trans hw410_0), ((HB.out.cell (World.block_lt_of_cell? w _ hw410_1)).trans hw410_1), ((HB.out.cell (World.block_lt_of_cell? w _ hw410_2)).trans hw410_2), ((HB.out.cell (World.block_lt_of_cell? w _ hw410_3)).trans hw410_3), ((HB.out.cell (World.block_lt_of_cell? w _ hw410_4)).trans hw410_4), ((HB.out.cell (World.block_lt_of_cell? w _ hw410_5)).trans hw410_5)⟩ (fun hHeld => ?_); refine with_tabW insolvencylaw25_most.tab7 insolvencylaw25_most.bits7 (fun HT_ HW_ => ?_)
                      generalize wr.drew = w26 at HB hx409_0 hx409_1 hx409_2 hx409_3 hx409_4 hx409_5 hx410_0 hx410_1 hx410_2 hx410_3 hx410_4 hx410_5 hHeld ⊢
                      refine pure_ (i := 0) (N := some 30) (v := ?_) (a' := ?_) #[true, false, false, false, false, false, false, false, false, false, false, false, false, false, false, false, false, false] rfl rfl (any_of HT_.out (by kernel_rfl)) (fun _ _ _ h => h) (Or.inl ⟨by rfl, ?_⟩) ?_ ?_
                      rotate_left
                      · intro w'
                        go_simp
                        with_reducible rfl
                      rotate_left
                      · simp only [Act.put, List.setIfInBounds_toArray, List.set_cons_zero, List.set_cons_succ, i64_w, i32_w]
                        rfl
                      refine pure_ (i := 1) (N := some 31) (v := ?_) (a' := ?_) #[true, true, false, false, false, false, false, false, false, false, false, false, false, false, false, false, false, false] rfl rfl (any_of HT_.out (by kernel_rfl)) (fun _ _ _ h => h) (Or.inl ⟨by rfl, ?_⟩) ?_ ?_
                      rotate_left
                      · intro w'
                        go_simp
                        with_reducible rfl
                      rotate_left
                      · simp only [Act.put, List.setIfInBounds_toArray, List.set_cons_zero, List.set_cons_succ, i64_w, i32_w]
                        rfl
                      refine pure_ (i := 2) (N := some 32) (v := ?_) (a' := ?_) #[true, true, true, false, false, false, false, false, false, false, false, false, false, false, false, false, false, false] rfl rfl (any_of HT_.out (by kernel_rfl)) (fun _ _ _ h => h) (Or.inl ⟨by rfl, ?_⟩) ?_ ?_
                      rotate_left
                      · intro w'
                        go_simp
                        with_reducible rfl
                      rotate_left
                      · simp only [Act.put, List.setIfInBounds_toArray, List.set_cons_zero, List.set_cons_succ, i64_w, i32_w]
                        rfl
                      refine pure_ (i := 3) (N := some 33) (v := ?_) (a' := ?_) #[true, true, true, true, false, false, false, false, false, false, false, false, false, false, false, false, false, false] rfl rfl (any_of HT_.out (by kernel_rfl)) (fun _ _ _ h => h) (Or.inl ⟨by rfl, ?_⟩) ?_ ?_
                      rotate_left
                      · intro w'
                        go_simp
                        with_reducible rfl
                      rotate_left
                      · simp only [Act.put, List.setIfInBounds_toArray, List.set_cons_zero, List.set_cons_succ, i64_w, i32_w]
                        rfl
                      refine pure_ (i := 4) (N := some 34) (v := ?_) (a' := ?_) #[true, true, true, true, true, false, false, false, false, false, false, false, false, false, false, false, false, false] rfl rfl (any_of HT_.out (by kernel_rfl)) (fun _ _ _ h => h) (Or.inl ⟨by rfl, ?_⟩) ?_ ?_
                      rotate_left
                      · intro w'
                        go_simp
                        with_reducible rfl
                      rotate_left
                      · simp only [Act.put, List.setIfInBounds_toArray, List.set_cons_zero, List.set_cons_succ, i64_w, i32_w]
                        rfl
                      refine pure_ (i := 5) (N := some 35) (v := ?_) (a' := ?_) #[true, true, true, true, true, true, false, false, false, false, false, false, false, false, false, false, false, false] rfl rfl (any_of HT_.out (by kernel_rfl)) (fun _ _ _ h => h) (Or.inl ⟨by rfl, ?_⟩) ?_ ?_
                      rotate_left
                      · intro w'
                        go_simp
                        with_reducible rfl
                      rotate_left
                      · simp only [Act.put, List.setIfInBounds_toArray, List.set_cons_zero, List.set_cons_succ, i64_w, i32_w]
                        rfl
                      refine pure_ (i := 6) (N := some 36) (v := ?_) (a' := ?_) #[true, true, true, true, true, true, true, false, false, false, false, false, false, false, false, false, false, false] rfl rfl (any_of HT_.out (by kernel_rfl)) (fun _ _ _ h => h) (Or.inl ⟨by rfl, ?_⟩) ?_ ?_
                      rotate_left
                      · intro w'
                        go_simp
                        with_reducible rfl
                      rotate_left
                      · simp only [Act.put, List.setIfInBounds_toArray, List.set_cons_zero, List.set_cons_succ, i64_w, i32_w]
                        rfl
                      refine pure_ (i := 7) (N := some 37) (v := ?_) (a' := ?_) #[true, true, true, true, true, true, true, true, false, false, false, false, false, false, false, false, false, false] rfl rfl (any_of HT_.out (by kernel_rfl)) (fun _ _ _ h => h) (Or.inl ⟨by rfl, ?_⟩) ?_ ?_
                      rotate_left
                      · intro w'
                        go_simp
                        with_reducible rfl
                      rotate_left
                      · simp only [Act.put, List.setIfInBounds_toArray, List.set_cons_zero, List.set_cons_succ, i64_w, i32_w]
                        rfl
                      refine pure_ (i := 8) (N := some 38) (v := ?_) (a' := ?_) #[true, true, true, true, true, true, true, true, true, false, false, false, false, false, false, false, false, false] rfl rfl (any_of HT_.out (by kernel_rfl)) (fun _ _ _ h => h) (Or.inl ⟨by rfl, ?_⟩) ?_ ?_
                      rotate_left
                      · intro w'
                        go_simp
                        with_reducible rfl
                      rotate_left
                      · simp only [Act.put, List.setIfInBounds_toArray, List.set_cons_zero, List.set_cons_succ, i64_w, i32_w]
                        rfl
                      refine pure_ (i := 9) (N := some 39) (v := ?_) (a' := ?_) #[true, true, true, true, true, true, true, true, true, true, false, false, false, false, false, false, false, false] rfl rfl (any_of HT_.out (by kernel_rfl)) (fun _ _ _ h => h) (Or.inl ⟨by rfl, ?_⟩) ?_ ?_
                      rotate_left
                      · intro w'
                        go_simp
                        with_reducible rfl
                      rotate_left
                      · simp only [Act.put, List.setIfInBounds_toArray, List.set_cons_zero, List.set_cons_succ, i64_w, i32_w]
                        rfl
                      refine pure_ (i := 11) (N := some 41) (v := ?_) (a' := ?_) #[true, true, true, true, true, true, true, true, true, true, false, true, false, false, false, false, false, false] rfl rfl (any_of HT_.out (by kernel_rfl)) (fun _ _ _ h => h) (Or.inl ⟨by rfl, ?_⟩) ?_ ?_
                      rotate_left
                      · intro w'
                        go_simp
                        with_reducible rfl
                      rotate_left
                      · simp only [Act.put, List.setIfInBounds_toArray, List.set_cons_zero, List.set_cons_succ, i64_w, i32_w]
                        rfl
                      refine pure_ (i := 12) (N := some 42) (v := ?_) (a' := ?_) #[true, true, true, true, true, true, true, true, true, true, false, true, true, false, false, false, false, false] rfl rfl (any_of HT_.out (by kernel_rfl)) (fun _ _ _ h => h) (Or.inl ⟨by rfl, ?_⟩) ?_ ?_
                      rotate_left
                      · intro w'
                        go_simp
                        with_reducible rfl
                      rotate_left
                      · simp only [Act.put, List.setIfInBounds_toArray, List.set_cons_zero, List.set_cons_succ, i64_w, i32_w]
                        rfl
                      refine pure_ (i := 13) (N := some 43) (v := ?_) (a' := ?_) #[true, true, true, true, true, true, true, true, true, true, false, true, true, true, false, false, false, false] rfl rfl (any_of HT_.out (by kernel_rfl)) (fun _ _ _ h => h) (Or.inl ⟨by rfl, ?_⟩) ?_ ?_
                      rotate_left
                      · intro w'
                        go_simp
                        with_reducible rfl
                      rotate_left
                      · simp only [Act.put, List.setIfInBounds_toArray, List.set_cons_zero, List.set_cons_succ, i64_w, i32_w]
                        rfl
                      refine pure_ (i := 15) (N := some 45) (v := ?_) (a' := ?_) #[true, true, true, true, true, true, true, true, true, true, false, true, true, true, false, true, false, false] rfl rfl (any_of HT_.out (by kernel_rfl)) (fun _ _ _ h => h) (Or.inl ⟨by rfl, ?_⟩) ?_ ?_
                      rotate_left
                      · intro w'
                        go_simp
                        with_reducible rfl
                      rotate_left
                      · simp only [Act.put, List.setIfInBounds_toArray, List.set_cons_zero, List.set_cons_succ, i64_w, i32_w]
                        rfl
                      refine take_ (i := 10) (N := some 40) (v := ?_) (a' := ?_) #[true, true, true, true, true, true, true, true, true, true, true, true, true, true, false, true, false, false] rfl rfl (take_ofW HT_.out HW_.out (by kernel_rfl)) (fun _ _ _ h => h) (Or.inl ⟨by rfl, ?_⟩) hHeld ?_ ?_
                      rotate_left
                      · rintro w' ⟨s0, s1, s2, s3, s4, s5, s6, s7, s8, s9, s10, s11⟩
                        go_simp
                        with_reducible rfl
                      rotate_left
                      · simp only [Act.put, List.setIfInBounds_toArray, List.set_cons_zero, List.set_cons_succ, i64_w, i32_w]
                        rfl
                      refine take_ (i := 14) (N := some 44) (v := ?_) (a' := ?_) #[true, true, true, true, true, true, true, true, true, true, true, true, true, true, true, true, false, false] rfl rfl (take_ofW HT_.out HW_.out (by kernel_rfl)) (fun _ _ _ h => h) (Or.inl ⟨by rfl, ?_⟩) hHeld ?_ ?_
                      rotate_left
                      · rintro w' ⟨s0, s1, s2, s3, s4, s5, s6, s7, s8, s9, s10, s11⟩
                        go_simp
                        with_reducible rfl
                      rotate_left
                      · simp only [Act.put, List.setIfInBounds_toArray, List.set_cons_zero, List.set_cons_succ, i64_w, i32_w]
                        rfl
                      refine one_ (i := 16) (N := some 46) #[true, true, true, true, true, true, true, true, true, true, true, true, true, true, true, true, true, false] rfl rfl (one_of HT_.out (by kernel_rfl)) (by decide) (fun K hK => ?_)
                      refine goes_ Tryd.func32 (by kernel_rfl) rfl #[.agg #[.int .i64 ((rd_T39 l0 a3).f0), .int .i64 ((rd_T39 l0 a3).f1), .int .i64 ((rd_T39 l0 a3).f2), .int .i64 ((rd_T39 l0 a3).f3), .int .i64 ((rd_T39 l0 a3).f4), .int .i64 ((rd_T39 l0 a3).f5)], .agg #[.int .i64 ((rd_T39 l1 x12_1).f0), .int .i64 ((rd_T39 l1 x12_1).f1), .int .i64 ((rd_T39 l1 x12_1).f2), .int .i64 ((rd_T39 l1 x12_1).f3), .int .i64 ((rd_T39 l1 x12_1).f4), .int .i64 ((rd_T39 l1 x12_1).f5)], .int .i64 a2] (by rfl) rfl rfl (by (try simp only [List.map_toArray, List.map_cons, List.map_nil]); first | done | rfl | (simp only [List.length_drop, List.length_take]; rfl)) ?_
                      with_reducible refine (insolvencyref25_Corresponds.calls ((rd_T39 l0 a3).f0) ((rd_T39 l0 a3).f1) ((rd_T39 l0 a3).f2) ((rd_T39 l0 a3).f3) ((rd_T39 l0 a3).f4) ((rd_T39 l0 a3).f5) ((rd_T39 l1 x12_1).f0) ((rd_T39 l1 x12_1).f1) ((rd_T39 l1 x12_1).f2) ((rd_T39 l1 x12_1).f3) ((rd_T39 l1 x12_1).f4) ((rd_T39 l1 x12_1).f5) a2 false _ A17.out).mono ?_
                      rintro e w27 ⟨rfl, hb⟩
                      refine ⟨_, rfl, ?_⟩
                      have n0_ := Aside0.mk (below_step (by repeat (first | (with_reducible first | exact HB.out | apply below_alloc | apply pw_below_drewN | apply below_drew1) | exact HB.out)) hb)
                      clear HB
                      have HB := n0_
                      clear n0_
                      (try clear hb)
                      (try clear hb2)
                      (try clear hk)
                      (try clear hi)
                      refine hK.out _ _ ⟨((HB.out.cell (World.block_lt_of_cell? w _ hw409_0)).trans hw409_0), ((HB.out.cell (World.block_lt_of_cell? w _ hw409_1)).trans hw409_1), ((HB.out.cell (World.block_lt_of_cell? w _ hw409_2)).trans hw409_2), ((HB.out.cell (World.block_lt_of_cell? w _ hw409_3)).trans hw409_3), ((HB.out.cell (World.block_lt_of_cell? w _ hw409_4)).trans hw409_4), ((HB.out.cell (World.block_lt_of_cell? w _ hw409_5)).trans hw409_5), ((HB.out.cell (World.block_lt_of_cell? w _ hw410_0)).trans hw410_0), ((HB.out.cell (World.block_lt_of_cell? w _ hw410_1)).trans hw410_1), ((HB.out.cell (World.block_lt_of_cell? w _ hw410_2)).trans hw410_2), ((HB.out.cell (World.block_lt_of_cell? w _ hw410_3)).trans hw410_3), ((HB.out.cell (World.block_lt_of_cell? w _ hw410_4)).trans hw410_4), ((HB.out.cell (World.block_lt_of_cell? w _ hw410_5)).trans hw410_5)⟩ (fun hHeld => ?_)
                      clear hK K
                      refine norm_ (a' := ?_) ?_ ?_
                      rotate_left
                      · show Act.put _ (some 46) _ = _
                        simp only [Act.put, List.setIfInBounds_toArray, List.set_cons_zero, List.set_cons_succ, i64_w, i32_w]
                        rfl
                      refine pure_ (i := 17) (N := some 47) (v := ?_) (a' := ?_) #[true, true, true, true, true, true, true, true, true, true, true, true, true, true, true, true, true, true] rfl rfl (any_of HT_.out (by kernel_rfl)) (fun _ _ _ h => h) (Or.inl ⟨by rfl, ?_⟩) ?_ ?_
                      rotate_left
                      · intro w'
                        go_simp
                        with_reducible rfl
                      rotate_left
                      · simp only [Act.put, List.setIfInBounds_toArray, List.set_cons_zero, List.set_cons_succ, i64_w, i32_w]
                        rfl
                      refine done_ (done_of HT_.out (by kernel_rfl)) ?_
                      try go_wp2
                      go_roundg k1
                      case measure => have := HK1.out; omega
                      case rel => exact ⟨(x11_1), (wrap64 (x12_1 + 1)), (by first | rfl | (simp; done) | (simp [*]; done)), (by first | rfl | (simp; done) | (simp [*]; done)), H', ⟨by have := HK1.out; omega⟩, ⟨by repeat (first | (with_reducible first | exact HB.out | apply below_alloc | apply pw_below_drewN | apply below_drew1) | exact HB.out)⟩⟩
                  · rw [if_neg c16] at H
                    exact absurd H (by simp)
                · rw [if_neg c15] at H
                  exact absurd H (by simp)
              · rw [if_neg c14] at H
                exact absurd H (by simp)
            · rw [if_neg c13] at H
              have c13b0 : ((Go.bits .and .u64 (ji12) 1) == 0) = false := beq_eq_false_iff_ne.mpr c13
              have c13b1 : ((Go.bits .and .u64 (ji12) 1) != 0) = true := bne_iff_ne.mpr c13
              have H' := Aside0.mk H
              clear H
              try go_wp2
              have n0_ := Aside0.mk (below_drew1 HB.out)
              clear HB
              have HB := n0_
              clear n0_
              refine start_ (n := 18) (S := fun w' => True) (ds := []) #[false, false, false, false, false, false, false, false, false, false, false, false, false, false, false, false, false, false] (by kernel_rfl) rfl rfl trivial (fun hHeld => ?_); refine with_tabW insolvencylaw25_most.tab7 insolvencylaw25_most.bits7 (fun HT_ HW_ => ?_)
              generalize wr.drew = w28 at HB hHeld ⊢
              refine pure_ (i := 0) (N := some 30) (v := ?_) (a' := ?_) #[true, false, false, false, false, false, false, false, false, false, false, false, false, false, false, false, false, false] rfl rfl (any_of HT_.out (by kernel_rfl)) (fun _ _ _ h => h) (Or.inl ⟨by rfl, ?_⟩) ?_ ?_
              rotate_left
              · intro w'
                go_simp
                with_reducible rfl
              rotate_left
              · simp only [Act.put, List.setIfInBounds_toArray, List.set_cons_zero, List.set_cons_succ, i64_w, i32_w]
                rfl
              refine pure_ (i := 1) (N := some 31) (v := ?_) (a' := ?_) #[true, true, false, false, false, false, false, false, false, false, false, false, false, false, false, false, false, false] rfl rfl (any_of HT_.out (by kernel_rfl)) (fun _ _ _ h => h) (Or.inl ⟨by rfl, ?_⟩) ?_ ?_
              rotate_left
              · intro w'
                go_simp
                with_reducible rfl
              rotate_left
              · simp only [Act.put, List.setIfInBounds_toArray, List.set_cons_zero, List.set_cons_succ, i64_w, i32_w]
                rfl
              refine pure_ (i := 2) (N := some 32) (v := ?_) (a' := ?_) #[true, true, true, false, false, false, false, false, false, false, false, false, false, false, false, false, false, false] rfl rfl (any_of HT_.out (by kernel_rfl)) (fun _ _ _ h => h) (Or.inl ⟨by rfl, ?_⟩) ?_ ?_
              rotate_left
              · intro w'
                go_simp
                with_reducible rfl
              rotate_left
              · simp only [Act.put, List.setIfInBounds_toArray, List.set_cons_zero, List.set_cons_succ, i64_w, i32_w]
                rfl
              refine pure_ (i := 3) (N := some 33) (v := ?_) (a' := ?_) #[true, true, true, true, false, false, false, false, false, false, false, false, false, false, false, false, false, false] rfl rfl (any_of HT_.out (by kernel_rfl)) (fun _ _ _ h => h) (Or.inl ⟨by rfl, ?_⟩) ?_ ?_
              rotate_left
              · intro w'
                go_simp
                with_reducible rfl
              rotate_left
              · simp only [Act.put, List.setIfInBounds_toArray, List.set_cons_zero, List.set_cons_succ, i64_w, i32_w]
                rfl
              refine pure_ (i := 4) (N := some 34) (v := ?_) (a' := ?_) #[true, true, true, true, true, false, false, false, false, false, false, false, false, false, false, false, false, false] rfl rfl (any_of HT_.out (by kernel_rfl)) (fun _ _ _ h => h) (Or.inl ⟨by rfl, ?_⟩) ?_ ?_
              rotate_left
              · intro w'
                go_simp
                with_reducible rfl
              rotate_left
              · simp only [Act.put, List.setIfInBounds_toArray, List.set_cons_zero, List.set_cons_succ, i64_w, i32_w]
                rfl
              refine pure_ (i := 5) (N := some 35) (v := ?_) (a' := ?_) #[true, true, true, true, true, true, false, false, false, false, false, false, false, false, false, false, false, false] rfl rfl (any_of HT_.out (by kernel_rfl)) (fun _ _ _ h => h) (Or.inl ⟨by rfl, ?_⟩) ?_ ?_
              rotate_left
              · intro w'
                go_simp
                with_reducible rfl
              rotate_left
              · simp only [Act.put, List.setIfInBounds_toArray, List.set_cons_zero, List.set_cons_succ, i64_w, i32_w]
                rfl
              refine pure_ (i := 6) (N := some 36) (v := ?_) (a' := ?_) #[true, true, true, true, true, true, true, false, false, false, false, false, false, false, false, false, false, false] rfl rfl (any_of HT_.out (by kernel_rfl)) (fun _ _ _ h => h) (Or.inl ⟨by rfl, ?_⟩) ?_ ?_
              rotate_left
              · intro w'
                go_simp
                with_reducible rfl
              rotate_left
              · simp only [Act.put, List.setIfInBounds_toArray, List.set_cons_zero, List.set_cons_succ, i64_w, i32_w]
                rfl
              refine pure_ (i := 7) (N := some 37) (v := undef) (a' := ?_) #[true, true, true, true, true, true, true, true, false, false, false, false, false, false, false, false, false, false] rfl rfl (any_of HT_.out (by kernel_rfl)) (fun _ _ _ h => h) (Or.inr ⟨by rfl, rfl⟩) ?_ ?_
              rotate_left
              · simp only [Act.put, List.setIfInBounds_toArray, List.set_cons_zero, List.set_cons_succ, i64_w, i32_w]
                rfl
              refine pure_ (i := 8) (N := some 38) (v := undef) (a' := ?_) #[true, true, true, true, true, true, true, true, true, false, false, false, false, false, false, false, false, false] rfl rfl (any_of HT_.out (by kernel_rfl)) (fun _ _ _ h => h) (Or.inr ⟨by rfl, rfl⟩) ?_ ?_
              rotate_left
              · simp only [Act.put, List.setIfInBounds_toArray, List.set_cons_zero, List.set_cons_succ, i64_w, i32_w]
                rfl
              refine pure_ (i := 9) (N := some 39) (v := undef) (a' := ?_) #[true, true, true, true, true, true, true, true, true, true, false, false, false, false, false, false, false, false] rfl rfl (any_of HT_.out (by kernel_rfl)) (fun _ _ _ h => h) (Or.inr ⟨by rfl, rfl⟩) ?_ ?_
              rotate_left
              · simp only [Act.put, List.setIfInBounds_toArray, List.set_cons_zero, List.set_cons_succ, i64_w, i32_w]
                rfl
              refine pure_ (i := 10) (N := some 40) (v := undef) (a' := ?_) #[true, true, true, true, true, true, true, true, true, true, true, false, false, false, false, false, false, false] rfl rfl (any_of HT_.out (by kernel_rfl)) (fun _ _ _ h => h) (Or.inr ⟨by rfl, rfl⟩) ?_ ?_
              rotate_left
              · simp only [Act.put, List.setIfInBounds_toArray, List.set_cons_zero, List.set_cons_succ, i64_w, i32_w]
                rfl
              refine pure_ (i := 11) (N := some 41) (v := undef) (a' := ?_) #[true, true, true, true, true, true, true, true, true, true, true, true, false, false, false, false, false, false] rfl rfl (any_of HT_.out (by kernel_rfl)) (fun _ _ _ h => h) (Or.inr ⟨by rfl, rfl⟩) ?_ ?_
              rotate_left
              · simp only [Act.put, List.setIfInBounds_toArray, List.set_cons_zero, List.set_cons_succ, i64_w, i32_w]
                rfl
              refine pure_ (i := 12) (N := some 42) (v := undef) (a' := ?_) #[true, true, true, true, true, true, true, true, true, true, true, true, true, false, false, false, false, false] rfl rfl (any_of HT_.out (by kernel_rfl)) (fun _ _ _ h => h) (Or.inr ⟨by rfl, rfl⟩) ?_ ?_
              rotate_left
              · simp only [Act.put, List.setIfInBounds_toArray, List.set_cons_zero, List.set_cons_succ, i64_w, i32_w]
                rfl
              refine pure_ (i := 13) (N := some 43) (v := undef) (a' := ?_) #[true, true, true, true, true, true, true, true, true, true, true, true, true, true, false, false, false, false] rfl rfl (any_of HT_.out (by kernel_rfl)) (fun _ _ _ h => h) (Or.inr ⟨by rfl, rfl⟩) ?_ ?_
              rotate_left
              · simp only [Act.put, List.setIfInBounds_toArray, List.set_cons_zero, List.set_cons_succ, i64_w, i32_w]
                rfl
              refine pure_ (i := 14) (N := some 44) (v := undef) (a' := ?_) #[true, true, true, true, true, true, true, true, true, true, true, true, true, true, true, false, false, false] rfl rfl (any_of HT_.out (by kernel_rfl)) (fun _ _ _ h => h) (Or.inr ⟨by rfl, rfl⟩) ?_ ?_
              rotate_left
              · simp only [Act.put, List.setIfInBounds_toArray, List.set_cons_zero, List.set_cons_succ, i64_w, i32_w]
                rfl
              refine pure_ (i := 15) (N := some 45) (v := undef) (a' := ?_) #[true, true, true, true, true, true, true, true, true, true, true, true, true, true, true, true, false, false] rfl rfl (any_of HT_.out (by kernel_rfl)) (fun _ _ _ h => h) (Or.inr ⟨by rfl, rfl⟩) ?_ ?_
              rotate_left
              · simp only [Act.put, List.setIfInBounds_toArray, List.set_cons_zero, List.set_cons_succ, i64_w, i32_w]
                rfl
              refine pure_ (i := 16) (N := some 46) (v := undef) (a' := ?_) #[true, true, true, true, true, true, true, true, true, true, true, true, true, true, true, true, true, false] rfl rfl (any_of HT_.out (by kernel_rfl)) (fun _ _ _ h => h) (Or.inr ⟨by rfl, rfl⟩) ?_ ?_
              rotate_left
              · simp only [Act.put, List.setIfInBounds_toArray, List.set_cons_zero, List.set_cons_succ, i64_w, i32_w]
                rfl
              refine pure_ (i := 17) (N := some 47) (v := ?_) (a' := ?_) #[true, true, true, true, true, true, true, true, true, true, true, true, true, true, true, true, true, true] rfl rfl (any_of HT_.out (by kernel_rfl)) (fun _ _ _ h => h) (Or.inl ⟨by rfl, ?_⟩) ?_ ?_
              rotate_left
              · intro w'
                go_simp
                with_reducible rfl
              rotate_left
              · simp only [Act.put, List.setIfInBounds_toArray, List.set_cons_zero, List.set_cons_succ, i64_w, i32_w]
                rfl
              refine done_ (done_of HT_.out (by kernel_rfl)) ?_
              try go_wp2
              go_roundg k1
              case measure => have := HK1.out; omega
              case rel => exact ⟨(x11_1), (wrap64 (x12_1 + 1)), (by first | rfl | (simp; done) | (simp [*]; done)), (by first | rfl | (simp; done) | (simp [*]; done)), H', ⟨by have := HK1.out; omega⟩, ⟨by repeat (first | (with_reducible first | exact HB.out | apply below_alloc | apply pw_below_drewN | apply below_drew1) | exact HB.out)⟩⟩
          · rw [if_neg c11] at H
            exact absurd H (by simp)
        · rw [if_neg c9] at H
          have c9b0 : decide (x12_1 < (l1.length : Int)) = false := decide_eq_false c9
          clear c9
          obtain rfl := Option.some.inj H
          go_wp2
          go_ret
          exact ⟨by first | rfl | (simp [errW_none, errW_some] <;> rfl) | (simp [*, errW_none, errW_some] <;> rfl), by repeat (first | (with_reducible first | exact HB.out | apply below_alloc | apply pw_below_drewN | apply below_drew1) | exact HB.out)⟩

end Go.Proofs.YtcehmgmhlmbhnaaDoor.Pr
