-- Written by a program of this session (wip/tools/drive.py over the kit's print.py) out of the translation.
import Derived.Test.YtcehmgmhlmbhnaaDoorPr0
import Derived.Test.YtcehmgmhlmbhnaaDoorPr12
namespace Go.Proofs.YtcehmgmhlmbhnaaDoor.Pr
open Go.RowKit Go.Proofs.YtcehmgmhlmbhnaaDoorW.PrintWords Go.Proofs.YtcehmgmhlmbhnaaDoorW.PrintLast Go.Proofs.YtcehmgmhlmbhnaaDoorW.PrintMore
attribute [local go_sem] max2_int min2_int max_two min_two max_three min_three max_four min_four   -- for this text's walks alone
set_option linter.unusedVariables false
set_option linter.unusedSimpArgs false

/-! ### insolvencylaw25_statements: function 28 -/
mutual
def insolvencylaw25_statements.l0 : Nat → Int → List Int → List (S39) → List (S39) → List (S39) → Int → Option ((List (S39)) × (List (S39)))
  | 0, _, _, _, _, _, _ => none
  | k + 1, x1, x2, x8, x9, x10, x11 => if x11 < (x8.length : Int) then (if 0 ≤ x11 then ((some (x8.set (x11 : Int).toNat (⟨(rd_T39 x8 x11).f0, (rd_T39 x8 x11).f1, (rd_T39 x8 x11).f2, (rd_T39 x8 x11).f3, Int.tmod ((rd_T39 x8 x11).f4) 3, (rd_T39 x8 x11).f5⟩ : S39) : List (S39))).bind fun y314 => ((some (y314.set (x11 : Int).toNat (⟨(rd_T39 y314 x11).f0, (rd_T39 y314 x11).f1, (rd_T39 y314 x11).f2, (rd_T39 y314 x11).f3, (rd_T39 y314 x11).f4, 0⟩ : S39) : List (S39))).bind fun y315 => (if 0 ≤ (IntKind.u64.wrap (Int.tmod x11 16)) then (if (Go.bits .and .u16 (shr .u16 x1 (IntKind.u64.wrap (Int.tmod x11 16))) 1) = 0 then (if x9.length < 2932031007402 then (insolvencylaw25_statements.j1 k x1 x2 y315 (x9 ++ [(⟨(rd_T39 y315 x11).f0, (rd_T39 y315 x11).f1, (rd_T39 y315 x11).f2, (rd_T39 y315 x11).f3, (rd_T39 y315 x11).f4, (rd_T39 y315 x11).f5⟩ : S39)]) x10 x11) else (none)) else (insolvencylaw25_statements.j1 k x1 x2 y315 x9 x10 x11)) else (none)))) else (none)) else (some (x9, x10))
def insolvencylaw25_statements.j1 : Nat → Int → List Int → List (S39) → List (S39) → List (S39) → Int → Option ((List (S39)) × (List (S39)))
  | 0, _, _, _, _, _, _ => none
  | k + 1, x1, x2, x8, x9, x10, x11 => if 0 ≤ x11 then (if x11 < (x8.length : Int) then (if x11 < (x2.length : Int) then (insolvencylaw25_statements.j2 k x1 x2 x8 x9 x10 x11 (wrap64 (((rd_T39 x8 x11).f0) + (wrap64 (Int.tmod (rd x2 x11) 4)))) ((rd_T39 x8 x11).f1) ((rd_T39 x8 x11).f2) ((rd_T39 x8 x11).f3) ((rd_T39 x8 x11).f4) ((rd_T39 x8 x11).f5)) else (insolvencylaw25_statements.j2 k x1 x2 x8 x9 x10 x11 ((rd_T39 x8 x11).f0) ((rd_T39 x8 x11).f1) ((rd_T39 x8 x11).f2) ((rd_T39 x8 x11).f3) ((rd_T39 x8 x11).f4) ((rd_T39 x8 x11).f5))) else (none)) else (none)
def insolvencylaw25_statements.j2 : Nat → Int → List Int → List (S39) → List (S39) → List (S39) → Int → Int → Int → Int → Int → Int → Int → Option ((List (S39)) × (List (S39)))
  | 0, _, _, _, _, _, _, _, _, _, _, _, _ => none
  | k + 1, x1, x2, x8, x9, x10, x11, x322000, x322001, x322002, x322003, x322004, x322005 => if (x10.length : Int) > 0 then (if 0 ≤ (wrap64 ((x10.length : Int) - 1)) then (if (wrap64 ((x10.length : Int) - 1)) < (x10.length : Int) then (insolvencylaw25_statements.j3 k x1 x2 x8 x9 x10 x11 (decide (x322000 < ((rd_T39 x10 (wrap64 ((x10.length : Int) - 1))).f0))) x322000 x322001 x322002 x322003 x322004 x322005) else (none)) else (none)) else (insolvencylaw25_statements.j3 k x1 x2 x8 x9 x10 x11 false x322000 x322001 x322002 x322003 x322004 x322005)
def insolvencylaw25_statements.j3 : Nat → Int → List Int → List (S39) → List (S39) → List (S39) → Int → Bool → Int → Int → Int → Int → Int → Int → Option ((List (S39)) × (List (S39)))
  | 0, _, _, _, _, _, _, _, _, _, _, _, _, _ => none
  | k + 1, x1, x2, x8, x9, x10, x11, x81, x322000, x322001, x322002, x322003, x322004, x322005 => if x81 = true then (if 0 ≤ (wrap64 ((x10.length : Int) - 1)) then (if (wrap64 ((x10.length : Int) - 1)) < (x10.length : Int) then (if (Int.tmod x11 5) = 4 then (insolvencylaw25_statements.l0 k x1 x2 x8 x9 x10 (wrap64 (x11 + 1))) else (if x10.length < 2932031007402 then (insolvencylaw25_statements.l0 k x1 x2 x8 x9 (x10 ++ [(⟨(rd_T39 x10 (wrap64 ((x10.length : Int) - 1))).f0, x322001, x322002, x322003, x322004, x322005⟩ : S39)]) (wrap64 (x11 + 1))) else (none))) else (none)) else (none)) else (if (Int.tmod x11 5) = 4 then (insolvencylaw25_statements.l0 k x1 x2 x8 x9 x10 (wrap64 (x11 + 1))) else (if x10.length < 2932031007402 then (insolvencylaw25_statements.l0 k x1 x2 x8 x9 (x10 ++ [(⟨x322000, x322001, x322002, x322003, x322004, x322005⟩ : S39)]) (wrap64 (x11 + 1))) else (none)))
end
def insolvencylaw25_statements.f (k : Nat) (l0 : List (S67)) (a1 : Int) (l2 : List Int) : Option ((List (S39)) × (List (S39))) := (insolvencylaw0_Rows.f l0 2 9).bind fun t310 => (insolvencylaw25_statements.l0 k a1 l2 t310 ([] : List (S39)) ([] : List (S39)) 0)
theorem insolvencylaw25_statements.mono_l : ∀ k, (∀ y0 y1 y2 y3 y4 y5, LeO (insolvencylaw25_statements.l0 k y0 y1 y2 y3 y4 y5) (insolvencylaw25_statements.l0 (k + 1) y0 y1 y2 y3 y4 y5)) ∧ (∀ y0 y1 y2 y3 y4 y5, LeO (insolvencylaw25_statements.j1 k y0 y1 y2 y3 y4 y5) (insolvencylaw25_statements.j1 (k + 1) y0 y1 y2 y3 y4 y5)) ∧ (∀ y0 y1 y2 y3 y4 y5 y6 y7 y8 y9 y10 y11, LeO (insolvencylaw25_statements.j2 k y0 y1 y2 y3 y4 y5 y6 y7 y8 y9 y10 y11) (insolvencylaw25_statements.j2 (k + 1) y0 y1 y2 y3 y4 y5 y6 y7 y8 y9 y10 y11)) ∧ (∀ y0 y1 y2 y3 y4 y5 y6 y7 y8 y9 y10 y11 y12, LeO (insolvencylaw25_statements.j3 k y0 y1 y2 y3 y4 y5 y6 y7 y8 y9 y10 y11 y12) (insolvencylaw25_statements.j3 (k + 1) y0 y1 y2 y3 y4 y5 y6 y7 y8 y9 y10 y11 y12))
  | 0 => ⟨fun _ _ _ _ _ _ r h => by simp [insolvencylaw25_statements.l0] at h, fun _ _ _ _ _ _ r h => by simp [insolvencylaw25_statements.j1] at h, fun _ _ _ _ _ _ _ _ _ _ _ _ r h => by simp [insolvencylaw25_statements.j2] at h, fun _ _ _ _ _ _ _ _ _ _ _ _ _ r h => by simp [insolvencylaw25_statements.j3] at h⟩
  | k + 1 => by
    obtain ⟨ih0, ih1, ih2, ih3⟩ := insolvencylaw25_statements.mono_l k
    refine ⟨?_, ?_, ?_, ?_⟩
    · intro y0 y1 y2 y3 y4 y5
      unfold insolvencylaw25_statements.l0
      repeat' first
      | (with_reducible exact ih0 _ _ _ _ _ _)
      | (with_reducible exact ih1 _ _ _ _ _ _)
      | (with_reducible exact ih2 _ _ _ _ _ _ _ _ _ _ _ _)
      | (with_reducible exact ih3 _ _ _ _ _ _ _ _ _ _ _ _ _)
      | (with_reducible exact LeO.refl _)
      | (with_reducible exact LeO.none _)
      | (with_reducible refine LeO.ite ?_ ?_)
      | (with_reducible refine LeO.bind ?_ (fun _ => ?_))
      | exact ih0 _ _ _ _ _ _
      | exact ih1 _ _ _ _ _ _
      | exact ih2 _ _ _ _ _ _ _ _ _ _ _ _
      | exact ih3 _ _ _ _ _ _ _ _ _ _ _ _ _
      | exact LeO.none _
      | refine LeO.ite ?_ ?_
      | refine LeO.bind ?_ (fun _ => ?_)
    · intro y0 y1 y2 y3 y4 y5
      unfold insolvencylaw25_statements.j1
      repeat' first
      | (with_reducible exact ih0 _ _ _ _ _ _)
      | (with_reducible exact ih1 _ _ _ _ _ _)
      | (with_reducible exact ih2 _ _ _ _ _ _ _ _ _ _ _ _)
      | (with_reducible exact ih3 _ _ _ _ _ _ _ _ _ _ _ _ _)
      | (with_reducible exact LeO.refl _)
      | (with_reducible exact LeO.none _)
      | (with_reducible refine LeO.ite ?_ ?_)
      | (with_reducible refine LeO.bind ?_ (fun _ => ?_))
      | exact ih0 _ _ _ _ _ _
      | exact ih1 _ _ _ _ _ _
      | exact ih2 _ _ _ _ _ _ _ _ _ _ _ _
      | exact ih3 _ _ _ _ _ _ _ _ _ _ _ _ _
      | exact LeO.none _
      | refine LeO.ite ?_ ?_
      | refine LeO.bind ?_ (fun _ => ?_)
    · intro y0 y1 y2 y3 y4 y5 y6 y7 y8 y9 y10 y11
      unfold insolvencylaw25_statements.j2
      repeat' first
      | (with_reducible exact ih0 _ _ _ _ _ _)
      | (with_reducible exact ih1 _ _ _ _ _ _)
      | (with_reducible exact ih2 _ _ _ _ _ _ _ _ _ _ _ _)
      | (with_reducible exact ih3 _ _ _ _ _ _ _ _ _ _ _ _ _)
      | (with_reducible exact LeO.refl _)
      | (with_reducible exact LeO.none _)
      | (with_reducible refine LeO.ite ?_ ?_)
      | (with_reducible refine LeO.bind ?_ (fun _ => ?_))
      | exact ih0 _ _ _ _ _ _
      | exact ih1 _ _ _ _ _ _
      | exact ih2 _ _ _ _ _ _ _ _ _ _ _ _
      | exact ih3 _ _ _ _ _ _ _ _ _ _ _ _ _
      | exact LeO.none _
      | refine LeO.ite ?_ ?_
      | refine LeO.bind ?_ (fun _ => ?_)
    · intro y0 y1 y2 y3 y4 y5 y6 y7 y8 y9 y10 y11 y12
      unfold insolvencylaw25_statements.j3
      repeat' first
      | (with_reducible exact ih0 _ _ _ _ _ _)
      | (with_reducible exact ih1 _ _ _ _ _ _)
      | (with_reducible exact ih2 _ _ _ _ _ _ _ _ _ _ _ _)
      | (with_reducible exact ih3 _ _ _ _ _ _ _ _ _ _ _ _ _)
      | (with_reducible exact LeO.refl _)
      | (with_reducible exact LeO.none _)
      | (with_reducible refine LeO.ite ?_ ?_)
      | (with_reducible refine LeO.bind ?_ (fun _ => ?_))
      | exact ih0 _ _ _ _ _ _
      | exact ih1 _ _ _ _ _ _
      | exact ih2 _ _ _ _ _ _ _ _ _ _ _ _
      | exact ih3 _ _ _ _ _ _ _ _ _ _ _ _ _
      | exact LeO.none _
      | refine LeO.ite ?_ ?_
      | refine LeO.bind ?_ (fun _ => ?_)
theorem insolvencylaw25_statements.mono : ∀ a0 a1 a2 k, LeO (insolvencylaw25_statements.f k a0 a1 a2) (insolvencylaw25_statements.f (k + 1) a0 a1 a2) := by
  intro a0 a1 a2 k
  obtain ⟨ih0, ih1, ih2, ih3⟩ := insolvencylaw25_statements.mono_l k
  unfold insolvencylaw25_statements.f
  repeat' first
      | (with_reducible exact ih0 _ _ _ _ _ _)
      | (with_reducible exact ih1 _ _ _ _ _ _)
      | (with_reducible exact ih2 _ _ _ _ _ _ _ _ _ _ _ _)
      | (with_reducible exact ih3 _ _ _ _ _ _ _ _ _ _ _ _ _)
      | (with_reducible exact LeO.refl _)
      | (with_reducible exact LeO.none _)
      | (with_reducible refine LeO.ite ?_ ?_)
      | (with_reducible refine LeO.bind ?_ (fun _ => ?_))
      | exact ih0 _ _ _ _ _ _
      | exact ih1 _ _ _ _ _ _
      | exact ih2 _ _ _ _ _ _ _ _ _ _ _ _
      | exact ih3 _ _ _ _ _ _ _ _ _ _ _ _ _
      | exact LeO.none _
      | refine LeO.ite ?_ ?_
      | refine LeO.bind ?_ (fun _ => ?_)
def insolvencylaw25_statements.T12 : Bool × List (List Nat × List Nat) := (true, [([], []), ([0], [0]), ([], []), ([], []), ([2, 3], [2, 3]), ([4], [4]), ([5], [5]), ([6], [6]), ([1, 7], [1, 7]), ([0, 1, 2, 3, 4, 5, 6, 7, 8], []), ([9, 8, 0, 1, 2, 3, 4, 5, 6, 7, 8], [8, 9])])
def insolvencylaw25_statements.B12 : List Nat := [0, 1, 0, 0, 12, 28, 60, 124, 255, 511, 1023]
theorem insolvencylaw25_statements.tab12 : rtab .any (opsOf Tryd.f28 12) = insolvencylaw25_statements.T12 := by kernel_rfl
theorem insolvencylaw25_statements.bits12 : waitsOk insolvencylaw25_statements.T12.2 insolvencylaw25_statements.B12 = true := by kernel_rfl
def insolvencylaw25_statements.T13 : Bool × List (List Nat × List Nat) := (true, [([], []), ([0], [0]), ([1], [1]), ([2], [2]), ([3], [3]), ([4, 3], [3, 4]), ([3], [3]), ([3], [3]), ([7, 3], [3, 7]), ([8, 3], [3, 8]), ([6, 9, 3], [3, 6, 9]), ([10, 3], [3, 10]), ([11, 3], [3, 11]), ([5, 12, 3], [3, 5, 12]), ([3, 13], [3, 13])])
def insolvencylaw25_statements.B13 : List Nat := [0, 1, 3, 7, 15, 31, 15, 15, 143, 399, 975, 1999, 4047, 8191, 16383]
theorem insolvencylaw25_statements.tab13 : rtab .any (opsOf Tryd.f28 13) = insolvencylaw25_statements.T13 := by kernel_rfl
theorem insolvencylaw25_statements.bits13 : waitsOk insolvencylaw25_statements.T13.2 insolvencylaw25_statements.B13 = true := by kernel_rfl
set_option maxHeartbeats 8000000 in
set_option maxRecDepth 100000 in
theorem insolvencylaw25_statements.calls (k : Nat) (A0 : Option Addr) (c0 : Nat) (l0 : List (S67)) (a1 : Int) (A2 : Option Addr) (c2 : Nat) (l2 : List Int) (r1 : List (S39)) (r2 : List (S39)) (w : World) (hr0 : Kd.C k67 w A0 l0.length l0) (hc0 : l0.length ≤ c0) (hr2 : Kd.C (Kd.int .u8) w A2 l2.length l2) (hc2 : l2.length ≤ c2) (h : insolvencylaw25_statements.f k l0 a1 l2 = some (r1, r2)) :
    Calls Tryd.prog 28 #[.slice A0 l0.length c0, .int .u16 a1, .slice A2 l2.length c2] w fun e w' => ∃ v0_ v1_ : Value, e = .returned (.tuple #[v0_, v1_]) ∧ Kd.R k39 39 w' w.heap.size (fun k_ => some k_ ≠ (v1_ : Value).ownBlock) v0_ r1 ∧ Kd.R k39 39 w' w.heap.size (fun k_ => some k_ ≠ (v0_ : Value).ownBlock) v1_ r2 ∧ Below w.heap.size w w' := by
  have hu39 := Tryd.underlying39
  have HR0 := Aside0.mk hr0
  have HC0 := Aside0.mk hc0
  clear hr0 hc0
  have HR2 := Aside0.mk hr2
  have HC2 := Aside0.mk hc2
  clear hr2 hc2
  have HB := Aside0.mk (Below.refl w.heap.size w)
  have H : ((insolvencylaw0_Rows.f l0 2 9).bind fun t310 => (insolvencylaw25_statements.l0 k a1 l2 t310 ([] : List (S39)) ([] : List (S39)) 0)) = some (r1, r2) := h
  clear h
  replace H := Option.bind_eq_some_iff.mp H
  obtain ⟨t310, A40, H⟩ := H
  replace H : (insolvencylaw25_statements.l0 k a1 l2 t310 ([] : List (S39)) ([] : List (S39)) 0) = some (r1, r2) := H
  have A4 := Aside0.mk A40
  clear A40
  have H' := Aside0.mk H
  clear H
  go_enter Tryd.func28, Tryd.ntmps28
  go_wp2_with (first | ((with_reducible refine gate_callee (f := 14) rfl ?_); refine goesL_ (some 14) rfl rfl Tryd.func14 (by kernel_rfl) rfl #[.slice A0 l0.length c0, .int .i64 2, .int .i64 9] rfl (by (try simp only [List.map_toArray, List.map_cons, List.map_nil]); first | done | rfl | (simp only [List.length_drop, List.length_take]; rfl)) ?_; (with_reducible refine (insolvencylaw0_Rows.calls _ _ l0 2 9 t310 _ ?side1 ?side2 A4.out).mono ?_); (case side1 => repeat (first | exact HR0.out | (with_reducible refine Kd.C_alloc ?_ _) | (with_reducible refine Kd.C_drewN ?_ _) | (with_reducible refine Kd.C_drew ?_))); (case side2 => exact HC0.out); rintro e w5 ⟨v311, rfl, ho0, hb⟩; refine ⟨_, rfl, ?_⟩; have n0_ := Aside0.mk (Kd.R_lower ho0 (below_size (by repeat (first | (with_reducible first | exact HB.out | apply below_alloc | apply pw_below_drewN | apply below_drew1) | exact HB.out)))); have n1_ := Aside0.mk (below_step (by repeat (first | (with_reducible first | exact HB.out | apply below_alloc | apply pw_below_drewN | apply below_drew1) | exact HB.out)) hb); clear HB; have HO312 := n0_; have HB := n1_; clear n0_ n1_; (try clear hb); (try clear hb2); (try clear hk); (try clear hi); (try clear ho0)))
  go_loopg [9, 10, 11] k (fun kq v9 v10 v11 w' => ∃ (x8_1 : List (S39)) (x9_1 : List (S39)) (x10_1 : List (S39)) (x11_1 : Int), v11 = .int .i64 x11_1 ∧ Aside0 (insolvencylaw25_statements.l0 kq a1 l2 x8_1 x9_1 x10_1 x11_1 = some (r1, r2)) ∧ Aside0 (kq ≤ k) ∧ Aside0 (Kd.R k39 39 w' w.heap.size (fun k_ => some k_ ≠ (v9 : Value).ownBlock ∧ some k_ ≠ (v10 : Value).ownBlock) v311 x8_1) ∧ Aside0 (Kd.R k39 39 w' w.heap.size (fun k_ => some k_ ≠ (v311 : Value).ownBlock ∧ some k_ ≠ (v10 : Value).ownBlock) v9 x9_1) ∧ Aside0 (Kd.R k39 39 w' w.heap.size (fun k_ => some k_ ≠ (v311 : Value).ownBlock ∧ some k_ ≠ (v9 : Value).ownBlock) v10 x10_1) ∧ Aside0 (Below w.heap.size w w'))
  case atStart => exact ⟨(t310), (([] : List (S39))), (([] : List (S39))), (0), (by first | rfl | (simp; done) | (simp [*]; done)), H', ⟨Nat.le_refl _⟩, ⟨by (with_reducible repeat (first | apply Kd.R_alloc | apply Kd.R_drewN | apply Kd.R_drew)); exact Kd.R_mono HO312.out (fun _ hk => ⟨(by simp [Value.ownBlock]), (by simp [Value.ownBlock])⟩)⟩, ⟨by first | exact Kd.R_nil _ _ _ _ _ | exact Kd.N_nil _ _ _ _ _ | exact Kd.V_nil _ _ _ _ _ | exact Kd.Q_nil _ _ _ _ _ | exact Kd.S_nil _ _ _ _ _⟩, ⟨by first | exact Kd.R_nil _ _ _ _ _ | exact Kd.N_nil _ _ _ _ _ | exact Kd.V_nil _ _ _ _ _ | exact Kd.Q_nil _ _ _ _ _ | exact Kd.S_nil _ _ _ _ _⟩, ⟨by repeat (first | (with_reducible first | exact HB.out | apply below_alloc | apply pw_below_drewN | apply below_drew1) | exact HB.out)⟩⟩
  case round =>
    clear H'
    try clear c1
    try clear c2
    try clear p2
    obtain ⟨x8_1, x9_1, x10_1, x11_1, rfl, HA, HK1, HO_8, HO_9, HO_10, HB⟩ := hrel
    cases gk with
    | zero => exact absurd HA.out (by simp [insolvencylaw25_statements.l0])
    | succ k1 =>
      have H := HA.out
      clear HA
      simp only [insolvencylaw25_statements.l0] at H
      by_cases c6 : x11_1 < (x8_1.length : Int)
      · rw [if_pos c6] at H
        have c6b0 : decide (x11_1 < (x8_1.length : Int)) = true := decide_eq_true c6
        clear c6
        by_cases c7 : 0 ≤ x11_1
        · rw [if_pos c7] at H
          have c7b0 : decide (0 ≤ x11_1) = true := decide_eq_true c7
          clear c7
          obtain ⟨y314, hy314⟩ : ∃ y_ : List (S39), y_ = (x8_1.set (x11_1 : Int).toNat (⟨(rd_T39 x8_1 x11_1).f0, (rd_T39 x8_1 x11_1).f1, (rd_T39 x8_1 x11_1).f2, (rd_T39 x8_1 x11_1).f3, Int.tmod ((rd_T39 x8_1 x11_1).f4) 3, (rd_T39 x8_1 x11_1).f5⟩ : S39)) := ⟨_, rfl⟩
          replace H : ((some (y314.set (x11_1 : Int).toNat (⟨(rd_T39 y314 x11_1).f0, (rd_T39 y314 x11_1).f1, (rd_T39 y314 x11_1).f2, (rd_T39 y314 x11_1).f3, (rd_T39 y314 x11_1).f4, 0⟩ : S39) : List (S39))).bind fun y315 => (if 0 ≤ (IntKind.u64.wrap (Int.tmod x11_1 16)) then (if (Go.bits .and .u16 (shr .u16 a1 (IntKind.u64.wrap (Int.tmod x11_1 16))) 1) = 0 then (if x9_1.length < 2932031007402 then (insolvencylaw25_statements.j1 k1 a1 l2 y315 (x9_1 ++ [(⟨(rd_T39 y315 x11_1).f0, (rd_T39 y315 x11_1).f1, (rd_T39 y315 x11_1).f2, (rd_T39 y315 x11_1).f3, (rd_T39 y315 x11_1).f4, (rd_T39 y315 x11_1).f5⟩ : S39)]) x10_1 x11_1) else (none)) else (insolvencylaw25_statements.j1 k1 a1 l2 y315 x9_1 x10_1 x11_1)) else (none))) = some (r1, r2) := by first | (rw [hy314]; with_reducible exact H) | (have H2_ := (Option.bind_some _ _).symm.trans H; rw [hy314]; with_reducible exact H2_) | (have H2_ := (Option.bind_some _ _).symm.trans H; with_reducible exact H2_) | with_reducible exact H | (rw [hy314]; exact H) | exact H
          have Ny314 := Aside0.mk hy314
          clear hy314
          obtain ⟨y315, hy315⟩ : ∃ y_ : List (S39), y_ = (y314.set (x11_1 : Int).toNat (⟨(rd_T39 y314 x11_1).f0, (rd_T39 y314 x11_1).f1, (rd_T39 y314 x11_1).f2, (rd_T39 y314 x11_1).f3, (rd_T39 y314 x11_1).f4, 0⟩ : S39)) := ⟨_, rfl⟩
          replace H : (if 0 ≤ (IntKind.u64.wrap (Int.tmod x11_1 16)) then (if (Go.bits .and .u16 (shr .u16 a1 (IntKind.u64.wrap (Int.tmod x11_1 16))) 1) = 0 then (if x9_1.length < 2932031007402 then (insolvencylaw25_statements.j1 k1 a1 l2 y315 (x9_1 ++ [(⟨(rd_T39 y315 x11_1).f0, (rd_T39 y315 x11_1).f1, (rd_T39 y315 x11_1).f2, (rd_T39 y315 x11_1).f3, (rd_T39 y315 x11_1).f4, (rd_T39 y315 x11_1).f5⟩ : S39)]) x10_1 x11_1) else (none)) else (insolvencylaw25_statements.j1 k1 a1 l2 y315 x9_1 x10_1 x11_1)) else (none)) = some (r1, r2) := by first | (rw [hy315]; with_reducible exact H) | (have H2_ := (Option.bind_some _ _).symm.trans H; rw [hy315]; with_reducible exact H2_) | (have H2_ := (Option.bind_some _ _).symm.trans H; with_reducible exact H2_) | with_reducible exact H | (rw [hy315]; exact H) | exact H
          have Ny315 := Aside0.mk hy315
          clear hy315
          obtain ⟨ji10, hji10⟩ : ∃ j_ : Int, (IntKind.u64.wrap (Int.tmod x11_1 16)) = j_ := ⟨_, rfl⟩
          replace H : (if 0 ≤ (ji10) then (if (Go.bits .and .u16 (shr .u16 a1 (ji10)) 1) = 0 then (if x9_1.length < 2932031007402 then (insolvencylaw25_statements.j1 k1 a1 l2 y315 (x9_1 ++ [(⟨(rd_T39 y315 x11_1).f0, (rd_T39 y315 x11_1).f1, (rd_T39 y315 x11_1).f2, (rd_T39 y315 x11_1).f3, (rd_T39 y315 x11_1).f4, (rd_T39 y315 x11_1).f5⟩ : S39)]) x10_1 x11_1) else (none)) else (insolvencylaw25_statements.j1 k1 a1 l2 y315 x9_1 x10_1 x11_1)) else (none)) = some (r1, r2) := by first | (rw [hji10] at H; exact H) | (simp only [hji10] at H ⊢; exact H)
          by_cases c11 : 0 ≤ (ji10)
          · rw [if_pos c11] at H
            have c11b0 := eq_true c11
            have c11b1 : decide (0 ≤ (ji10)) = true := decide_eq_true c11
            clear c11
            obtain ⟨ji12, hji12⟩ : ∃ j_ : Int, (shr .u16 a1 (ji10)) = j_ := ⟨_, rfl⟩
            replace H : (if (Go.bits .and .u16 (ji12) 1) = 0 then (if x9_1.length < 2932031007402 then (insolvencylaw25_statements.j1 k1 a1 l2 y315 (x9_1 ++ [(⟨(rd_T39 y315 x11_1).f0, (rd_T39 y315 x11_1).f1, (rd_T39 y315 x11_1).f2, (rd_T39 y315 x11_1).f3, (rd_T39 y315 x11_1).f4, (rd_T39 y315 x11_1).f5⟩ : S39)]) x10_1 x11_1) else (none)) else (insolvencylaw25_statements.j1 k1 a1 l2 y315 x9_1 x10_1 x11_1)) = some (r1, r2) := by first | (rw [hji12] at H; exact H) | (simp only [hji12] at H ⊢; exact H)
            have hji12_ : (a1 / 2 ^ min (ji10).toNat 16) = ji12 := hji12
            have hji12z : (ji10) ≤ 16 → (a1 / 2 ^ (ji10).toNat) = ji12 := shr_small hji12
            have HC13 := Aside0.mk H
            clear H
            obtain ⟨Ao14, co14, eo14⟩ := Kd.R_slice HO_8.out
            subst eo14
            have p313 : 0 ≤ (x11_1 : Int) := of_decide_eq_true (by first | (with_reducible assumption) | assumption)
            have q313 : x11_1 < (x8_1.length : Int) := of_decide_eq_true (by first | (with_reducible assumption) | assumption)
            obtain ⟨ad313, e313, hx313_0, hx313_1, hx313_2, hx313_3, hx313_4, hx313_5⟩ := at_T39 (Kd.R_reads' HO_8.out).2.2 x11_1 p313 q313
            cases e313
            replace p313 := eq_true p313
            replace q313 := eq_true q313
            have p8 : 0 ≤ (x11_1 : Int) := of_decide_eq_true (by first | (with_reducible assumption) | assumption)
            have q8 : (x11_1 : Int) < ((x8_1.length : Int) : Int) := of_decide_eq_true (by first | (with_reducible assumption) | assumption)
            obtain ⟨go8, co8, eo8, gb8, gl8, cl8, HG8⟩ := Kd.R_form HO_8.out (by omega)
            (first | cases eo8 | (injection eo8 with ea_ en_ ec_; (first | subst ea_ | (injection ea_ with ea_; subst ea_)); subst ec_; clear en_))
            have GB8 := Aside0.mk gb8
            have GG8 := Aside0.mk HG8
            clear gb8 gl8 HG8
            (first | simp only [add_plain] at hx313_0 | skip)
            (first | simp only [add_plain] at hx313_1 | skip)
            (first | simp only [add_plain] at hx313_2 | skip)
            (first | simp only [add_plain] at hx313_3 | skip)
            (first | simp only [add_plain] at hx313_4 | skip)
            (first | simp only [add_plain] at hx313_5 | skip)
            obtain ⟨ce8, hcl8, hM8, hcc8, hfr8⟩ := Kd.R_elem HO_8.out z39 (x11_1 : Int) p8 q8
            obtain rfl := k39_openM hM8
            have hx8_0 : wr.cell? ⟨go8, (x11_1 : Int).toNat * 6, none⟩ = some (.int .i64 ((rd_T39 x8_1 x11_1).f0)) := hcc8 0 _ rfl
            have hx8_1 : wr.cell? ⟨go8, (x11_1 : Int).toNat * 6 + 1, none⟩ = some (.int .i64 ((rd_T39 x8_1 x11_1).f1)) := hcc8 1 _ rfl
            have hx8_2 : wr.cell? ⟨go8, (x11_1 : Int).toNat * 6 + 2, none⟩ = some (.int .i64 ((rd_T39 x8_1 x11_1).f2)) := hcc8 2 _ rfl
            have hx8_3 : wr.cell? ⟨go8, (x11_1 : Int).toNat * 6 + 3, none⟩ = some (.int .i64 ((rd_T39 x8_1 x11_1).f3)) := hcc8 3 _ rfl
            have hx8_4 : wr.cell? ⟨go8, (x11_1 : Int).toNat * 6 + 4, none⟩ = some (.int .i64 ((rd_T39 x8_1 x11_1).f4)) := hcc8 4 _ rfl
            have hx8_5 : wr.cell? ⟨go8, (x11_1 : Int).toNat * 6 + 5, none⟩ = some (.int .i64 ((rd_T39 x8_1 x11_1).f5)) := hcc8 5 _ rfl
            have hf8_0 : wr.frozen? ⟨go8, (x11_1 : Int).toNat * 6, none⟩ = false := hfr8 0
            have hf8_1 : wr.frozen? ⟨go8, (x11_1 : Int).toNat * 6 + 1, none⟩ = false := hfr8 1
            have hf8_2 : wr.frozen? ⟨go8, (x11_1 : Int).toNat * 6 + 2, none⟩ = false := hfr8 2
            have hf8_3 : wr.frozen? ⟨go8, (x11_1 : Int).toNat * 6 + 3, none⟩ = false := hfr8 3
            have hf8_4 : wr.frozen? ⟨go8, (x11_1 : Int).toNat * 6 + 4, none⟩ = false := hfr8 4
            have hf8_5 : wr.frozen? ⟨go8, (x11_1 : Int).toNat * 6 + 5, none⟩ = false := hfr8 5
            clear hcl8 hcc8 hfr8 hM8
            replace p8 := eq_true p8
            replace q8 := eq_true q8
            have HX15 := Aside0.mk (show Kd.R k39 39 wr w.heap.size (fun k_ => some k_ ≠ (u9 : Value).ownBlock ∧ some k_ ≠ (u10 : Value).ownBlock) (.slice (some ⟨go8, 0, none⟩) x8_1.length co14) x8_1 from (by (with_reducible repeat (first | apply Kd.R_alloc | apply Kd.R_drewN | apply Kd.R_drew)); exact HO_8.out))
            obtain ⟨ce15, hcl15, hM15, hcc15, hfr15⟩ := Kd.R_elem HX15.out z39 (x11_1 : Int) (of_decide_eq_true (by first | (with_reducible assumption) | assumption)) (by have h_ : (x11_1 : Int) < ((x8_1.length : Int) : Int) := of_decide_eq_true (by first | (with_reducible assumption) | assumption); first | exact h_ | (have e_ := (Kd.R_reads' HO_8.out).1; omega) | simpa using h_)
            obtain rfl := k39_openM hM15
            have HP15 := Kd.R_seg HX15.out (x11_1 : Int) (of_decide_eq_true (by first | (with_reducible assumption) | assumption)) (by have h_ : (x11_1 : Int) < ((x8_1.length : Int) : Int) := of_decide_eq_true (by first | (with_reducible assumption) | assumption); first | exact h_ | (have e_ := (Kd.R_reads' HO_8.out).1; omega) | simpa using h_) (seg := [.int .i64 (Int.tmod ((rd_T39 x8_1 x11_1).f4) 3)]) (j := 4) hcl15 hcc15 (show 5 ≤ 6 from by decide) (x' := (⟨(rd_T39 x8_1 x11_1).f0, (rd_T39 x8_1 x11_1).f1, (rd_T39 x8_1 x11_1).f2, (rd_T39 x8_1 x11_1).f3, Int.tmod ((rd_T39 x8_1 x11_1).f4) 3, (rd_T39 x8_1 x11_1).f5⟩ : S39)) (k39_mkM _ _ _ (⟨(rd_T39 x8_1 x11_1).f0, (rd_T39 x8_1 x11_1).f1, (rd_T39 x8_1 x11_1).f2, (rd_T39 x8_1 x11_1).f3, Int.tmod ((rd_T39 x8_1 x11_1).f4) 3, (rd_T39 x8_1 x11_1).f5⟩ : S39) ) (fun _ hk => hk)
            have hx15_4 := hcc15 4 _ rfl
            (try simp only [show (k39).sz = 6 from rfl, Nat.mul_one, Nat.add_zero] at hx15_4)
            have hf15_4 := hfr15 4
            (try simp only [show (k39).sz = 6 from rfl, Nat.mul_one, Nat.add_zero] at hf15_4)
            clear hcl15 hcc15 hfr15 hM15
            go_upto_if 41 with (first | ((with_reducible refine gate_store (t := 2) (p := 30) rfl ?_); refine store_event (t := 2) (p := 30) (v := ?vo_w16) (w1 := (wr.setCell ⟨go8, (x11_1 : Int).toNat * 6 + 4, none⟩ (.int .i64 (Int.tmod ((rd_T39 x8_1 x11_1).f4) 3)))) ?hg ?ho ?hn ?hr ?_; (case ho => rfl); (case hg => rfl); (case hn => rfl); (case hr => first | (go_simp; done) | (go_simp; rfl)); intro w16 hw; have hg : wr.grownBy w16 (some go8) := (by rw [hw]; exact HP15.2); have hp_ : Kd.R k39 39 w16 w.heap.size (fun k_ => some k_ ≠ (u9 : Value).ownBlock ∧ some k_ ≠ (u10 : Value).ownBlock) (.slice (some ⟨go8, 0, none⟩) x8_1.length co14) y314 := (by rw [hw, Ny314.out]; exact HP15.1); clear HP15; have n0_ := Aside0.mk (hp_); have n1_ := Aside0.mk (Kd.R_after (v := (.slice (some ⟨go8, 0, none⟩) x8_1.length co14)) (v1 := (.slice (some ⟨go8, 0, none⟩) x8_1.length co14)) (ok := (fun k_ => some k_ ≠ (u10 : Value).ownBlock)) (by (with_reducible repeat (first | apply Kd.R_alloc | apply Kd.R_drewN | apply Kd.R_drew)); exact Kd.R_mono HO_9.out (fun _ hk => ⟨hk.2, hk.1⟩)) hg (.inl rfl)); have n2_ := Aside0.mk (Kd.R_after (v := (.slice (some ⟨go8, 0, none⟩) x8_1.length co14)) (v1 := (.slice (some ⟨go8, 0, none⟩) x8_1.length co14)) (ok := (fun k_ => some k_ ≠ (u9 : Value).ownBlock)) (by (with_reducible repeat (first | apply Kd.R_alloc | apply Kd.R_drewN | apply Kd.R_drew)); exact Kd.R_mono HO_10.out (fun _ hk => ⟨hk.2, hk.1⟩)) hg (.inl rfl)); have n3_ := Aside0.mk ((by rw [hw]; exact below_set (HB.out) GB8.out : Below w.heap.size w w16)); clear HO_8; clear HO_9; clear HO_10; clear HB; have HO_8 := n0_; have HO_9 := n1_; have HO_10 := n2_; have HB := n3_; clear n0_ n1_ n2_ n3_; clear hg hw hp_; have p9 : 0 ≤ (x11_1 : Int) := of_decide_eq_true (by first | (with_reducible assumption) | assumption); have q9 : (x11_1 : Int) < ((x8_1.length : Int) : Int) := of_decide_eq_true (by first | (with_reducible assumption) | assumption); obtain ⟨ce9, hcl9, hM9, hcc9, hfr9⟩ := Kd.R_elem HO_8.out z39 (x11_1 : Int) p9 q9; obtain rfl := k39_openM hM9; have hx9_0 : w16.cell? ⟨go8, (x11_1 : Int).toNat * 6, none⟩ = some (.int .i64 ((rd_T39 y314 x11_1).f0)) := hcc9 0 _ rfl; have hx9_1 : w16.cell? ⟨go8, (x11_1 : Int).toNat * 6 + 1, none⟩ = some (.int .i64 ((rd_T39 y314 x11_1).f1)) := hcc9 1 _ rfl; have hx9_2 : w16.cell? ⟨go8, (x11_1 : Int).toNat * 6 + 2, none⟩ = some (.int .i64 ((rd_T39 y314 x11_1).f2)) := hcc9 2 _ rfl; have hx9_3 : w16.cell? ⟨go8, (x11_1 : Int).toNat * 6 + 3, none⟩ = some (.int .i64 ((rd_T39 y314 x11_1).f3)) := hcc9 3 _ rfl; have hx9_4 : w16.cell? ⟨go8, (x11_1 : Int).toNat * 6 + 4, none⟩ = some (.int .i64 ((rd_T39 y314 x11_1).f4)) := hcc9 4 _ rfl; have hx9_5 : w16.cell? ⟨go8, (x11_1 : Int).toNat * 6 + 5, none⟩ = some (.int .i64 ((rd_T39 y314 x11_1).f5)) := hcc9 5 _ rfl; have hf9_0 : w16.frozen? ⟨go8, (x11_1 : Int).toNat * 6, none⟩ = false := hfr9 0; have hf9_1 : w16.frozen? ⟨go8, (x11_1 : Int).toNat * 6 + 1, none⟩ = false := hfr9 1; have hf9_2 : w16.frozen? ⟨go8, (x11_1 : Int).toNat * 6 + 2, none⟩ = false := hfr9 2; have hf9_3 : w16.frozen? ⟨go8, (x11_1 : Int).toNat * 6 + 3, none⟩ = false := hfr9 3; have hf9_4 : w16.frozen? ⟨go8, (x11_1 : Int).toNat * 6 + 4, none⟩ = false := hfr9 4; have hf9_5 : w16.frozen? ⟨go8, (x11_1 : Int).toNat * 6 + 5, none⟩ = false := hfr9 5; clear hcl9 hcc9 hfr9 hM9; replace p9 := eq_true p9; replace q9 := eq_true q9; have HX17 := Aside0.mk (show Kd.R k39 39 w16 w.heap.size (fun k_ => some k_ ≠ (u9 : Value).ownBlock ∧ some k_ ≠ (u10 : Value).ownBlock) (.slice (some ⟨go8, 0, none⟩) x8_1.length co14) y314 from (by (with_reducible repeat (first | apply Kd.R_alloc | apply Kd.R_drewN | apply Kd.R_drew)); exact HO_8.out)); obtain ⟨ce17, hcl17, hM17, hcc17, hfr17⟩ := Kd.R_elem HX17.out z39 (x11_1 : Int) (of_decide_eq_true (by first | (with_reducible assumption) | assumption)) (by have h_ : (x11_1 : Int) < ((x8_1.length : Int) : Int) := of_decide_eq_true (by first | (with_reducible assumption) | assumption); first | exact h_ | (have e_ := (Kd.R_reads' HO_8.out).1; omega) | simpa using h_); obtain rfl := k39_openM hM17; have HP17 := Kd.R_seg HX17.out (x11_1 : Int) (of_decide_eq_true (by first | (with_reducible assumption) | assumption)) (by have h_ : (x11_1 : Int) < ((x8_1.length : Int) : Int) := of_decide_eq_true (by first | (with_reducible assumption) | assumption); first | exact h_ | (have e_ := (Kd.R_reads' HO_8.out).1; omega) | simpa using h_) (seg := [.int .i64 0]) (j := 5) hcl17 hcc17 (show 6 ≤ 6 from by decide) (x' := (⟨(rd_T39 y314 x11_1).f0, (rd_T39 y314 x11_1).f1, (rd_T39 y314 x11_1).f2, (rd_T39 y314 x11_1).f3, (rd_T39 y314 x11_1).f4, 0⟩ : S39)) (k39_mkM _ _ _ (⟨(rd_T39 y314 x11_1).f0, (rd_T39 y314 x11_1).f1, (rd_T39 y314 x11_1).f2, (rd_T39 y314 x11_1).f3, (rd_T39 y314 x11_1).f4, 0⟩ : S39) ) (fun _ hk => hk); have hx17_5 := hcc17 5 _ rfl; (try simp only [show (k39).sz = 6 from rfl, Nat.mul_one, Nat.add_zero] at hx17_5); have hf17_5 := hfr17 5; (try simp only [show (k39).sz = 6 from rfl, Nat.mul_one, Nat.add_zero] at hf17_5); clear hcl17 hcc17 hfr17 hM17) | ((with_reducible refine gate_store (t := 2) (p := 34) rfl ?_); refine store_event (t := 2) (p := 34) (v := ?vo_w18) (w1 := (w16.setCell ⟨go8, (x11_1 : Int).toNat * 6 + 5, none⟩ (.int .i64 0))) ?hg ?ho ?hn ?hr ?_; (case ho => rfl); (case hg => rfl); (case hn => rfl); (case hr => first | (go_simp; done) | (go_simp; rfl)); intro w18 hw; have hg : w16.grownBy w18 (some go8) := (by rw [hw]; exact HP17.2); have hp_ : Kd.R k39 39 w18 w.heap.size (fun k_ => some k_ ≠ (u9 : Value).ownBlock ∧ some k_ ≠ (u10 : Value).ownBlock) (.slice (some ⟨go8, 0, none⟩) x8_1.length co14) y315 := (by rw [hw, Ny315.out]; exact HP17.1); clear HP17; have n0_ := Aside0.mk (hp_); have n1_ := Aside0.mk (Kd.R_after (v := (.slice (some ⟨go8, 0, none⟩) x8_1.length co14)) (v1 := (.slice (some ⟨go8, 0, none⟩) x8_1.length co14)) (ok := (fun k_ => some k_ ≠ (u10 : Value).ownBlock)) (by (with_reducible repeat (first | apply Kd.R_alloc | apply Kd.R_drewN | apply Kd.R_drew)); exact HO_9.out) hg (.inl rfl)); have n2_ := Aside0.mk (Kd.R_after (v := (.slice (some ⟨go8, 0, none⟩) x8_1.length co14)) (v1 := (.slice (some ⟨go8, 0, none⟩) x8_1.length co14)) (ok := (fun k_ => some k_ ≠ (u9 : Value).ownBlock)) (by (with_reducible repeat (first | apply Kd.R_alloc | apply Kd.R_drewN | apply Kd.R_drew)); exact HO_10.out) hg (.inl rfl)); have n3_ := Aside0.mk ((by rw [hw]; exact below_set (HB.out) GB8.out : Below w.heap.size w w18)); clear HO_8; clear HO_9; clear HO_10; clear HB; have HO_8 := n0_; have HO_9 := n1_; have HO_10 := n2_; have HB := n3_; clear n0_ n1_ n2_ n3_; clear hg hw hp_))
            (try simp only [Act.put, List.setIfInBounds_toArray, List.set_cons_zero, List.set_cons_succ])
            go_cut [9] (fun v9 wc => ∃ (kq : Nat) (x9_12 : List (S39)), Aside0 (insolvencylaw25_statements.j1 kq a1 l2 y315 x9_12 x10_1 x11_1 = some (r1, r2)) ∧ Aside0 (kq ≤ k1) ∧ Aside0 (Kd.R k39 39 wc w.heap.size (fun k_ => some k_ ≠ (v9 : Value).ownBlock ∧ some k_ ≠ (u10 : Value).ownBlock) (.slice (some ⟨go8, 0, none⟩) x8_1.length co14) y315) ∧ Aside0 (Kd.R k39 39 wc w.heap.size (fun k_ => some k_ ≠ ((.slice (some ⟨go8, 0, none⟩) x8_1.length co14) : Value).ownBlock ∧ some k_ ≠ (u10 : Value).ownBlock) v9 x9_12) ∧ Aside0 (Kd.R k39 39 wc w.heap.size (fun k_ => some k_ ≠ ((.slice (some ⟨go8, 0, none⟩) x8_1.length co14) : Value).ownBlock ∧ some k_ ≠ (v9 : Value).ownBlock) u10 x10_1) ∧ Aside0 (Below w.heap.size w wc))
            case first =>
              have H := HC13.out
              clear HC13
              by_cases c19 : (Go.bits .and .u16 (ji12) 1) = 0
              · rw [if_pos c19] at H
                have c19b0 : ((Go.bits .and .u16 (ji12) 1) == 0) = true := beq_iff_eq.mpr c19
                have c19b1 : ((Go.bits .and .u16 (ji12) 1) != 0) = false := bne_eq_false_iff_eq.mpr c19
                clear c19
                (first | rw [c19b0] | (simp only [i64_w, i32_w]; rw [c19b0]) | skip)
                by_cases c20 : x9_1.length < 2932031007402
                · rw [if_pos c20] at H
                  have LMc20 := Aside0.mk c20
                  clear c20
                  obtain ⟨y317, hy317⟩ : ∃ y_ : List (S39), y_ = (x9_1 ++ [(⟨(rd_T39 y315 x11_1).f0, (rd_T39 y315 x11_1).f1, (rd_T39 y315 x11_1).f2, (rd_T39 y315 x11_1).f3, (rd_T39 y315 x11_1).f4, (rd_T39 y315 x11_1).f5⟩ : S39)]) := ⟨_, rfl⟩
                  replace H : (insolvencylaw25_statements.j1 k1 a1 l2 y315 y317 x10_1 x11_1) = some (r1, r2) := by first | (rw [hy317]; with_reducible exact H) | (have H2_ := (Option.bind_some _ _).symm.trans H; rw [hy317]; with_reducible exact H2_) | (have H2_ := (Option.bind_some _ _).symm.trans H; with_reducible exact H2_) | with_reducible exact H | (rw [hy317]; exact H) | exact H
                  have Ny317 := Aside0.mk hy317
                  clear hy317
                  have H' := Aside0.mk H
                  clear H
                  have p316 : 0 ≤ (x11_1 : Int) := of_decide_eq_true (by first | (with_reducible assumption) | assumption)
                  have q316 : x11_1 < (y315.length : Int) := (by have h_ : (x11_1 : Int) < ((x8_1.length : Int) : Int) := of_decide_eq_true (by first | (with_reducible assumption) | assumption); first | (have e_ := (Kd.R_reads' HO_8.out).1; omega) | simpa only [Ny314.out, Ny315.out, List.length_set] using h_)
                  have ql316 : ((x11_1 : Int) < ((x8_1.length : Int) : Int)) = True := eq_true (of_decide_eq_true (by first | (with_reducible assumption) | assumption))
                  obtain ⟨ad316, e316, hx316_0, hx316_1, hx316_2, hx316_3, hx316_4, hx316_5⟩ := at_T39 (Kd.R_reads' HO_8.out).2.2 x11_1 p316 q316
                  obtain rfl : (⟨go8, 0, none⟩ : Addr) = ad316 := (by injection e316)
                  (first | simp only [add_plain] at hx316_0 | simp only [add_at] at hx316_0 | simp only [Addr.add, Nat.zero_add] at hx316_0 | skip)
                  (first | simp only [add_plain] at hx316_1 | simp only [add_at] at hx316_1 | simp only [Addr.add, Nat.zero_add] at hx316_1 | skip)
                  (first | simp only [add_plain] at hx316_2 | simp only [add_at] at hx316_2 | simp only [Addr.add, Nat.zero_add] at hx316_2 | skip)
                  (first | simp only [add_plain] at hx316_3 | simp only [add_at] at hx316_3 | simp only [Addr.add, Nat.zero_add] at hx316_3 | skip)
                  (first | simp only [add_plain] at hx316_4 | simp only [add_at] at hx316_4 | simp only [Addr.add, Nat.zero_add] at hx316_4 | skip)
                  (first | simp only [add_plain] at hx316_5 | simp only [add_at] at hx316_5 | simp only [Addr.add, Nat.zero_add] at hx316_5 | skip)
                  replace p316 := eq_true p316
                  replace q316 := eq_true q316
                  go_wp2_with (first | ((with_reducible refine gate_builtin (b := .append) (xs := #[.tmp 42, .tmp 47]) rfl ?_); (try (refine gate_guard (by rfl) ?_; dsimp only)); at_builtin; refine Kd.R_append k39 (w0 := w) w.heap.size rfl (.tmp 42) (.tmp 47) 22 39 (.agg #[(.int .i64 0), (.int .i64 0), (.int .i64 0), (.int .i64 0), (.int .i64 0), (.int .i64 0)]) 48 rfl Tryd.underlying22 info39 rfl (by decide) (by omega) u9 x9_1 (⟨(rd_T39 y315 x11_1).f0, (rd_T39 y315 x11_1).f1, (rd_T39 y315 x11_1).f2, (rd_T39 y315 x11_1).f3, (rd_T39 y315 x11_1).f4, (rd_T39 y315 x11_1).f5⟩ : S39) [.int .i64 ((rd_T39 y315 x11_1).f0), .int .i64 ((rd_T39 y315 x11_1).f1), .int .i64 ((rd_T39 y315 x11_1).f2), .int .i64 ((rd_T39 y315 x11_1).f3), .int .i64 ((rd_T39 y315 x11_1).f4), .int .i64 ((rd_T39 y315 x11_1).f5)] (fun k_ => some k_ ≠ (.slice (some ⟨go8, 0, none⟩) x8_1.length co14 : Value).ownBlock ∧ some k_ ≠ (u10 : Value).ownBlock) (fun _ => False) rfl rfl ?aP (fun _ hk => hk.elim) ?aF ?aO ?aB ?aS ?aL ?_; (case aP => exact k39_mkM _ _ _ (⟨(rd_T39 y315 x11_1).f0, (rd_T39 y315 x11_1).f1, (rd_T39 y315 x11_1).f2, (rd_T39 y315 x11_1).f3, (rd_T39 y315 x11_1).f4, (rd_T39 y315 x11_1).f5⟩ : S39)); (case aB => exact (by repeat (first | (with_reducible first | exact HB.out | apply below_alloc | apply pw_below_drewN | apply below_drew1) | exact HB.out))); (case aF => exact (fun k_ hk => ⟨Kd.fresh' (Kd.R_lt (by (with_reducible repeat (first | apply Kd.R_alloc | apply Kd.R_drewN | apply Kd.R_drew)); exact HO_8.out)) k_ hk, Kd.fresh' (Kd.R_lt (by (with_reducible repeat (first | apply Kd.R_alloc | apply Kd.R_drewN | apply Kd.R_drew)); exact HO_10.out)) k_ hk⟩)); (case aO => exact (by (with_reducible repeat (first | apply Kd.R_alloc | apply Kd.R_drewN | apply Kd.R_drew)); exact Kd.R_mono HO_9.out (fun _ hk => ⟨hk.2, hk.1⟩))); (case aS => exact (below_size (by repeat (first | (with_reducible first | exact HB.out | apply below_alloc | apply pw_below_drewN | apply below_drew1) | exact HB.out)))); (case aL => have := LMc20.out; omega); intro v318 w21 ho hb hg hat; rw [← Ny317.out] at ho; have n0_ := Aside0.mk (Kd.R_after (ok := (fun k_ => some k_ ≠ (u10 : Value).ownBlock)) (by (with_reducible repeat (first | apply Kd.R_alloc | apply Kd.R_drewN | apply Kd.R_drew)); exact Kd.R_mono HO_8.out (fun _ hk => ⟨hk.2, hk.1⟩)) hg hat); have n1_ := Aside0.mk (Kd.R_after (ok := (fun k_ => some k_ ≠ (.slice (some ⟨go8, 0, none⟩) x8_1.length co14 : Value).ownBlock)) (by (with_reducible repeat (first | apply Kd.R_alloc | apply Kd.R_drewN | apply Kd.R_drew)); exact Kd.R_mono HO_10.out (fun _ hk => ⟨hk.2, hk.1⟩)) hg hat); have n2_ := Aside0.mk (hb); have n3_ := Aside0.mk (ho); clear HO_8; clear HO_10; clear HB; clear HO_9; have HO_8 := n0_; have HO_10 := n1_; have HB := n2_; have HO319 := n3_; clear n0_ n1_ n2_ n3_; clear ho hb hg hat))
                  go_meet
                  case rel => exact ⟨_, (y317), H', ⟨by have := HK1.out; first | omega | exact Nat.le_refl _⟩, ⟨by (with_reducible repeat (first | apply Kd.R_alloc | apply Kd.R_drewN | apply Kd.R_drew)); exact Kd.R_mono HO_8.out (fun _ hk => ⟨hk.2, hk.1⟩)⟩, ⟨by (with_reducible repeat (first | apply Kd.R_alloc | apply Kd.R_drewN | apply Kd.R_drew)); exact HO319.out⟩, ⟨by (with_reducible repeat (first | apply Kd.R_alloc | apply Kd.R_drewN | apply Kd.R_drew)); exact HO_10.out⟩, ⟨by repeat (first | (with_reducible first | exact HB.out | apply below_alloc | apply pw_below_drewN | apply below_drew1) | exact HB.out)⟩⟩
                · rw [if_neg c20] at H
                  exact absurd H (by simp)
              · rw [if_neg c19] at H
                have c19b0 : ((Go.bits .and .u16 (ji12) 1) == 0) = false := beq_eq_false_iff_ne.mpr c19
                have c19b1 : ((Go.bits .and .u16 (ji12) 1) != 0) = true := bne_iff_ne.mpr c19
                (first | rw [c19b0] | (simp only [i64_w, i32_w]; rw [c19b0]) | skip)
                have H' := Aside0.mk H
                clear H
                go_wp2
                go_meet
                case rel => exact ⟨_, (x9_1), H', ⟨by have := HK1.out; first | omega | exact Nat.le_refl _⟩, ⟨by (with_reducible repeat (first | apply Kd.R_alloc | apply Kd.R_drewN | apply Kd.R_drew)); exact HO_8.out⟩, ⟨by (with_reducible repeat (first | apply Kd.R_alloc | apply Kd.R_drewN | apply Kd.R_drew)); exact Kd.R_mono HO_9.out (fun _ hk => ⟨hk.2, hk.1⟩)⟩, ⟨by (with_reducible repeat (first | apply Kd.R_alloc | apply Kd.R_drewN | apply Kd.R_drew)); exact Kd.R_mono HO_10.out (fun _ hk => ⟨hk.2, hk.1⟩)⟩, ⟨by repeat (first | (with_reducible first | exact HB.out | apply below_alloc | apply pw_below_drewN | apply below_drew1) | exact HB.out)⟩⟩
            case rest =>
              clear HC13
              try clear c1
              try clear hx1
              try clear c2
              try clear p2
              try clear p3
              try clear q3
              try clear hx3
              try clear c6
              try clear c6b0
              try clear c7
              try clear c7b0
              try clear c8
              try clear p8
              try clear q8
              try clear hx8
              try clear hf8
              try clear c9
              try clear p9
              try clear q9
              try clear hx9
              try clear hf9
              try clear c11
              try clear c11b0
              try clear c11b1
              try clear c14
              try clear c15
              try clear hx15
              try clear hf15
              try clear c17
              try clear hx17
              try clear hf17
              try clear c19
              try clear c19b0
              try clear c19b1
              try clear c20
              try clear hx15_4
              try clear hx17_5
              try clear hx313_0
              try clear hx313_1
              try clear hx313_2
              try clear hx313_3
              try clear hx313_4
              try clear hx313_5
              try clear hx316_0
              try clear hx316_1
              try clear hx316_2
              try clear hx316_3
              try clear hx316_4
              try clear hx316_5
              try clear hx8_0
              try clear hx8_1
              try clear hx8_2
              try clear hx8_3
              try clear hx8_4
              try clear hx8_5
              try clear hx9_0
              try clear hx9_1
              try clear hx9_2
              try clear hx9_3
              try clear hx9_4
              try clear hx9_5
              try clear p2
              try clear p313
              try clear p316
              try clear p8
              try clear p9
              try clear q313
              try clear q316
              try clear q8
              try clear q9
              obtain ⟨kq, x9_12, HA, HJ12, HO_8, HO_9, HO_10, HB⟩ := hcut
              have hl8_12 := (Kd.R_reads' HO_8.out).1
              rw [hl8_12] at HO_8
              (try simp only [hl8_12])
              (try simp only [hl8_12] at HO_9)
              (try simp only [hl8_12] at HO_10)
              cases kq with
              | zero => exact absurd HA.out (by simp [insolvencylaw25_statements.j1])
              | succ kj12 =>
                have H := HA.out
                clear HA
                simp only [insolvencylaw25_statements.j1] at H
                by_cases c22 : 0 ≤ x11_1
                · rw [if_pos c22] at H
                  have c22b0 : decide (0 ≤ x11_1) = true := decide_eq_true c22
                  clear c22
                  by_cases c23 : x11_1 < (y315.length : Int)
                  · rw [if_pos c23] at H
                    have c23b0 : decide (x11_1 < (y315.length : Int)) = true := decide_eq_true c23
                    clear c23
                    have HC24 := Aside0.mk H
                    clear H
                    have p320 : 0 ≤ (x11_1 : Int) := of_decide_eq_true (by first | (with_reducible assumption) | assumption)
                    have q320 : x11_1 < (y315.length : Int) := of_decide_eq_true (by first | (with_reducible assumption) | assumption)
                    obtain ⟨ad320, e320, hx320_0, hx320_1, hx320_2, hx320_3, hx320_4, hx320_5⟩ := at_T39 (Kd.R_reads' HO_8.out).2.2 x11_1 p320 q320
                    obtain rfl : (⟨go8, 0, none⟩ : Addr) = ad320 := (by injection e320)
                    (first | simp only [add_plain] at hx320_0 | simp only [add_at] at hx320_0 | simp only [Addr.add, Nat.zero_add] at hx320_0 | skip)
                    (first | simp only [add_plain] at hx320_1 | simp only [add_at] at hx320_1 | simp only [Addr.add, Nat.zero_add] at hx320_1 | skip)
                    (first | simp only [add_plain] at hx320_2 | simp only [add_at] at hx320_2 | simp only [Addr.add, Nat.zero_add] at hx320_2 | skip)
                    (first | simp only [add_plain] at hx320_3 | simp only [add_at] at hx320_3 | simp only [Addr.add, Nat.zero_add] at hx320_3 | skip)
                    (first | simp only [add_plain] at hx320_4 | simp only [add_at] at hx320_4 | simp only [Addr.add, Nat.zero_add] at hx320_4 | skip)
                    (first | simp only [add_plain] at hx320_5 | simp only [add_at] at hx320_5 | simp only [Addr.add, Nat.zero_add] at hx320_5 | skip)
                    replace p320 := eq_true p320
                    replace q320 := eq_true q320
                    go_upto_if 56 with (first | ((with_reducible refine gate_dst (N := 12) rfl ?_); (try (refine gate_guard (by rfl) ?_; dsimp only)); refine box_event ?hg (N := 12) ?hd (cs := #[.int .i64 0, .int .i64 0, .int .i64 0, .int .i64 0, .int .i64 0, .int .i64 0]) (t := 39) ?hr ?_; (case hd => rfl); (case hg => rfl); (case hr => first | (go_simp; done) | (go_simp; rfl)); intro gb321 hg w25 hbox hb; have n0_ := Aside0.mk (Kd.R_below (Kd.R_elderB (by (with_reducible repeat (first | apply Kd.R_alloc | apply Kd.R_drewN | apply Kd.R_drew)); exact HO_8.out) gb321 (Nat.le_of_eq hg.symm)) hb); have n1_ := Aside0.mk (Kd.R_below (Kd.R_elderB (by (with_reducible repeat (first | apply Kd.R_alloc | apply Kd.R_drewN | apply Kd.R_drew)); exact HO_9.out) gb321 (Nat.le_of_eq hg.symm)) hb); have n2_ := Aside0.mk (Kd.R_below (Kd.R_elderB (by (with_reducible repeat (first | apply Kd.R_alloc | apply Kd.R_drewN | apply Kd.R_drew)); exact HO_10.out) gb321 (Nat.le_of_eq hg.symm)) hb); have n3_ := Aside0.mk (below_step (by repeat (first | (with_reducible first | exact HB.out | apply below_alloc | apply pw_below_drewN | apply below_drew1) | exact HB.out)) hb); have n4_ := Aside0.mk (hbox); have n5_ := Aside0.mk ((by rw [hg]; exact (below_size (by repeat (first | (with_reducible first | exact HB.out | apply below_alloc | apply pw_below_drewN | apply below_drew1) | exact HB.out))) : w.heap.size ≤ gb321)); have n6_ := Aside0.mk ((by rw [hg]; exact (below_size (by repeat (first | (with_reducible first | exact HB.out | apply below_alloc | apply pw_below_drewN | apply below_drew1) | exact HB.out))) : w.heap.size ≤ gb321)); clear HO_8; clear HO_9; clear HO_10; clear HB; have HO_8 := n0_; have HO_9 := n1_; have HO_10 := n2_; have HB := n3_; have BK321 := n4_; have GW321 := n5_; have GE321 := n6_; clear n0_ n1_ n2_ n3_ n4_ n5_ n6_; clear hb hbox hg; have hcz26_0 : w25.cell? ⟨gb321, 0, none⟩ = some (.int .i64 0) := (blk_cell BK321.out 0).trans rfl; have hcz26_1 : w25.cell? ⟨gb321, 1, none⟩ = some (.int .i64 0) := (blk_cell BK321.out 1).trans rfl; have hcz26_2 : w25.cell? ⟨gb321, 2, none⟩ = some (.int .i64 0) := (blk_cell BK321.out 2).trans rfl; have hcz26_3 : w25.cell? ⟨gb321, 3, none⟩ = some (.int .i64 0) := (blk_cell BK321.out 3).trans rfl; have hcz26_4 : w25.cell? ⟨gb321, 4, none⟩ = some (.int .i64 0) := (blk_cell BK321.out 4).trans rfl; have hcz26_5 : w25.cell? ⟨gb321, 5, none⟩ = some (.int .i64 0) := (blk_cell BK321.out 5).trans rfl; have hfz26_0 := blk_frozen BK321.out 0; have hfz26_1 := blk_frozen BK321.out 1; have hfz26_2 := blk_frozen BK321.out 2; have hfz26_3 := blk_frozen BK321.out 3; have hfz26_4 := blk_frozen BK321.out 4; have hfz26_5 := blk_frozen BK321.out 5))
                    (try simp only [Act.put, List.setIfInBounds_toArray, List.set_cons_zero, List.set_cons_succ])
                    go_cut [] (fun wc => ∃ (kq : Nat) (x322000_23 : Int), Aside0 (insolvencylaw25_statements.j2 kq a1 l2 y315 x9_12 x10_1 x11_1 x322000_23 ((rd_T39 y315 x11_1).f1) ((rd_T39 y315 x11_1).f2) ((rd_T39 y315 x11_1).f3) ((rd_T39 y315 x11_1).f4) ((rd_T39 y315 x11_1).f5) = some (r1, r2)) ∧ Aside0 (kq ≤ kj12) ∧ Aside0 (Kd.R k39 39 wc w.heap.size (fun k_ => some k_ ≠ (u9 : Value).ownBlock ∧ some k_ ≠ (u10 : Value).ownBlock ∧ k_ ≠ gb321) (.slice (some ⟨go8, 0, none⟩) y315.length co14) y315) ∧ Aside0 (Kd.R k39 39 wc w.heap.size (fun k_ => some k_ ≠ ((.slice (some ⟨go8, 0, none⟩) y315.length co14) : Value).ownBlock ∧ some k_ ≠ (u10 : Value).ownBlock ∧ k_ ≠ gb321) u9 x9_12) ∧ Aside0 (Kd.R k39 39 wc w.heap.size (fun k_ => some k_ ≠ ((.slice (some ⟨go8, 0, none⟩) y315.length co14) : Value).ownBlock ∧ some k_ ≠ (u9 : Value).ownBlock ∧ k_ ≠ gb321) u10 x10_1) ∧ Aside0 (wc.heap[gb321]? = some (.cells #[.int .i64 x322000_23, .int .i64 ((rd_T39 y315 x11_1).f1), .int .i64 ((rd_T39 y315 x11_1).f2), .int .i64 ((rd_T39 y315 x11_1).f3), .int .i64 ((rd_T39 y315 x11_1).f4), .int .i64 ((rd_T39 y315 x11_1).f5)] 39 (0, 0))) ∧ Aside0 (Below w.heap.size w wc))
                    case first =>
                      have H := HC24.out
                      clear HC24
                      by_cases c27 : x11_1 < (l2.length : Int)
                      · rw [if_pos c27] at H
                        have c27b0 : decide (x11_1 < (l2.length : Int)) = true := decide_eq_true c27
                        clear c27
                        (first | rw [c27b0] | (simp only [i64_w, i32_w]; rw [c27b0]) | skip)
                        have H' := Aside0.mk H
                        clear H
                        try go_wp2
                        have n0_ : Aside0 (Kd.R k39 39 ((((((w25.setCell ⟨gb321, 0, none⟩ (.int .i64 ((rd_T39 y315 x11_1).f0))).setCell ⟨gb321, 1, none⟩ (.int .i64 ((rd_T39 y315 x11_1).f1))).setCell ⟨gb321, 2, none⟩ (.int .i64 ((rd_T39 y315 x11_1).f2))).setCell ⟨gb321, 3, none⟩ (.int .i64 ((rd_T39 y315 x11_1).f3))).setCell ⟨gb321, 4, none⟩ (.int .i64 ((rd_T39 y315 x11_1).f4))).setCell ⟨gb321, 5, none⟩ (.int .i64 ((rd_T39 y315 x11_1).f5))) w.heap.size (fun k_ => some k_ ≠ (u9 : Value).ownBlock ∧ some k_ ≠ (u10 : Value).ownBlock ∧ k_ ≠ gb321) (.slice (some ⟨go8, 0, none⟩) y315.length co14) y315) := ⟨by (with_reducible repeat (first | apply Kd.R_alloc | apply Kd.R_drewN | apply Kd.R_drew)); exact Kd.R_mono (Kd.R_far (p := ⟨gb321, 5, none⟩) (Kd.R_far (p := ⟨gb321, 4, none⟩) (Kd.R_far (p := ⟨gb321, 3, none⟩) (Kd.R_far (p := ⟨gb321, 2, none⟩) (Kd.R_far (p := ⟨gb321, 1, none⟩) (Kd.R_far (p := ⟨gb321, 0, none⟩) (Kd.R_mono HO_8.out (fun k_ hk => (⟨hk, hk.2⟩ : _ ∧ k_ ≠ gb321))) (fun _ hk => hk.2) (.int .i64 ((rd_T39 y315 x11_1).f0))) (fun _ hk => hk.2) (.int .i64 ((rd_T39 y315 x11_1).f1))) (fun _ hk => hk.2) (.int .i64 ((rd_T39 y315 x11_1).f2))) (fun _ hk => hk.2) (.int .i64 ((rd_T39 y315 x11_1).f3))) (fun _ hk => hk.2) (.int .i64 ((rd_T39 y315 x11_1).f4))) (fun _ hk => hk.2) (.int .i64 ((rd_T39 y315 x11_1).f5))) (fun _ hk => ⟨hk.1.1.1, ⟨hk.1.1.2, hk.1.2⟩⟩)⟩
                        have n1_ : Aside0 (Kd.R k39 39 ((((((w25.setCell ⟨gb321, 0, none⟩ (.int .i64 ((rd_T39 y315 x11_1).f0))).setCell ⟨gb321, 1, none⟩ (.int .i64 ((rd_T39 y315 x11_1).f1))).setCell ⟨gb321, 2, none⟩ (.int .i64 ((rd_T39 y315 x11_1).f2))).setCell ⟨gb321, 3, none⟩ (.int .i64 ((rd_T39 y315 x11_1).f3))).setCell ⟨gb321, 4, none⟩ (.int .i64 ((rd_T39 y315 x11_1).f4))).setCell ⟨gb321, 5, none⟩ (.int .i64 ((rd_T39 y315 x11_1).f5))) w.heap.size (fun k_ => some k_ ≠ (.slice (some ⟨go8, 0, none⟩) y315.length co14 : Value).ownBlock ∧ some k_ ≠ (u10 : Value).ownBlock ∧ k_ ≠ gb321) u9 x9_12) := ⟨by (with_reducible repeat (first | apply Kd.R_alloc | apply Kd.R_drewN | apply Kd.R_drew)); exact Kd.R_mono (Kd.R_far (p := ⟨gb321, 5, none⟩) (Kd.R_far (p := ⟨gb321, 4, none⟩) (Kd.R_far (p := ⟨gb321, 3, none⟩) (Kd.R_far (p := ⟨gb321, 2, none⟩) (Kd.R_far (p := ⟨gb321, 1, none⟩) (Kd.R_far (p := ⟨gb321, 0, none⟩) (Kd.R_mono HO_9.out (fun k_ hk => (⟨hk, hk.2⟩ : _ ∧ k_ ≠ gb321))) (fun _ hk => hk.2) (.int .i64 ((rd_T39 y315 x11_1).f0))) (fun _ hk => hk.2) (.int .i64 ((rd_T39 y315 x11_1).f1))) (fun _ hk => hk.2) (.int .i64 ((rd_T39 y315 x11_1).f2))) (fun _ hk => hk.2) (.int .i64 ((rd_T39 y315 x11_1).f3))) (fun _ hk => hk.2) (.int .i64 ((rd_T39 y315 x11_1).f4))) (fun _ hk => hk.2) (.int .i64 ((rd_T39 y315 x11_1).f5))) (fun _ hk => ⟨hk.1.1.1, ⟨hk.1.1.2, hk.1.2⟩⟩)⟩
                        have n2_ : Aside0 (Kd.R k39 39 ((((((w25.setCell ⟨gb321, 0, none⟩ (.int .i64 ((rd_T39 y315 x11_1).f0))).setCell ⟨gb321, 1, none⟩ (.int .i64 ((rd_T39 y315 x11_1).f1))).setCell ⟨gb321, 2, none⟩ (.int .i64 ((rd_T39 y315 x11_1).f2))).setCell ⟨gb321, 3, none⟩ (.int .i64 ((rd_T39 y315 x11_1).f3))).setCell ⟨gb321, 4, none⟩ (.int .i64 ((rd_T39 y315 x11_1).f4))).setCell ⟨gb321, 5, none⟩ (.int .i64 ((rd_T39 y315 x11_1).f5))) w.heap.size (fun k_ => some k_ ≠ (.slice (some ⟨go8, 0, none⟩) y315.length co14 : Value).ownBlock ∧ some k_ ≠ (u9 : Value).ownBlock ∧ k_ ≠ gb321) u10 x10_1) := ⟨by (with_reducible repeat (first | apply Kd.R_alloc | apply Kd.R_drewN | apply Kd.R_drew)); exact Kd.R_mono (Kd.R_far (p := ⟨gb321, 5, none⟩) (Kd.R_far (p := ⟨gb321, 4, none⟩) (Kd.R_far (p := ⟨gb321, 3, none⟩) (Kd.R_far (p := ⟨gb321, 2, none⟩) (Kd.R_far (p := ⟨gb321, 1, none⟩) (Kd.R_far (p := ⟨gb321, 0, none⟩) (Kd.R_mono HO_10.out (fun k_ hk => (⟨hk, hk.2⟩ : _ ∧ k_ ≠ gb321))) (fun _ hk => hk.2) (.int .i64 ((rd_T39 y315 x11_1).f0))) (fun _ hk => hk.2) (.int .i64 ((rd_T39 y315 x11_1).f1))) (fun _ hk => hk.2) (.int .i64 ((rd_T39 y315 x11_1).f2))) (fun _ hk => hk.2) (.int .i64 ((rd_T39 y315 x11_1).f3))) (fun _ hk => hk.2) (.int .i64 ((rd_T39 y315 x11_1).f4))) (fun _ hk => hk.2) (.int .i64 ((rd_T39 y315 x11_1).f5))) (fun _ hk => ⟨hk.1.1.1, ⟨hk.1.1.2, hk.1.2⟩⟩)⟩
                        have n3_ : Aside0 (((((((w25.setCell ⟨gb321, 0, none⟩ (.int .i64 ((rd_T39 y315 x11_1).f0))).setCell ⟨gb321, 1, none⟩ (.int .i64 ((rd_T39 y315 x11_1).f1))).setCell ⟨gb321, 2, none⟩ (.int .i64 ((rd_T39 y315 x11_1).f2))).setCell ⟨gb321, 3, none⟩ (.int .i64 ((rd_T39 y315 x11_1).f3))).setCell ⟨gb321, 4, none⟩ (.int .i64 ((rd_T39 y315 x11_1).f4))).setCell ⟨gb321, 5, none⟩ (.int .i64 ((rd_T39 y315 x11_1).f5))).heap[gb321]? = some (.cells #[.int .i64 ((rd_T39 y315 x11_1).f0), .int .i64 ((rd_T39 y315 x11_1).f1), .int .i64 ((rd_T39 y315 x11_1).f2), .int .i64 ((rd_T39 y315 x11_1).f3), .int .i64 ((rd_T39 y315 x11_1).f4), .int .i64 ((rd_T39 y315 x11_1).f5)] 39 (0, 0))) := ⟨by (with_reducible repeat (first | refine blk_drewN ?_ _ | refine blk_drew ?_ | refine blk_alloc ?_ _)); refine blk_put (cs := #[.int .i64 ((rd_T39 y315 x11_1).f0), .int .i64 ((rd_T39 y315 x11_1).f1), .int .i64 ((rd_T39 y315 x11_1).f2), .int .i64 ((rd_T39 y315 x11_1).f3), .int .i64 ((rd_T39 y315 x11_1).f4), .int .i64 0]) ?_ 5 _ rfl; (with_reducible repeat (first | refine blk_drewN ?_ _ | refine blk_drew ?_ | refine blk_alloc ?_ _)); refine blk_put (cs := #[.int .i64 ((rd_T39 y315 x11_1).f0), .int .i64 ((rd_T39 y315 x11_1).f1), .int .i64 ((rd_T39 y315 x11_1).f2), .int .i64 ((rd_T39 y315 x11_1).f3), .int .i64 0, .int .i64 0]) ?_ 4 _ rfl; (with_reducible repeat (first | refine blk_drewN ?_ _ | refine blk_drew ?_ | refine blk_alloc ?_ _)); refine blk_put (cs := #[.int .i64 ((rd_T39 y315 x11_1).f0), .int .i64 ((rd_T39 y315 x11_1).f1), .int .i64 ((rd_T39 y315 x11_1).f2), .int .i64 0, .int .i64 0, .int .i64 0]) ?_ 3 _ rfl; (with_reducible repeat (first | refine blk_drewN ?_ _ | refine blk_drew ?_ | refine blk_alloc ?_ _)); refine blk_put (cs := #[.int .i64 ((rd_T39 y315 x11_1).f0), .int .i64 ((rd_T39 y315 x11_1).f1), .int .i64 0, .int .i64 0, .int .i64 0, .int .i64 0]) ?_ 2 _ rfl; (with_reducible repeat (first | refine blk_drewN ?_ _ | refine blk_drew ?_ | refine blk_alloc ?_ _)); refine blk_put (cs := #[.int .i64 ((rd_T39 y315 x11_1).f0), .int .i64 0, .int .i64 0, .int .i64 0, .int .i64 0, .int .i64 0]) ?_ 1 _ rfl; (with_reducible repeat (first | refine blk_drewN ?_ _ | refine blk_drew ?_ | refine blk_alloc ?_ _)); refine blk_put (cs := #[.int .i64 0, .int .i64 0, .int .i64 0, .int .i64 0, .int .i64 0, .int .i64 0]) ?_ 0 _ rfl; (with_reducible repeat (first | refine blk_drewN ?_ _ | refine blk_drew ?_ | refine blk_alloc ?_ _)); exact BK321.out⟩
                        have n4_ : Aside0 (Below w.heap.size w ((((((w25.setCell ⟨gb321, 0, none⟩ (.int .i64 ((rd_T39 y315 x11_1).f0))).setCell ⟨gb321, 1, none⟩ (.int .i64 ((rd_T39 y315 x11_1).f1))).setCell ⟨gb321, 2, none⟩ (.int .i64 ((rd_T39 y315 x11_1).f2))).setCell ⟨gb321, 3, none⟩ (.int .i64 ((rd_T39 y315 x11_1).f3))).setCell ⟨gb321, 4, none⟩ (.int .i64 ((rd_T39 y315 x11_1).f4))).setCell ⟨gb321, 5, none⟩ (.int .i64 ((rd_T39 y315 x11_1).f5)))) := ⟨by repeat (first | (with_reducible first | exact HB.out | apply below_alloc | apply pw_below_drewN | apply below_drew1 | refine below_set ?_ GE321.out) | exact HB.out)⟩
                        (try clear HO_8)
                        (try clear HO_9)
                        (try clear HO_10)
                        (try clear BK321)
                        (try clear HB)
                        generalize ((((((w25.setCell ⟨gb321, 0, none⟩ (.int .i64 ((rd_T39 y315 x11_1).f0))).setCell ⟨gb321, 1, none⟩ (.int .i64 ((rd_T39 y315 x11_1).f1))).setCell ⟨gb321, 2, none⟩ (.int .i64 ((rd_T39 y315 x11_1).f2))).setCell ⟨gb321, 3, none⟩ (.int .i64 ((rd_T39 y315 x11_1).f3))).setCell ⟨gb321, 4, none⟩ (.int .i64 ((rd_T39 y315 x11_1).f4))).setCell ⟨gb321, 5, none⟩ (.int .i64 ((rd_T39 y315 x11_1).f5))) = w28 at n0_ n1_ n2_ n3_ n4_ ⊢
                        have HO_8 := n0_
                        have HO_9 := n1_
                        have HO_10 := n2_
                        have BK321 := n3_
                        have HB := n4_
                        clear n0_ n1_ n2_ n3_ n4_
                        have n0_ := Aside0.mk (Kd.R_drew HO_8.out)
                        have n1_ := Aside0.mk (Kd.R_drew HO_9.out)
                        have n2_ := Aside0.mk (Kd.R_drew HO_10.out)
                        have n3_ := Aside0.mk (blk_drew BK321.out)
                        have n4_ := Aside0.mk (below_drew1 HB.out)
                        clear HO_8
                        clear HO_9
                        clear HO_10
                        clear BK321
                        clear HB
                        have HO_8 := n0_
                        have HO_9 := n1_
                        have HO_10 := n2_
                        have BK321 := n3_
                        have HB := n4_
                        clear n0_ n1_ n2_ n3_ n4_
                        have p322 : 0 ≤ (x11_1 : Int) := of_decide_eq_true (by first | (with_reducible assumption) | assumption)
                        have q322 : x11_1 < (l2.length : Int) := of_decide_eq_true (by first | (with_reducible assumption) | assumption)
                        obtain ⟨ad322, e322, hx322_0⟩ := Kd.at_int HR2.out x11_1 p322 q322
                        have hw322_0 := hx322_0
                        cases e322
                        replace hx322_0 := (HB.out.cell (World.block_lt_of_cell? w _ hx322_0)).trans hx322_0
                        replace p322 := eq_true p322
                        replace q322 := eq_true q322
                        refine start_ (n := 11) (S := fun w' => w'.cell? ⟨gb321, 0, none⟩ = some (.int .i64 ((rd_T39 y315 x11_1).f0)) ∧ w'.cell? ⟨gb321, 1, none⟩ = some (.int .i64 ((rd_T39 y315 x11_1).f1)) ∧ w'.cell? ⟨gb321, 2, none⟩ = some (.int .i64 ((rd_T39 y315 x11_1).f2)) ∧ w'.cell? ⟨gb321, 3, none⟩ = some (.int .i64 ((rd_T39 y315 x11_1).f3)) ∧ w'.cell? ⟨gb321, 4, none⟩ = some (.int .i64 ((rd_T39 y315 x11_1).f4)) ∧ w'.cell? ⟨gb321, 5, none⟩ = some (.int .i64 ((rd_T39 y315 x11_1).f5)) ∧ w'.cell? (ad322.add (x11_1).toNat) = some (.int .u8 (rd l2 x11_1))) (ds := [10]) #[false, false, false, false, false, false, false, false, false, false, false] (by kernel_rfl) rfl rfl ⟨(blk_cell BK321.out 0).trans rfl, (blk_cell BK321.out 1).trans rfl, (blk_cell BK321.out 2).trans rfl, (blk_cell BK321.out 3).trans rfl, (blk_cell BK321.out 4).trans rfl, (blk_cell BK321.out 5).trans rfl, ((HB.out.cell (World.block_lt_of_cell? w _ hw322_0)).trans hw322_0)⟩ (fun hHeld => ?_); refine with_tabW insolvencylaw25_statements.tab12 insolvencylaw25_statements.bits12 (fun HT_ HW_ => ?_)
                        generalize w28.drew = w29 at HO_8 HO_9 HO_10 BK321 HB hx322_0 hHeld ⊢
                        refine pure_ (i := 0) (N := some 57) (v := ?_) (a' := ?_) #[true, false, false, false, false, false, false, false, false, false, false] rfl rfl (any_of HT_.out (by kernel_rfl)) (fun _ _ _ h => h) (Or.inl ⟨by rfl, ?_⟩) ?_ ?_
                        rotate_left
                        · intro w'
                          go_simp
                          with_reducible rfl
                        rotate_left
                        · simp only [Act.put, List.setIfInBounds_toArray, List.set_cons_zero, List.set_cons_succ, i64_w, i32_w]
                          rfl
                        refine pure_ (i := 2) (N := some 59) (v := ?_) (a' := ?_) #[true, false, true, false, false, false, false, false, false, false, false] rfl rfl (any_of HT_.out (by kernel_rfl)) (fun _ _ _ h => h) (Or.inl ⟨by rfl, ?_⟩) ?_ ?_
                        rotate_left
                        · intro w'
                          go_simp
                          with_reducible rfl
                        rotate_left
                        · simp only [Act.put, List.setIfInBounds_toArray, List.set_cons_zero, List.set_cons_succ, i64_w, i32_w]
                          rfl
                        refine pure_ (i := 3) (N := some 60) (v := ?_) (a' := ?_) #[true, false, true, true, false, false, false, false, false, false, false] rfl rfl (any_of HT_.out (by kernel_rfl)) (fun _ _ _ h => h) (Or.inl ⟨by rfl, ?_⟩) ?_ ?_
                        rotate_left
                        · intro w'
                          go_simp
                          with_reducible rfl
                        rotate_left
                        · simp only [Act.put, List.setIfInBounds_toArray, List.set_cons_zero, List.set_cons_succ, i64_w, i32_w]
                          rfl
                        refine pure_ (i := 4) (N := some 61) (v := ?_) (a' := ?_) #[true, false, true, true, true, false, false, false, false, false, false] rfl rfl (any_of HT_.out (by kernel_rfl)) (fun _ _ _ h => h) (Or.inl ⟨by rfl, ?_⟩) ?_ ?_
                        rotate_left
                        · intro w'
                          go_simp
                          with_reducible rfl
                        rotate_left
                        · simp only [Act.put, List.setIfInBounds_toArray, List.set_cons_zero, List.set_cons_succ, i64_w, i32_w]
                          rfl
                        refine take_ (i := 1) (N := some 58) (v := ?_) (a' := ?_) #[true, true, true, true, true, false, false, false, false, false, false] rfl rfl (take_ofW HT_.out HW_.out (by kernel_rfl)) (fun _ _ _ h => h) (Or.inl ⟨by rfl, ?_⟩) hHeld ?_ ?_
                        rotate_left
                        · rintro w' ⟨s0, s1, s2, s3, s4, s5, s6⟩
                          go_simp
                          with_reducible rfl
                        rotate_left
                        · simp only [Act.put, List.setIfInBounds_toArray, List.set_cons_zero, List.set_cons_succ, i64_w, i32_w]
                          rfl
                        refine take_ (i := 5) (N := some 62) (v := ?_) (a' := ?_) #[true, true, true, true, true, true, false, false, false, false, false] rfl rfl (take_ofW HT_.out HW_.out (by kernel_rfl)) (fun _ _ _ h => h) (Or.inl ⟨by rfl, ?_⟩) hHeld ?_ ?_
                        rotate_left
                        · rintro w' ⟨s0, s1, s2, s3, s4, s5, s6⟩
                          go_simp
                          with_reducible rfl
                        rotate_left
                        · simp only [Act.put, List.setIfInBounds_toArray, List.set_cons_zero, List.set_cons_succ, i64_w, i32_w]
                          rfl
                        refine pure_ (i := 6) (N := some 63) (v := ?_) (a' := ?_) #[true, true, true, true, true, true, true, false, false, false, false] rfl rfl (any_of HT_.out (by kernel_rfl)) (fun _ _ _ h => h) (Or.inl ⟨by rfl, ?_⟩) ?_ ?_
                        rotate_left
                        · intro w'
                          go_simp
                          with_reducible rfl
                        rotate_left
                        · simp only [Act.put, List.setIfInBounds_toArray, List.set_cons_zero, List.set_cons_succ, i64_w, i32_w]
                          rfl
                        refine pure_ (i := 7) (N := some 64) (v := ?_) (a' := ?_) #[true, true, true, true, true, true, true, true, false, false, false] rfl rfl (any_of HT_.out (by kernel_rfl)) (fun _ _ _ h => h) (Or.inl ⟨by rfl, ?_⟩) ?_ ?_
                        rotate_left
                        · intro w'
                          go_simp
                          with_reducible rfl
                        rotate_left
                        · simp only [Act.put, List.setIfInBounds_toArray, List.set_cons_zero, List.set_cons_succ, i64_w, i32_w]
                          rfl
                        refine pure_ (i := 8) (N := some 65) (v := ?_) (a' := ?_) #[true, true, true, true, true, true, true, true, true, false, false] rfl rfl (any_of HT_.out (by kernel_rfl)) (fun _ _ _ h => h) (Or.inl ⟨by rfl, ?_⟩) ?_ ?_
                        rotate_left
                        · intro w'
                          go_simp
                          with_reducible rfl
                        rotate_left
                        · simp only [Act.put, List.setIfInBounds_toArray, List.set_cons_zero, List.set_cons_succ, i64_w, i32_w]
                          rfl
                        refine pure_ (i := 9) (N := some 66) (v := ?_) (a' := ?_) #[true, true, true, true, true, true, true, true, true, true, false] rfl rfl (any_of HT_.out (by kernel_rfl)) (fun _ _ _ h => h) (Or.inl ⟨by rfl, ?_⟩) ?_ ?_
                        rotate_left
                        · intro w'
                          go_simp
                          with_reducible rfl
                        rotate_left
                        · simp only [Act.put, List.setIfInBounds_toArray, List.set_cons_zero, List.set_cons_succ, i64_w, i32_w]
                          rfl
                        refine last_ (i := 10) (N := none) #[true, true, true, true, true, true, true, true, true, true, true] rfl rfl (one_of HT_.out (by kernel_rfl)) (by decide) (fun K hK => ?_)
                        have hs30 : w29.cell? ⟨gb321, 0, none⟩ = some (.int .i64 ((rd_T39 y315 x11_1).f0)) := (blk_cell BK321.out 0).trans rfl
                        have hfs30 := blk_frozen BK321.out 0
                        refine skip_ (w1 := ?_) (by rfl) rfl ?_ ?_
                        rotate_left
                        · go_simp
                          rfl
                        refine hK.out _ _ ?_
                        clear hK K
                        refine done_ (done_of HT_.out (by kernel_rfl)) ?_
                        try go_wp2
                        go_meet
                        case rel => exact ⟨_, (wrap64 (((rd_T39 y315 x11_1).f0) + (wrap64 (Int.tmod (rd l2 x11_1) 4)))), H', ⟨by have := HK1.out; have := HJ12.out; first | omega | exact Nat.le_refl _⟩, ⟨by (try simp only [hl8_12]); (with_reducible repeat (first | apply Kd.R_alloc | apply Kd.R_drewN | apply Kd.R_drew)); exact Kd.R_mono (Kd.R_far (p := ⟨gb321, 0, none⟩) (Kd.R_mono HO_8.out (fun k_ hk => (⟨hk, hk.2.2⟩ : _ ∧ k_ ≠ gb321))) (fun _ hk => hk.2) (.int .i64 (wrap64 (((rd_T39 y315 x11_1).f0) + (wrap64 (Int.tmod (rd l2 x11_1) 4)))))) (fun _ hk => ⟨hk.1.1, ⟨hk.1.2.1, hk.1.2.2⟩⟩)⟩, ⟨by (try simp only [hl8_12]); (with_reducible repeat (first | apply Kd.R_alloc | apply Kd.R_drewN | apply Kd.R_drew)); exact Kd.R_mono (Kd.R_far (p := ⟨gb321, 0, none⟩) (Kd.R_mono HO_9.out (fun k_ hk => (⟨hk, hk.2.2⟩ : _ ∧ k_ ≠ gb321))) (fun _ hk => hk.2) (.int .i64 (wrap64 (((rd_T39 y315 x11_1).f0) + (wrap64 (Int.tmod (rd l2 x11_1) 4)))))) (fun _ hk => ⟨hk.1.1, ⟨hk.1.2.1, hk.1.2.2⟩⟩)⟩, ⟨by (try simp only [hl8_12]); (with_reducible repeat (first | apply Kd.R_alloc | apply Kd.R_drewN | apply Kd.R_drew)); exact Kd.R_mono (Kd.R_far (p := ⟨gb321, 0, none⟩) (Kd.R_mono HO_10.out (fun k_ hk => (⟨hk, hk.2.2⟩ : _ ∧ k_ ≠ gb321))) (fun _ hk => hk.2) (.int .i64 (wrap64 (((rd_T39 y315 x11_1).f0) + (wrap64 (Int.tmod (rd l2 x11_1) 4)))))) (fun _ hk => ⟨hk.1.1, ⟨hk.1.2.1, hk.1.2.2⟩⟩)⟩, ⟨by (try simp only [hl8_12]); (with_reducible repeat (first | refine blk_drewN ?_ _ | refine blk_drew ?_ | refine blk_alloc ?_ _)); refine blk_put (cs := #[.int .i64 ((rd_T39 y315 x11_1).f0), .int .i64 ((rd_T39 y315 x11_1).f1), .int .i64 ((rd_T39 y315 x11_1).f2), .int .i64 ((rd_T39 y315 x11_1).f3), .int .i64 ((rd_T39 y315 x11_1).f4), .int .i64 ((rd_T39 y315 x11_1).f5)]) ?_ 0 _ rfl; (with_reducible repeat (first | refine blk_drewN ?_ _ | refine blk_drew ?_ | refine blk_alloc ?_ _)); exact BK321.out⟩, ⟨by repeat (first | (with_reducible first | exact HB.out | apply below_alloc | apply pw_below_drewN | apply below_drew1 | refine below_set ?_ GE321.out) | exact HB.out)⟩⟩
                      · rw [if_neg c27] at H
                        have c27b0 : decide (x11_1 < (l2.length : Int)) = false := decide_eq_false c27
                        clear c27
                        (first | rw [c27b0] | (simp only [i64_w, i32_w]; rw [c27b0]) | skip)
                        have H' := Aside0.mk H
                        clear H
                        go_wp2
                        go_meet
                        case rel => exact ⟨_, ((rd_T39 y315 x11_1).f0), H', ⟨by have := HK1.out; have := HJ12.out; first | omega | exact Nat.le_refl _⟩, ⟨by (try simp only [hl8_12]); (with_reducible repeat (first | apply Kd.R_alloc | apply Kd.R_drewN | apply Kd.R_drew)); exact Kd.R_mono (Kd.R_far (p := ⟨gb321, 5, none⟩) (Kd.R_far (p := ⟨gb321, 4, none⟩) (Kd.R_far (p := ⟨gb321, 3, none⟩) (Kd.R_far (p := ⟨gb321, 2, none⟩) (Kd.R_far (p := ⟨gb321, 1, none⟩) (Kd.R_far (p := ⟨gb321, 0, none⟩) (Kd.R_mono HO_8.out (fun k_ hk => (⟨hk, hk.2⟩ : _ ∧ k_ ≠ gb321))) (fun _ hk => hk.2) (.int .i64 ((rd_T39 y315 x11_1).f0))) (fun _ hk => hk.2) (.int .i64 ((rd_T39 y315 x11_1).f1))) (fun _ hk => hk.2) (.int .i64 ((rd_T39 y315 x11_1).f2))) (fun _ hk => hk.2) (.int .i64 ((rd_T39 y315 x11_1).f3))) (fun _ hk => hk.2) (.int .i64 ((rd_T39 y315 x11_1).f4))) (fun _ hk => hk.2) (.int .i64 ((rd_T39 y315 x11_1).f5))) (fun _ hk => ⟨hk.1.1.1, ⟨hk.1.1.2, hk.1.2⟩⟩)⟩, ⟨by (try simp only [hl8_12]); (with_reducible repeat (first | apply Kd.R_alloc | apply Kd.R_drewN | apply Kd.R_drew)); exact Kd.R_mono (Kd.R_far (p := ⟨gb321, 5, none⟩) (Kd.R_far (p := ⟨gb321, 4, none⟩) (Kd.R_far (p := ⟨gb321, 3, none⟩) (Kd.R_far (p := ⟨gb321, 2, none⟩) (Kd.R_far (p := ⟨gb321, 1, none⟩) (Kd.R_far (p := ⟨gb321, 0, none⟩) (Kd.R_mono HO_9.out (fun k_ hk => (⟨hk, hk.2⟩ : _ ∧ k_ ≠ gb321))) (fun _ hk => hk.2) (.int .i64 ((rd_T39 y315 x11_1).f0))) (fun _ hk => hk.2) (.int .i64 ((rd_T39 y315 x11_1).f1))) (fun _ hk => hk.2) (.int .i64 ((rd_T39 y315 x11_1).f2))) (fun _ hk => hk.2) (.int .i64 ((rd_T39 y315 x11_1).f3))) (fun _ hk => hk.2) (.int .i64 ((rd_T39 y315 x11_1).f4))) (fun _ hk => hk.2) (.int .i64 ((rd_T39 y315 x11_1).f5))) (fun _ hk => ⟨hk.1.1.1, ⟨hk.1.1.2, hk.1.2⟩⟩)⟩, ⟨by (try simp only [hl8_12]); (with_reducible repeat (first | apply Kd.R_alloc | apply Kd.R_drewN | apply Kd.R_drew)); exact Kd.R_mono (Kd.R_far (p := ⟨gb321, 5, none⟩) (Kd.R_far (p := ⟨gb321, 4, none⟩) (Kd.R_far (p := ⟨gb321, 3, none⟩) (Kd.R_far (p := ⟨gb321, 2, none⟩) (Kd.R_far (p := ⟨gb321, 1, none⟩) (Kd.R_far (p := ⟨gb321, 0, none⟩) (Kd.R_mono HO_10.out (fun k_ hk => (⟨hk, hk.2⟩ : _ ∧ k_ ≠ gb321))) (fun _ hk => hk.2) (.int .i64 ((rd_T39 y315 x11_1).f0))) (fun _ hk => hk.2) (.int .i64 ((rd_T39 y315 x11_1).f1))) (fun _ hk => hk.2) (.int .i64 ((rd_T39 y315 x11_1).f2))) (fun _ hk => hk.2) (.int .i64 ((rd_T39 y315 x11_1).f3))) (fun _ hk => hk.2) (.int .i64 ((rd_T39 y315 x11_1).f4))) (fun _ hk => hk.2) (.int .i64 ((rd_T39 y315 x11_1).f5))) (fun _ hk => ⟨hk.1.1.1, ⟨hk.1.1.2, hk.1.2⟩⟩)⟩, ⟨by (try simp only [hl8_12]); (with_reducible repeat (first | refine blk_drewN ?_ _ | refine blk_drew ?_ | refine blk_alloc ?_ _)); refine blk_put (cs := #[.int .i64 ((rd_T39 y315 x11_1).f0), .int .i64 ((rd_T39 y315 x11_1).f1), .int .i64 ((rd_T39 y315 x11_1).f2), .int .i64 ((rd_T39 y315 x11_1).f3), .int .i64 ((rd_T39 y315 x11_1).f4), .int .i64 0]) ?_ 5 _ rfl; (with_reducible repeat (first | refine blk_drewN ?_ _ | refine blk_drew ?_ | refine blk_alloc ?_ _)); refine blk_put (cs := #[.int .i64 ((rd_T39 y315 x11_1).f0), .int .i64 ((rd_T39 y315 x11_1).f1), .int .i64 ((rd_T39 y315 x11_1).f2), .int .i64 ((rd_T39 y315 x11_1).f3), .int .i64 0, .int .i64 0]) ?_ 4 _ rfl; (with_reducible repeat (first | refine blk_drewN ?_ _ | refine blk_drew ?_ | refine blk_alloc ?_ _)); refine blk_put (cs := #[.int .i64 ((rd_T39 y315 x11_1).f0), .int .i64 ((rd_T39 y315 x11_1).f1), .int .i64 ((rd_T39 y315 x11_1).f2), .int .i64 0, .int .i64 0, .int .i64 0]) ?_ 3 _ rfl; (with_reducible repeat (first | refine blk_drewN ?_ _ | refine blk_drew ?_ | refine blk_alloc ?_ _)); refine blk_put (cs := #[.int .i64 ((rd_T39 y315 x11_1).f0), .int .i64 ((rd_T39 y315 x11_1).f1), .int .i64 0, .int .i64 0, .int .i64 0, .int .i64 0]) ?_ 2 _ rfl; (with_reducible repeat (first | refine blk_drewN ?_ _ | refine blk_drew ?_ | refine blk_alloc ?_ _)); refine blk_put (cs := #[.int .i64 ((rd_T39 y315 x11_1).f0), .int .i64 0, .int .i64 0, .int .i64 0, .int .i64 0, .int .i64 0]) ?_ 1 _ rfl; (with_reducible repeat (first | refine blk_drewN ?_ _ | refine blk_drew ?_ | refine blk_alloc ?_ _)); refine blk_put (cs := #[.int .i64 0, .int .i64 0, .int .i64 0, .int .i64 0, .int .i64 0, .int .i64 0]) ?_ 0 _ rfl; (with_reducible repeat (first | refine blk_drewN ?_ _ | refine blk_drew ?_ | refine blk_alloc ?_ _)); exact BK321.out⟩, ⟨by repeat (first | (with_reducible first | exact HB.out | apply below_alloc | apply pw_below_drewN | apply below_drew1 | refine below_set ?_ GE321.out) | exact HB.out)⟩⟩
                    case rest =>
                      clear HC24
                      try clear c1
                      try clear hx1
                      try clear c2
                      try clear p2
                      try clear p3
                      try clear q3
                      try clear hx3
                      try clear c6
                      try clear c6b0
                      try clear p6
                      try clear c7
                      try clear c7b0
                      try clear c8
                      try clear p8
                      try clear q8
                      try clear hx8
                      try clear hf8
                      try clear c9
                      try clear p9
                      try clear q9
                      try clear hx9
                      try clear hf9
                      try clear c11
                      try clear c11b0
                      try clear c11b1
                      try clear c14
                      try clear c15
                      try clear hx15
                      try clear hf15
                      try clear c17
                      try clear hx17
                      try clear hf17
                      try clear c19
                      try clear c19b0
                      try clear c19b1
                      try clear c20
                      try clear c22
                      try clear c22b0
                      try clear c23
                      try clear c23b0
                      try clear c27
                      try clear c27b0
                      try clear c28
                      try clear hcz26_0
                      try clear hcz26_1
                      try clear hcz26_2
                      try clear hcz26_3
                      try clear hcz26_4
                      try clear hcz26_5
                      try clear hfz26_0
                      try clear hfz26_1
                      try clear hfz26_2
                      try clear hfz26_3
                      try clear hfz26_4
                      try clear hfz26_5
                      try clear hx15_4
                      try clear hx17_5
                      try clear hx313_0
                      try clear hx313_1
                      try clear hx313_2
                      try clear hx313_3
                      try clear hx313_4
                      try clear hx313_5
                      try clear hx316_0
                      try clear hx316_1
                      try clear hx316_2
                      try clear hx316_3
                      try clear hx316_4
                      try clear hx316_5
                      try clear hx320_0
                      try clear hx320_1
                      try clear hx320_2
                      try clear hx320_3
                      try clear hx320_4
                      try clear hx320_5
                      try clear hx322_0
                      try clear hx8_0
                      try clear hx8_1
                      try clear hx8_2
                      try clear hx8_3
                      try clear hx8_4
                      try clear hx8_5
                      try clear hx9_0
                      try clear hx9_1
                      try clear hx9_2
                      try clear hx9_3
                      try clear hx9_4
                      try clear hx9_5
                      try clear p2
                      try clear p3
                      try clear p313
                      try clear p316
                      try clear p320
                      try clear p322
                      try clear p8
                      try clear p9
                      try clear q3
                      try clear q313
                      try clear q316
                      try clear q320
                      try clear q322
                      try clear q8
                      try clear q9
                      obtain ⟨kq, x322000_23, HA, HJ23, HO_8, HO_9, HO_10, BK321, HB⟩ := hcut
                      cases kq with
                      | zero => exact absurd HA.out (by simp [insolvencylaw25_statements.j2])
                      | succ kj23 =>
                        have H := HA.out
                        clear HA
                        simp only [insolvencylaw25_statements.j2] at H
                        have HC31 := Aside0.mk H
                        clear H
                        go_upto_region 13 with (fail)
                        go_cut [81] (fun v81 wc => ∃ (kq : Nat) (x81_30 : Bool), v81 = .bool x81_30 ∧ Aside0 (insolvencylaw25_statements.j3 kq a1 l2 y315 x9_12 x10_1 x11_1 x81_30 x322000_23 ((rd_T39 y315 x11_1).f1) ((rd_T39 y315 x11_1).f2) ((rd_T39 y315 x11_1).f3) ((rd_T39 y315 x11_1).f4) ((rd_T39 y315 x11_1).f5) = some (r1, r2)) ∧ Aside0 (kq ≤ kj23) ∧ Aside0 (Kd.R k39 39 wc w.heap.size (fun k_ => some k_ ≠ (u9 : Value).ownBlock ∧ some k_ ≠ (u10 : Value).ownBlock ∧ k_ ≠ gb321) (.slice (some ⟨go8, 0, none⟩) y315.length co14) y315) ∧ Aside0 (Kd.R k39 39 wc w.heap.size (fun k_ => some k_ ≠ ((.slice (some ⟨go8, 0, none⟩) y315.length co14) : Value).ownBlock ∧ some k_ ≠ (u10 : Value).ownBlock ∧ k_ ≠ gb321) u9 x9_12) ∧ Aside0 (Kd.R k39 39 wc w.heap.size (fun k_ => some k_ ≠ ((.slice (some ⟨go8, 0, none⟩) y315.length co14) : Value).ownBlock ∧ some k_ ≠ (u9 : Value).ownBlock ∧ k_ ≠ gb321) u10 x10_1) ∧ Aside0 (wc.heap[gb321]? = some (.cells #[.int .i64 x322000_23, .int .i64 ((rd_T39 y315 x11_1).f1), .int .i64 ((rd_T39 y315 x11_1).f2), .int .i64 ((rd_T39 y315 x11_1).f3), .int .i64 ((rd_T39 y315 x11_1).f4), .int .i64 ((rd_T39 y315 x11_1).f5)] 39 (0, 0))) ∧ Aside0 (Below w.heap.size w wc))
                        case first =>
                          have H := HC31.out
                          clear HC31
                          by_cases c32 : (x10_1.length : Int) > 0
                          · rw [if_pos c32] at H
                            have c32b0 : decide (0 < (x10_1.length : Int)) = true := decide_eq_true c32
                            have c32b1 : decide (0 < x10_1.length) = true := decide_eq_true (by omega)
                            clear c32
                            (first | rw [c32b0] | (simp only [i64_w, i32_w]; rw [c32b0]) | skip)
                            obtain ⟨ji33, hji33⟩ : ∃ j_ : Int, (wrap64 ((x10_1.length : Int) - 1)) = j_ := ⟨_, rfl⟩
                            replace H : (if 0 ≤ (ji33) then (if (ji33) < (x10_1.length : Int) then (insolvencylaw25_statements.j3 kj23 a1 l2 y315 x9_12 x10_1 x11_1 (decide (x322000_23 < ((rd_T39 x10_1 (ji33)).f0))) x322000_23 ((rd_T39 y315 x11_1).f1) ((rd_T39 y315 x11_1).f2) ((rd_T39 y315 x11_1).f3) ((rd_T39 y315 x11_1).f4) ((rd_T39 y315 x11_1).f5)) else (none)) else (none)) = some (r1, r2) := by first | (rw [hji33] at H; exact H) | (simp only [hji33] at H ⊢; exact H)
                            have hji33w : (IntKind.i64.wrap ((x10_1.length : Int) - 1)) = ji33 := (i64_w _).trans hji33
                            by_cases c34 : 0 ≤ (ji33)
                            · rw [if_pos c34] at H
                              have c34b0 : decide (0 ≤ (ji33)) = true := decide_eq_true c34
                              clear c34
                              by_cases c35 : (ji33) < (x10_1.length : Int)
                              · rw [if_pos c35] at H
                                have c35b0 : decide ((ji33) < (x10_1.length : Int)) = true := decide_eq_true c35
                                clear c35
                                have H' := Aside0.mk H
                                clear H
                                try go_wp2
                                have n0_ := Aside0.mk (Kd.R_drew HO_8.out)
                                have n1_ := Aside0.mk (Kd.R_drew HO_9.out)
                                have n2_ := Aside0.mk (Kd.R_drew HO_10.out)
                                have n3_ := Aside0.mk (blk_drew BK321.out)
                                have n4_ := Aside0.mk (below_drew1 HB.out)
                                clear HO_8
                                clear HO_9
                                clear HO_10
                                clear BK321
                                clear HB
                                have HO_8 := n0_
                                have HO_9 := n1_
                                have HO_10 := n2_
                                have BK321 := n3_
                                have HB := n4_
                                clear n0_ n1_ n2_ n3_ n4_
                                obtain ⟨Ao37, co37, eo37⟩ := Kd.R_slice HO_10.out
                                (first | subst eo37 | (injection eo37 with f1_ f2_ f3_; have f4_ := f1_.symm; have f5_ := f3_.symm; clear f1_ f2_ f3_; subst f4_; subst f5_))
                                have p323 : 0 ≤ ((ji33) : Int) := of_decide_eq_true (by first | (with_reducible assumption) | assumption)
                                have q323 : (ji33) < (x10_1.length : Int) := of_decide_eq_true (by first | (with_reducible assumption) | assumption)
                                obtain ⟨ad323, e323, hx323_0, hx323_1, hx323_2, hx323_3, hx323_4, hx323_5⟩ := at_T39 (Kd.R_reads' HO_10.out).2.2 (ji33) p323 q323
                                cases e323
                                replace p323 := eq_true p323
                                replace q323 := eq_true q323
                                refine start_ (n := 15) (S := fun w' => w'.cell? ⟨gb321, 0, none⟩ = some (.int .i64 x322000_23) ∧ w'.cell? ⟨gb321, 1, none⟩ = some (.int .i64 ((rd_T39 y315 x11_1).f1)) ∧ w'.cell? ⟨gb321, 2, none⟩ = some (.int .i64 ((rd_T39 y315 x11_1).f2)) ∧ w'.cell? ⟨gb321, 3, none⟩ = some (.int .i64 ((rd_T39 y315 x11_1).f3)) ∧ w'.cell? ⟨gb321, 4, none⟩ = some (.int .i64 ((rd_T39 y315 x11_1).f4)) ∧ w'.cell? ⟨gb321, 5, none⟩ = some (.int .i64 ((rd_T39 y315 x11_1).f5)) ∧ w'.cell? (ad323.add (((ji33)).toNat * 6)) = some (.int .i64 ((rd_T39 x10_1 (ji33)).f0)) ∧ w'.cell? ⟨(ad323.add (((ji33)).toNat * 6)).block, (ad323.add (((ji33)).toNat * 6)).off + 1, none⟩ = some (.int .i64 ((rd_T39 x10_1 (ji33)).f1)) ∧ w'.cell? ⟨(ad323.add (((ji33)).toNat * 6)).block, (ad323.add (((ji33)).toNat * 6)).off + 2, none⟩ = some (.int .i64 ((rd_T39 x10_1 (ji33)).f2)) ∧ w'.cell? ⟨(ad323.add (((ji33)).toNat * 6)).block, (ad323.add (((ji33)).toNat * 6)).off + 3, none⟩ = some (.int .i64 ((rd_T39 x10_1 (ji33)).f3)) ∧ w'.cell? ⟨(ad323.add (((ji33)).toNat * 6)).block, (ad323.add (((ji33)).toNat * 6)).off + 4, none⟩ = some (.int .i64 ((rd_T39 x10_1 (ji33)).f4)) ∧ w'.cell? ⟨(ad323.add (((ji33)).toNat * 6)).block, (ad323.add (((ji33)).toNat * 6)).off + 5, none⟩ = some (.int .i64 ((rd_T39 x10_1 (ji33)).f5))) (ds := []) #[false, false, false, false, false, false, false, false, false, false, false, false, false, false, false] (by kernel_rfl) rfl rfl ⟨(blk_cell BK321.out 0).trans rfl, (blk_cell BK321.out 1).trans rfl, (blk_cell BK321.out 2).trans rfl, (blk_cell BK321.out 3).trans rfl, (blk_cell BK321.out 4).trans rfl, (blk_cell BK321.out 5).trans rfl, hx323_0, hx323_1, hx323_2, hx323_3, hx323_4, hx323_5⟩ (fun hHeld => ?_); refine with_tabW insolvencylaw25_statements.tab13 insolvencylaw25_statements.bits13 (fun HT_ HW_ => ?_)
                                generalize wc.drew = w36 at HO_8 HO_9 HO_10 BK321 HB hx323_0 hx323_1 hx323_2 hx323_3 hx323_4 hx323_5 hHeld ⊢
                                refine pure_ (i := 0) (N := some 67) (v := ?_) (a' := ?_) #[true, false, false, false, false, false, false, false, false, false, false, false, false, false, false] rfl rfl (any_of HT_.out (by kernel_rfl)) (fun _ _ _ h => h) (Or.inl ⟨by rfl, ?_⟩) ?_ ?_
                                rotate_left
                                · intro w'
                                  go_simp
                                  with_reducible rfl
                                rotate_left
                                · simp only [Act.put, List.setIfInBounds_toArray, List.set_cons_zero, List.set_cons_succ, i64_w, i32_w]
                                  rfl
                                refine pure_ (i := 1) (N := some 68) (v := ?_) (a' := ?_) #[true, true, false, false, false, false, false, false, false, false, false, false, false, false, false] rfl rfl (any_of HT_.out (by kernel_rfl)) (fun _ _ _ h => h) (Or.inl ⟨by rfl, ?_⟩) ?_ ?_
                                rotate_left
                                · intro w'
                                  go_simp
                                  with_reducible rfl
                                rotate_left
                                · simp only [Act.put, List.setIfInBounds_toArray, List.set_cons_zero, List.set_cons_succ, i64_w, i32_w]
                                  rfl
                                refine pure_ (i := 2) (N := some 69) (v := ?_) (a' := ?_) #[true, true, true, false, false, false, false, false, false, false, false, false, false, false, false] rfl rfl (any_of HT_.out (by kernel_rfl)) (fun _ _ _ h => h) (Or.inl ⟨by rfl, ?_⟩) ?_ ?_
                                rotate_left
                                · intro w'
                                  go_simp
                                  with_reducible rfl
                                rotate_left
                                · simp only [Act.put, List.setIfInBounds_toArray, List.set_cons_zero, List.set_cons_succ, i64_w, i32_w]
                                  rfl
                                refine pure_ (i := 3) (N := some 70) (v := ?_) (a' := ?_) #[true, true, true, true, false, false, false, false, false, false, false, false, false, false, false] rfl rfl (any_of HT_.out (by kernel_rfl)) (fun _ _ _ h => h) (Or.inl ⟨by rfl, ?_⟩) ?_ ?_
                                rotate_left
                                · intro w'
                                  go_simp
                                  with_reducible rfl
                                rotate_left
                                · simp only [Act.put, List.setIfInBounds_toArray, List.set_cons_zero, List.set_cons_succ, i64_w, i32_w]
                                  rfl
                                refine pure_ (i := 4) (N := some 71) (v := ?_) (a' := ?_) #[true, true, true, true, true, false, false, false, false, false, false, false, false, false, false] rfl rfl (any_of HT_.out (by kernel_rfl)) (fun _ _ _ h => h) (Or.inl ⟨by rfl, ?_⟩) ?_ ?_
                                rotate_left
                                · intro w'
                                  go_simp
                                  with_reducible rfl
                                rotate_left
                                · simp only [Act.put, List.setIfInBounds_toArray, List.set_cons_zero, List.set_cons_succ, i64_w, i32_w]
                                  rfl
                                refine pure_ (i := 6) (N := some 73) (v := ?_) (a' := ?_) #[true, true, true, true, true, false, true, false, false, false, false, false, false, false, false] rfl rfl (any_of HT_.out (by kernel_rfl)) (fun _ _ _ h => h) (Or.inl ⟨by rfl, ?_⟩) ?_ ?_
                                rotate_left
                                · intro w'
                                  go_simp
                                  with_reducible rfl
                                rotate_left
                                · simp only [Act.put, List.setIfInBounds_toArray, List.set_cons_zero, List.set_cons_succ, i64_w, i32_w]
                                  rfl
                                refine pure_ (i := 7) (N := some 74) (v := ?_) (a' := ?_) #[true, true, true, true, true, false, true, true, false, false, false, false, false, false, false] rfl rfl (any_of HT_.out (by kernel_rfl)) (fun _ _ _ h => h) (Or.inl ⟨by rfl, ?_⟩) ?_ ?_
                                rotate_left
                                · intro w'
                                  go_simp
                                  with_reducible rfl
                                rotate_left
                                · simp only [Act.put, List.setIfInBounds_toArray, List.set_cons_zero, List.set_cons_succ, i64_w, i32_w]
                                  rfl
                                refine pure_ (i := 8) (N := some 75) (v := ?_) (a' := ?_) #[true, true, true, true, true, false, true, true, true, false, false, false, false, false, false] rfl rfl (any_of HT_.out (by kernel_rfl)) (fun _ _ _ h => h) (Or.inl ⟨by rfl, ?_⟩) ?_ ?_
                                rotate_left
                                · intro w'
                                  go_simp
                                  with_reducible rfl
                                rotate_left
                                · simp only [Act.put, List.setIfInBounds_toArray, List.set_cons_zero, List.set_cons_succ, i64_w, i32_w]
                                  rfl
                                refine pure_ (i := 9) (N := some 76) (v := ?_) (a' := ?_) #[true, true, true, true, true, false, true, true, true, true, false, false, false, false, false] rfl rfl (any_of HT_.out (by kernel_rfl)) (fun _ _ _ h => h) (Or.inl ⟨by rfl, ?_⟩) ?_ ?_
                                rotate_left
                                · intro w'
                                  go_simp
                                  with_reducible rfl
                                rotate_left
                                · simp only [Act.put, List.setIfInBounds_toArray, List.set_cons_zero, List.set_cons_succ, i64_w, i32_w]
                                  rfl
                                refine pure_ (i := 10) (N := some 77) (v := ?_) (a' := ?_) #[true, true, true, true, true, false, true, true, true, true, true, false, false, false, false] rfl rfl (any_of HT_.out (by kernel_rfl)) (fun _ _ _ h => h) (Or.inl ⟨by rfl, ?_⟩) ?_ ?_
                                rotate_left
                                · intro w'
                                  go_simp
                                  with_reducible rfl
                                rotate_left
                                · simp only [Act.put, List.setIfInBounds_toArray, List.set_cons_zero, List.set_cons_succ, i64_w, i32_w]
                                  rfl
                                refine pure_ (i := 11) (N := some 78) (v := ?_) (a' := ?_) #[true, true, true, true, true, false, true, true, true, true, true, true, false, false, false] rfl rfl (any_of HT_.out (by kernel_rfl)) (fun _ _ _ h => h) (Or.inl ⟨by rfl, ?_⟩) ?_ ?_
                                rotate_left
                                · intro w'
                                  go_simp
                                  with_reducible rfl
                                rotate_left
                                · simp only [Act.put, List.setIfInBounds_toArray, List.set_cons_zero, List.set_cons_succ, i64_w, i32_w]
                                  rfl
                                refine take_ (i := 5) (N := some 72) (v := ?_) (a' := ?_) #[true, true, true, true, true, true, true, true, true, true, true, true, false, false, false] rfl rfl (take_ofW HT_.out HW_.out (by kernel_rfl)) (fun _ _ _ h => h) (Or.inl ⟨by rfl, ?_⟩) hHeld ?_ ?_
                                rotate_left
                                · rintro w' ⟨s0, s1, s2, s3, s4, s5, s6, s7, s8, s9, s10, s11⟩
                                  go_simp
                                  with_reducible rfl
                                rotate_left
                                · simp only [Act.put, List.setIfInBounds_toArray, List.set_cons_zero, List.set_cons_succ, i64_w, i32_w]
                                  rfl
                                refine take_ (i := 12) (N := some 79) (v := ?_) (a' := ?_) #[true, true, true, true, true, true, true, true, true, true, true, true, true, false, false] rfl rfl (take_ofW HT_.out HW_.out (by kernel_rfl)) (fun _ _ _ h => h) (Or.inl ⟨by rfl, ?_⟩) hHeld ?_ ?_
                                rotate_left
                                · rintro w' ⟨s0, s1, s2, s3, s4, s5, s6, s7, s8, s9, s10, s11⟩
                                  go_simp
                                  with_reducible rfl
                                rotate_left
                                · simp only [Act.put, List.setIfInBounds_toArray, List.set_cons_zero, List.set_cons_succ, i64_w, i32_w]
                                  rfl
                                refine pure_ (i := 13) (N := some 80) (v := ?_) (a' := ?_) #[true, true, true, true, true, true, true, true, true, true, true, true, true, true, false] rfl rfl (any_of HT_.out (by kernel_rfl)) (fun _ _ _ h => h) (Or.inl ⟨by rfl, ?_⟩) ?_ ?_
                                rotate_left
                                · intro w'
                                  go_simp
                                  with_reducible rfl
                                rotate_left
                                · simp only [Act.put, List.setIfInBounds_toArray, List.set_cons_zero, List.set_cons_succ, i64_w, i32_w]
                                  rfl
                                refine pure_ (i := 14) (N := some 81) (v := ?_) (a' := ?_) #[true, true, true, true, true, true, true, true, true, true, true, true, true, true, true] rfl rfl (any_of HT_.out (by kernel_rfl)) (fun _ _ _ h => h) (Or.inl ⟨by rfl, ?_⟩) ?_ ?_
                                rotate_left
                                · intro w'
                                  go_simp
                                  with_reducible rfl
                                rotate_left
                                · simp only [Act.put, List.setIfInBounds_toArray, List.set_cons_zero, List.set_cons_succ, i64_w, i32_w]
                                  rfl
                                refine done_ (done_of HT_.out (by kernel_rfl)) ?_
                                try go_wp2
                                go_meet
                                case rel => exact ⟨_, (decide (x322000_23 < ((rd_T39 x10_1 (ji33)).f0))), (by first | rfl | (simp; done) | (simp only [← hji33] <;> (first | rfl | simp)) | (simp [*]; done)), H', ⟨by have := HK1.out; have := HJ12.out; have := HJ23.out; first | omega | exact Nat.le_refl _⟩, ⟨by (try simp only [hl8_12]); (with_reducible repeat (first | apply Kd.R_alloc | apply Kd.R_drewN | apply Kd.R_drew)); exact HO_8.out⟩, ⟨by (try simp only [hl8_12]); (with_reducible repeat (first | apply Kd.R_alloc | apply Kd.R_drewN | apply Kd.R_drew)); exact HO_9.out⟩, ⟨by (try simp only [hl8_12]); (with_reducible repeat (first | apply Kd.R_alloc | apply Kd.R_drewN | apply Kd.R_drew)); exact HO_10.out⟩, ⟨by (try simp only [hl8_12]); (with_reducible repeat (first | refine blk_drewN ?_ _ | refine blk_drew ?_ | refine blk_alloc ?_ _)); exact BK321.out⟩, ⟨by repeat (first | (with_reducible first | exact HB.out | apply below_alloc | apply pw_below_drewN | apply below_drew1 | refine below_set ?_ GE321.out) | exact HB.out)⟩⟩
                              · rw [if_neg c35] at H
                                exact absurd H (by simp)
                            · rw [if_neg c34] at H
                              exact absurd H (by simp)
                          · rw [if_neg c32] at H
                            have c32b0 : decide (0 < (x10_1.length : Int)) = false := decide_eq_false c32
                            have c32b1 : decide (0 < x10_1.length) = false := decide_eq_false (by omega)
                            clear c32
                            (first | rw [c32b0] | (simp only [i64_w, i32_w]; rw [c32b0]) | skip)
                            have H' := Aside0.mk H
                            clear H
                            try go_wp2
                            have n0_ := Aside0.mk (Kd.R_drew HO_8.out)
                            have n1_ := Aside0.mk (Kd.R_drew HO_9.out)
                            have n2_ := Aside0.mk (Kd.R_drew HO_10.out)
                            have n3_ := Aside0.mk (blk_drew BK321.out)
                            have n4_ := Aside0.mk (below_drew1 HB.out)
                            clear HO_8
                            clear HO_9
                            clear HO_10
                            clear BK321
                            clear HB
                            have HO_8 := n0_
                            have HO_9 := n1_
                            have HO_10 := n2_
                            have BK321 := n3_
                            have HB := n4_
                            clear n0_ n1_ n2_ n3_ n4_
                            obtain ⟨Ao39, co39, eo39⟩ := Kd.R_slice HO_10.out
                            (first | subst eo39 | (injection eo39 with f1_ f2_ f3_; have f4_ := f1_.symm; have f5_ := f3_.symm; clear f1_ f2_ f3_; subst f4_; subst f5_))
                            refine start_ (n := 15) (S := fun w' => True) (ds := []) #[false, false, false, false, false, false, false, false, false, false, false, false, false, false, false] (by kernel_rfl) rfl rfl trivial (fun hHeld => ?_); refine with_tabW insolvencylaw25_statements.tab13 insolvencylaw25_statements.bits13 (fun HT_ HW_ => ?_)
                            generalize wc.drew = w38 at HO_8 HO_9 HO_10 BK321 HB hHeld ⊢
                            refine pure_ (i := 0) (N := some 67) (v := ?_) (a' := ?_) #[true, false, false, false, false, false, false, false, false, false, false, false, false, false, false] rfl rfl (any_of HT_.out (by kernel_rfl)) (fun _ _ _ h => h) (Or.inl ⟨by rfl, ?_⟩) ?_ ?_
                            rotate_left
                            · intro w'
                              go_simp
                              with_reducible rfl
                            rotate_left
                            · simp only [Act.put, List.setIfInBounds_toArray, List.set_cons_zero, List.set_cons_succ, i64_w, i32_w]
                              rfl
                            refine pure_ (i := 1) (N := some 68) (v := ?_) (a' := ?_) #[true, true, false, false, false, false, false, false, false, false, false, false, false, false, false] rfl rfl (any_of HT_.out (by kernel_rfl)) (fun _ _ _ h => h) (Or.inl ⟨by rfl, ?_⟩) ?_ ?_
                            rotate_left
                            · intro w'
                              go_simp
                              with_reducible rfl
                            rotate_left
                            · simp only [Act.put, List.setIfInBounds_toArray, List.set_cons_zero, List.set_cons_succ, i64_w, i32_w]
                              rfl
                            refine pure_ (i := 2) (N := some 69) (v := ?_) (a' := ?_) #[true, true, true, false, false, false, false, false, false, false, false, false, false, false, false] rfl rfl (any_of HT_.out (by kernel_rfl)) (fun _ _ _ h => h) (Or.inl ⟨by rfl, ?_⟩) ?_ ?_
                            rotate_left
                            · intro w'
                              go_simp
                              with_reducible rfl
                            rotate_left
                            · simp only [Act.put, List.setIfInBounds_toArray, List.set_cons_zero, List.set_cons_succ, i64_w, i32_w]
                              rfl
                            refine pure_ (i := 3) (N := some 70) (v := ?_) (a' := ?_) #[true, true, true, true, false, false, false, false, false, false, false, false, false, false, false] rfl rfl (any_of HT_.out (by kernel_rfl)) (fun _ _ _ h => h) (Or.inl ⟨by rfl, ?_⟩) ?_ ?_
                            rotate_left
                            · intro w'
                              go_simp
                              with_reducible rfl
                            rotate_left
                            · simp only [Act.put, List.setIfInBounds_toArray, List.set_cons_zero, List.set_cons_succ, i64_w, i32_w]
                              rfl
                            refine pure_ (i := 4) (N := some 71) (v := undef) (a' := ?_) #[true, true, true, true, true, false, false, false, false, false, false, false, false, false, false] rfl rfl (any_of HT_.out (by kernel_rfl)) (fun _ _ _ h => h) (Or.inr ⟨by rfl, rfl⟩) ?_ ?_
                            rotate_left
                            · simp only [Act.put, List.setIfInBounds_toArray, List.set_cons_zero, List.set_cons_succ, i64_w, i32_w]
                              rfl
                            refine pure_ (i := 5) (N := some 72) (v := undef) (a' := ?_) #[true, true, true, true, true, true, false, false, false, false, false, false, false, false, false] rfl rfl (any_of HT_.out (by kernel_rfl)) (fun _ _ _ h => h) (Or.inr ⟨by rfl, rfl⟩) ?_ ?_
                            rotate_left
                            · simp only [Act.put, List.setIfInBounds_toArray, List.set_cons_zero, List.set_cons_succ, i64_w, i32_w]
                              rfl
                            refine pure_ (i := 6) (N := some 73) (v := undef) (a' := ?_) #[true, true, true, true, true, true, true, false, false, false, false, false, false, false, false] rfl rfl (any_of HT_.out (by kernel_rfl)) (fun _ _ _ h => h) (Or.inr ⟨by rfl, rfl⟩) ?_ ?_
                            rotate_left
                            · simp only [Act.put, List.setIfInBounds_toArray, List.set_cons_zero, List.set_cons_succ, i64_w, i32_w]
                              rfl
                            refine pure_ (i := 7) (N := some 74) (v := undef) (a' := ?_) #[true, true, true, true, true, true, true, true, false, false, false, false, false, false, false] rfl rfl (any_of HT_.out (by kernel_rfl)) (fun _ _ _ h => h) (Or.inr ⟨by rfl, rfl⟩) ?_ ?_
                            rotate_left
                            · simp only [Act.put, List.setIfInBounds_toArray, List.set_cons_zero, List.set_cons_succ, i64_w, i32_w]
                              rfl
                            refine pure_ (i := 8) (N := some 75) (v := undef) (a' := ?_) #[true, true, true, true, true, true, true, true, true, false, false, false, false, false, false] rfl rfl (any_of HT_.out (by kernel_rfl)) (fun _ _ _ h => h) (Or.inr ⟨by rfl, rfl⟩) ?_ ?_
                            rotate_left
                            · simp only [Act.put, List.setIfInBounds_toArray, List.set_cons_zero, List.set_cons_succ, i64_w, i32_w]
                              rfl
                            refine pure_ (i := 9) (N := some 76) (v := undef) (a' := ?_) #[true, true, true, true, true, true, true, true, true, true, false, false, false, false, false] rfl rfl (any_of HT_.out (by kernel_rfl)) (fun _ _ _ h => h) (Or.inr ⟨by rfl, rfl⟩) ?_ ?_
                            rotate_left
                            · simp only [Act.put, List.setIfInBounds_toArray, List.set_cons_zero, List.set_cons_succ, i64_w, i32_w]
                              rfl
                            refine pure_ (i := 10) (N := some 77) (v := undef) (a' := ?_) #[true, true, true, true, true, true, true, true, true, true, true, false, false, false, false] rfl rfl (any_of HT_.out (by kernel_rfl)) (fun _ _ _ h => h) (Or.inr ⟨by rfl, rfl⟩) ?_ ?_
                            rotate_left
                            · simp only [Act.put, List.setIfInBounds_toArray, List.set_cons_zero, List.set_cons_succ, i64_w, i32_w]
                              rfl
                            refine pure_ (i := 11) (N := some 78) (v := undef) (a' := ?_) #[true, true, true, true, true, true, true, true, true, true, true, true, false, false, false] rfl rfl (any_of HT_.out (by kernel_rfl)) (fun _ _ _ h => h) (Or.inr ⟨by rfl, rfl⟩) ?_ ?_
                            rotate_left
                            · simp only [Act.put, List.setIfInBounds_toArray, List.set_cons_zero, List.set_cons_succ, i64_w, i32_w]
                              rfl
                            refine pure_ (i := 12) (N := some 79) (v := undef) (a' := ?_) #[true, true, true, true, true, true, true, true, true, true, true, true, true, false, false] rfl rfl (any_of HT_.out (by kernel_rfl)) (fun _ _ _ h => h) (Or.inr ⟨by rfl, rfl⟩) ?_ ?_
                            rotate_left
                            · simp only [Act.put, List.setIfInBounds_toArray, List.set_cons_zero, List.set_cons_succ, i64_w, i32_w]
                              rfl
                            refine pure_ (i := 13) (N := some 80) (v := undef) (a' := ?_) #[true, true, true, true, true, true, true, true, true, true, true, true, true, true, false] rfl rfl (any_of HT_.out (by kernel_rfl)) (fun _ _ _ h => h) (Or.inr ⟨by rfl, rfl⟩) ?_ ?_
                            rotate_left
                            · simp only [Act.put, List.setIfInBounds_toArray, List.set_cons_zero, List.set_cons_succ, i64_w, i32_w]
                              rfl
                            refine pure_ (i := 14) (N := some 81) (v := ?_) (a' := ?_) #[true, true, true, true, true, true, true, true, true, true, true, true, true, true, true] rfl rfl (any_of HT_.out (by kernel_rfl)) (fun _ _ _ h => h) (Or.inl ⟨by rfl, ?_⟩) ?_ ?_
                            rotate_left
                            · intro w'
                              go_simp
                              with_reducible rfl
                            rotate_left
                            · simp only [Act.put, List.setIfInBounds_toArray, List.set_cons_zero, List.set_cons_succ, i64_w, i32_w]
                              rfl
                            refine done_ (done_of HT_.out (by kernel_rfl)) ?_
                            try go_wp2
                            go_meet
                            case rel => exact ⟨_, (false), (by first | rfl | (simp; done) | (simp [*]; done)), H', ⟨by have := HK1.out; have := HJ12.out; have := HJ23.out; first | omega | exact Nat.le_refl _⟩, ⟨by (try simp only [hl8_12]); (with_reducible repeat (first | apply Kd.R_alloc | apply Kd.R_drewN | apply Kd.R_drew)); exact HO_8.out⟩, ⟨by (try simp only [hl8_12]); (with_reducible repeat (first | apply Kd.R_alloc | apply Kd.R_drewN | apply Kd.R_drew)); exact HO_9.out⟩, ⟨by (try simp only [hl8_12]); (with_reducible repeat (first | apply Kd.R_alloc | apply Kd.R_drewN | apply Kd.R_drew)); exact HO_10.out⟩, ⟨by (try simp only [hl8_12]); (with_reducible repeat (first | refine blk_drewN ?_ _ | refine blk_drew ?_ | refine blk_alloc ?_ _)); exact BK321.out⟩, ⟨by repeat (first | (with_reducible first | exact HB.out | apply below_alloc | apply pw_below_drewN | apply below_drew1 | refine below_set ?_ GE321.out) | exact HB.out)⟩⟩
                        case rest =>
                          clear HC31
                          try clear c1
                          try clear hx1
                          try clear c2
                          try clear p2
                          try clear c3
                          try clear p3
                          try clear q3
                          try clear hx3
                          try clear c6
                          try clear c6b0
                          try clear p6
                          try clear c7
                          try clear c7b0
                          try clear c8
                          try clear p8
                          try clear q8
                          try clear hx8
                          try clear hf8
                          try clear c9
                          try clear p9
                          try clear q9
                          try clear hx9
                          try clear hf9
                          try clear c11
                          try clear c11b0
                          try clear c11b1
                          try clear c14
                          try clear c15
                          try clear hx15
                          try clear hf15
                          try clear c17
                          try clear hx17
                          try clear hf17
                          try clear c19
                          try clear c19b0
                          try clear c19b1
                          try clear c20
                          try clear c22
                          try clear c22b0
                          try clear c23
                          try clear c23b0
                          try clear c27
                          try clear c27b0
                          try clear c28
                          try clear p31
                          try clear q31
                          try clear hx31
                          try clear c32
                          try clear c32b0
                          try clear c32b1
                          try clear p32
                          try clear q32
                          try clear hx32
                          try clear c34
                          try clear c34b0
                          try clear c35
                          try clear c35b0
                          try clear hcz26_0
                          try clear hcz26_1
                          try clear hcz26_2
                          try clear hcz26_3
                          try clear hcz26_4
                          try clear hcz26_5
                          try clear hfz26_0
                          try clear hfz26_1
                          try clear hfz26_2
                          try clear hfz26_3
                          try clear hfz26_4
                          try clear hfz26_5
                          try clear hx15_4
                          try clear hx17_5
                          try clear hx313_0
                          try clear hx313_1
                          try clear hx313_2
                          try clear hx313_3
                          try clear hx313_4
                          try clear hx313_5
                          try clear hx316_0
                          try clear hx316_1
                          try clear hx316_2
                          try clear hx316_3
                          try clear hx316_4
                          try clear hx316_5
                          try clear hx320_0
                          try clear hx320_1
                          try clear hx320_2
                          try clear hx320_3
                          try clear hx320_4
                          try clear hx320_5
                          try clear hx322_0
                          try clear hx323_0
                          try clear hx323_1
                          try clear hx323_2
                          try clear hx323_3
                          try clear hx323_4
                          try clear hx323_5
                          try clear hx8_0
                          try clear hx8_1
                          try clear hx8_2
                          try clear hx8_3
                          try clear hx8_4
                          try clear hx8_5
                          try clear hx9_0
                          try clear hx9_1
                          try clear hx9_2
                          try clear hx9_3
                          try clear hx9_4
                          try clear hx9_5
                          try clear p2
                          try clear p3
                          try clear p313
                          try clear p316
                          try clear p320
                          try clear p322
                          try clear p323
                          try clear p6
                          try clear p8
                          try clear p9
                          try clear q3
                          try clear q313
                          try clear q316
                          try clear q320
                          try clear q322
                          try clear q323
                          try clear q8
                          try clear q9
                          obtain ⟨kq, x81_30, rfl, HA, HJ30, HO_8, HO_9, HO_10, BK321, HB⟩ := hcut
                          cases kq with
                          | zero => exact absurd HA.out (by simp [insolvencylaw25_statements.j3])
                          | succ kj30 =>
                            have H := HA.out
                            clear HA
                            simp only [insolvencylaw25_statements.j3] at H
                            by_cases c40 : x81_30 = true
                            · subst c40
                              have H1 : (if 0 ≤ (wrap64 ((x10_1.length : Int) - 1)) then (if (wrap64 ((x10_1.length : Int) - 1)) < (x10_1.length : Int) then (if (Int.tmod x11_1 5) = 4 then (insolvencylaw25_statements.l0 kj30 a1 l2 y315 x9_12 x10_1 (wrap64 (x11_1 + 1))) else (if x10_1.length < 2932031007402 then (insolvencylaw25_statements.l0 kj30 a1 l2 y315 x9_12 (x10_1 ++ [(⟨(rd_T39 x10_1 (wrap64 ((x10_1.length : Int) - 1))).f0, ((rd_T39 y315 x11_1).f1), ((rd_T39 y315 x11_1).f2), ((rd_T39 y315 x11_1).f3), ((rd_T39 y315 x11_1).f4), ((rd_T39 y315 x11_1).f5)⟩ : S39)]) (wrap64 (x11_1 + 1))) else (none))) else (none)) else (none)) = some (r1, r2) := by rw [if_pos rfl] at H; exact H
                              clear H
                              have H := H1
                              clear H1
                              obtain ⟨ji41, hji41⟩ : ∃ j_ : Int, (wrap64 ((x10_1.length : Int) - 1)) = j_ := ⟨_, rfl⟩
                              replace H : (if 0 ≤ (ji41) then (if (ji41) < (x10_1.length : Int) then (if (Int.tmod x11_1 5) = 4 then (insolvencylaw25_statements.l0 kj30 a1 l2 y315 x9_12 x10_1 (wrap64 (x11_1 + 1))) else (if x10_1.length < 2932031007402 then (insolvencylaw25_statements.l0 kj30 a1 l2 y315 x9_12 (x10_1 ++ [(⟨(rd_T39 x10_1 (ji41)).f0, ((rd_T39 y315 x11_1).f1), ((rd_T39 y315 x11_1).f2), ((rd_T39 y315 x11_1).f3), ((rd_T39 y315 x11_1).f4), ((rd_T39 y315 x11_1).f5)⟩ : S39)]) (wrap64 (x11_1 + 1))) else (none))) else (none)) else (none)) = some (r1, r2) := by first | (rw [hji41] at H; exact H) | (simp only [hji41] at H ⊢; exact H)
                              have hji41w : (IntKind.i64.wrap ((x10_1.length : Int) - 1)) = ji41 := (i64_w _).trans hji41
                              by_cases c42 : 0 ≤ (ji41)
                              · rw [if_pos c42] at H
                                have c42b0 : decide (0 ≤ (ji41)) = true := decide_eq_true c42
                                clear c42
                                by_cases c43 : (ji41) < (x10_1.length : Int)
                                · rw [if_pos c43] at H
                                  have c43b0 : decide ((ji41) < (x10_1.length : Int)) = true := decide_eq_true c43
                                  clear c43
                                  by_cases c44 : (Int.tmod x11_1 5) = 4
                                  · rw [if_pos c44] at H
                                    have c44b0 : ((Int.tmod x11_1 5) == 4) = true := beq_iff_eq.mpr c44
                                    have c44b1 : ((Int.tmod x11_1 5) != 4) = false := bne_eq_false_iff_eq.mpr c44
                                    clear c44
                                    have H' := Aside0.mk H
                                    clear H
                                    obtain ⟨Ao45, co45, eo45⟩ := Kd.R_slice HO_10.out
                                    subst eo45
                                    have p324 : 0 ≤ ((ji41) : Int) := of_decide_eq_true (by first | (with_reducible assumption) | assumption)
                                    have q324 : (ji41) < (x10_1.length : Int) := of_decide_eq_true (by first | (with_reducible assumption) | assumption)
                                    obtain ⟨ad324, e324, hx324_0, hx324_1, hx324_2, hx324_3, hx324_4, hx324_5⟩ := at_T39 (Kd.R_reads' HO_10.out).2.2 (ji41) p324 q324
                                    cases e324
                                    replace p324 := eq_true p324
                                    replace q324 := eq_true q324
                                    have hcz46_0 : wc.cell? ⟨gb321, 0, none⟩ = some (.int .i64 x322000_23) := (blk_cell BK321.out 0).trans rfl
                                    have hcz46_1 : wc.cell? ⟨gb321, 1, none⟩ = some (.int .i64 ((rd_T39 y315 x11_1).f1)) := (blk_cell BK321.out 1).trans rfl
                                    have hcz46_2 : wc.cell? ⟨gb321, 2, none⟩ = some (.int .i64 ((rd_T39 y315 x11_1).f2)) := (blk_cell BK321.out 2).trans rfl
                                    have hcz46_3 : wc.cell? ⟨gb321, 3, none⟩ = some (.int .i64 ((rd_T39 y315 x11_1).f3)) := (blk_cell BK321.out 3).trans rfl
                                    have hcz46_4 : wc.cell? ⟨gb321, 4, none⟩ = some (.int .i64 ((rd_T39 y315 x11_1).f4)) := (blk_cell BK321.out 4).trans rfl
                                    have hcz46_5 : wc.cell? ⟨gb321, 5, none⟩ = some (.int .i64 ((rd_T39 y315 x11_1).f5)) := (blk_cell BK321.out 5).trans rfl
                                    have hfz46_0 := blk_frozen BK321.out 0
                                    have hfz46_1 := blk_frozen BK321.out 1
                                    have hfz46_2 := blk_frozen BK321.out 2
                                    have hfz46_3 := blk_frozen BK321.out 3
                                    have hfz46_4 := blk_frozen BK321.out 4
                                    have hfz46_5 := blk_frozen BK321.out 5
                                    go_wp2
                                    (try simp only [← hl8_12])
                                    go_roundg kj30
                                    case measure => have := HK1.out; have := HJ12.out; have := HJ23.out; have := HJ30.out; omega
                                    case rel => exact ⟨(y315), (x9_12), (x10_1), (wrap64 (x11_1 + 1)), (by first | rfl | (simp; done) | (simp [*]; done)), H', ⟨by have := HK1.out; have := HJ12.out; have := HJ23.out; have := HJ30.out; omega⟩, ⟨by (try simp only [hl8_12]); (with_reducible repeat (first | apply Kd.R_alloc | apply Kd.R_drewN | apply Kd.R_drew)); exact Kd.R_mono (Kd.R_far (p := ⟨gb321, 0, none⟩) (Kd.R_mono HO_8.out (fun k_ hk => (⟨hk, hk.2.2⟩ : _ ∧ k_ ≠ gb321))) (fun _ hk => hk.2) (.int .i64 ((rd_T39 x10_1 (ji41)).f0))) (fun _ hk => ⟨hk.1.1, hk.1.2.1⟩)⟩, ⟨by (try simp only [hl8_12]); (with_reducible repeat (first | apply Kd.R_alloc | apply Kd.R_drewN | apply Kd.R_drew)); exact Kd.R_mono (Kd.R_far (p := ⟨gb321, 0, none⟩) (Kd.R_mono HO_9.out (fun k_ hk => (⟨hk, hk.2.2⟩ : _ ∧ k_ ≠ gb321))) (fun _ hk => hk.2) (.int .i64 ((rd_T39 x10_1 (ji41)).f0))) (fun _ hk => ⟨hk.1.1, hk.1.2.1⟩)⟩, ⟨by (try simp only [hl8_12]); (with_reducible repeat (first | apply Kd.R_alloc | apply Kd.R_drewN | apply Kd.R_drew)); exact Kd.R_mono (Kd.R_far (p := ⟨gb321, 0, none⟩) (Kd.R_mono HO_10.out (fun k_ hk => (⟨hk, hk.2.2⟩ : _ ∧ k_ ≠ gb321))) (fun _ hk => hk.2) (.int .i64 ((rd_T39 x10_1 (ji41)).f0))) (fun _ hk => ⟨hk.1.1, hk.1.2.1⟩)⟩, ⟨by repeat (first | (with_reducible first | exact HB.out | apply below_alloc | apply pw_below_drewN | apply below_drew1 | refine below_set ?_ GE321.out) | exact HB.out)⟩⟩
                                  · rw [if_neg c44] at H
                                    have c44b0 : ((Int.tmod x11_1 5) == 4) = false := beq_eq_false_iff_ne.mpr c44
                                    have c44b1 : ((Int.tmod x11_1 5) != 4) = true := bne_iff_ne.mpr c44
                                    by_cases c47 : x10_1.length < 2932031007402
                                    · rw [if_pos c47] at H
                                      have LMc47 := Aside0.mk c47
                                      clear c47
                                      obtain ⟨y325, hy325⟩ : ∃ y_ : List (S39), y_ = (x10_1 ++ [(⟨(rd_T39 x10_1 (ji41)).f0, ((rd_T39 y315 x11_1).f1), ((rd_T39 y315 x11_1).f2), ((rd_T39 y315 x11_1).f3), ((rd_T39 y315 x11_1).f4), ((rd_T39 y315 x11_1).f5)⟩ : S39)]) := ⟨_, rfl⟩
                                      replace H : (insolvencylaw25_statements.l0 kj30 a1 l2 y315 x9_12 y325 (wrap64 (x11_1 + 1))) = some (r1, r2) := by first | (rw [hy325]; with_reducible exact H) | (have H2_ := (Option.bind_some _ _).symm.trans H; rw [hy325]; with_reducible exact H2_) | (have H2_ := (Option.bind_some _ _).symm.trans H; with_reducible exact H2_) | with_reducible exact H | (rw [hy325]; exact H) | exact H
                                      have Ny325 := Aside0.mk hy325
                                      clear hy325
                                      have H' := Aside0.mk H
                                      clear H
                                      obtain ⟨Ao48, co48, eo48⟩ := Kd.R_slice HO_10.out
                                      subst eo48
                                      have p324 : 0 ≤ ((ji41) : Int) := of_decide_eq_true (by first | (with_reducible assumption) | assumption)
                                      have q324 : (ji41) < (x10_1.length : Int) := of_decide_eq_true (by first | (with_reducible assumption) | assumption)
                                      obtain ⟨ad324, e324, hx324_0, hx324_1, hx324_2, hx324_3, hx324_4, hx324_5⟩ := at_T39 (Kd.R_reads' HO_10.out).2.2 (ji41) p324 q324
                                      cases e324
                                      replace p324 := eq_true p324
                                      replace q324 := eq_true q324
                                      have hcz49_0 : wc.cell? ⟨gb321, 0, none⟩ = some (.int .i64 x322000_23) := (blk_cell BK321.out 0).trans rfl
                                      have hcz49_1 : wc.cell? ⟨gb321, 1, none⟩ = some (.int .i64 ((rd_T39 y315 x11_1).f1)) := (blk_cell BK321.out 1).trans rfl
                                      have hcz49_2 : wc.cell? ⟨gb321, 2, none⟩ = some (.int .i64 ((rd_T39 y315 x11_1).f2)) := (blk_cell BK321.out 2).trans rfl
                                      have hcz49_3 : wc.cell? ⟨gb321, 3, none⟩ = some (.int .i64 ((rd_T39 y315 x11_1).f3)) := (blk_cell BK321.out 3).trans rfl
                                      have hcz49_4 : wc.cell? ⟨gb321, 4, none⟩ = some (.int .i64 ((rd_T39 y315 x11_1).f4)) := (blk_cell BK321.out 4).trans rfl
                                      have hcz49_5 : wc.cell? ⟨gb321, 5, none⟩ = some (.int .i64 ((rd_T39 y315 x11_1).f5)) := (blk_cell BK321.out 5).trans rfl
                                      have hfz49_0 := blk_frozen BK321.out 0
                                      have hfz49_1 := blk_frozen BK321.out 1
                                      have hfz49_2 := blk_frozen BK321.out 2
                                      have hfz49_3 := blk_frozen BK321.out 3
                                      have hfz49_4 := blk_frozen BK321.out 4
                                      have hfz49_5 := blk_frozen BK321.out 5
                                      go_wp2_with (first | ((with_reducible refine gate_builtin (b := .append) (xs := #[.tmp 93, .tmp 95]) rfl ?_); (try (refine gate_guard (by rfl) ?_; dsimp only)); at_builtin; refine Kd.R_append k39 (w0 := w) w.heap.size rfl (.tmp 93) (.tmp 95) 22 39 (.agg #[(.int .i64 0), (.int .i64 0), (.int .i64 0), (.int .i64 0), (.int .i64 0), (.int .i64 0)]) 48 rfl Tryd.underlying22 info39 rfl (by decide) (by omega) (.slice (some ad324) x10_1.length co48) x10_1 (⟨(rd_T39 x10_1 (ji41)).f0, ((rd_T39 y315 x11_1).f1), ((rd_T39 y315 x11_1).f2), ((rd_T39 y315 x11_1).f3), ((rd_T39 y315 x11_1).f4), ((rd_T39 y315 x11_1).f5)⟩ : S39) [.int .i64 ((rd_T39 x10_1 (ji41)).f0), .int .i64 ((rd_T39 y315 x11_1).f1), .int .i64 ((rd_T39 y315 x11_1).f2), .int .i64 ((rd_T39 y315 x11_1).f3), .int .i64 ((rd_T39 y315 x11_1).f4), .int .i64 ((rd_T39 y315 x11_1).f5)] (fun k_ => some k_ ≠ (.slice (some ⟨go8, 0, none⟩) y315.length co14 : Value).ownBlock ∧ some k_ ≠ (u9 : Value).ownBlock ∧ k_ ≠ gb321) (fun _ => False) rfl (by first | (go_simp; done) | (go_simp; rfl)) ?aP (fun _ hk => hk.elim) ?aF ?aO ?aB ?aS ?aL ?_; (case aP => exact k39_mkM _ _ _ (⟨(rd_T39 x10_1 (ji41)).f0, ((rd_T39 y315 x11_1).f1), ((rd_T39 y315 x11_1).f2), ((rd_T39 y315 x11_1).f3), ((rd_T39 y315 x11_1).f4), ((rd_T39 y315 x11_1).f5)⟩ : S39)); (case aB => exact (by repeat (first | (with_reducible first | exact HB.out | apply below_alloc | apply pw_below_drewN | apply below_drew1 | refine below_set ?_ GE321.out) | exact HB.out))); (case aF => exact (fun k_ hk => ⟨Kd.fresh' (Kd.R_lt (by (with_reducible repeat (first | apply Kd.R_alloc | apply Kd.R_drewN | apply Kd.R_drew)); exact (Kd.R_mono (Kd.R_far (p := ⟨gb321, 0, none⟩) (Kd.R_mono HO_8.out (fun k_ hk => (⟨hk, hk.2.2⟩ : _ ∧ k_ ≠ gb321))) (fun _ hk => hk.2) (.int .i64 ((rd_T39 x10_1 (ji41)).f0))) (fun _ h_ => h_.1)))) k_ hk, Kd.fresh' (Kd.R_lt (by (with_reducible repeat (first | apply Kd.R_alloc | apply Kd.R_drewN | apply Kd.R_drew)); exact (Kd.R_mono (Kd.R_far (p := ⟨gb321, 0, none⟩) (Kd.R_mono HO_9.out (fun k_ hk => (⟨hk, hk.2.2⟩ : _ ∧ k_ ≠ gb321))) (fun _ hk => hk.2) (.int .i64 ((rd_T39 x10_1 (ji41)).f0))) (fun _ h_ => h_.1)))) k_ hk, Kd.freshB (g := gb321) (o := .cells #[.int .i64 ((rd_T39 x10_1 (ji41)).f0), .int .i64 ((rd_T39 y315 x11_1).f1), .int .i64 ((rd_T39 y315 x11_1).f2), .int .i64 ((rd_T39 y315 x11_1).f3), .int .i64 ((rd_T39 y315 x11_1).f4), .int .i64 ((rd_T39 y315 x11_1).f5)] 39 (0, 0)) (by (with_reducible repeat (first | refine blk_drewN ?_ _ | refine blk_drew ?_ | refine blk_alloc ?_ _)); refine blk_put (cs := #[.int .i64 x322000_23, .int .i64 ((rd_T39 y315 x11_1).f1), .int .i64 ((rd_T39 y315 x11_1).f2), .int .i64 ((rd_T39 y315 x11_1).f3), .int .i64 ((rd_T39 y315 x11_1).f4), .int .i64 ((rd_T39 y315 x11_1).f5)]) ?_ 0 _ rfl; (with_reducible repeat (first | refine blk_drewN ?_ _ | refine blk_drew ?_ | refine blk_alloc ?_ _)); exact BK321.out) k_ hk⟩)); (case aO => exact (by (with_reducible repeat (first | apply Kd.R_alloc | apply Kd.R_drewN | apply Kd.R_drew)); exact Kd.R_mono (Kd.R_far (p := ⟨gb321, 0, none⟩) (Kd.R_mono HO_10.out (fun k_ hk => (⟨hk, hk.2.2⟩ : _ ∧ k_ ≠ gb321))) (fun _ hk => hk.2) (.int .i64 ((rd_T39 x10_1 (ji41)).f0))) (fun _ hk => ⟨hk.1.1, ⟨hk.1.2.1, hk.1.2.2⟩⟩))); (case aS => exact (below_size (by repeat (first | (with_reducible first | exact HB.out | apply below_alloc | apply pw_below_drewN | apply below_drew1 | refine below_set ?_ GE321.out) | exact HB.out)))); (case aL => have := LMc47.out; omega); intro v326 w50 ho hb hg hat; rw [← Ny325.out] at ho; have n0_ := Aside0.mk (Kd.R_after (ok := (fun k_ => some k_ ≠ (u9 : Value).ownBlock ∧ k_ ≠ gb321)) (by (with_reducible repeat (first | apply Kd.R_alloc | apply Kd.R_drewN | apply Kd.R_drew)); exact Kd.R_mono (Kd.R_far (p := ⟨gb321, 0, none⟩) (Kd.R_mono HO_8.out (fun k_ hk => (⟨hk, hk.2.2⟩ : _ ∧ k_ ≠ gb321))) (fun _ hk => hk.2) (.int .i64 ((rd_T39 x10_1 (ji41)).f0))) (fun _ hk => ⟨⟨hk.1.1, hk.1.2.2⟩, hk.1.2.1⟩)) hg hat); have n1_ := Aside0.mk (Kd.R_after (ok := (fun k_ => some k_ ≠ (.slice (some ⟨go8, 0, none⟩) y315.length co14 : Value).ownBlock ∧ k_ ≠ gb321)) (by (with_reducible repeat (first | apply Kd.R_alloc | apply Kd.R_drewN | apply Kd.R_drew)); exact Kd.R_mono (Kd.R_far (p := ⟨gb321, 0, none⟩) (Kd.R_mono HO_9.out (fun k_ hk => (⟨hk, hk.2.2⟩ : _ ∧ k_ ≠ gb321))) (fun _ hk => hk.2) (.int .i64 ((rd_T39 x10_1 (ji41)).f0))) (fun _ hk => ⟨⟨hk.1.1, hk.1.2.2⟩, hk.1.2.1⟩)) hg hat); have n2_ := Aside0.mk (blk_grown (g := gb321) (o := .cells #[.int .i64 ((rd_T39 x10_1 (ji41)).f0), .int .i64 ((rd_T39 y315 x11_1).f1), .int .i64 ((rd_T39 y315 x11_1).f2), .int .i64 ((rd_T39 y315 x11_1).f3), .int .i64 ((rd_T39 y315 x11_1).f4), .int .i64 ((rd_T39 y315 x11_1).f5)] 39 (0, 0)) (by (with_reducible repeat (first | refine blk_drewN ?_ _ | refine blk_drew ?_ | refine blk_alloc ?_ _)); refine blk_put (cs := #[.int .i64 x322000_23, .int .i64 ((rd_T39 y315 x11_1).f1), .int .i64 ((rd_T39 y315 x11_1).f2), .int .i64 ((rd_T39 y315 x11_1).f3), .int .i64 ((rd_T39 y315 x11_1).f4), .int .i64 ((rd_T39 y315 x11_1).f5)]) ?_ 0 _ rfl; (with_reducible repeat (first | refine blk_drewN ?_ _ | refine blk_drew ?_ | refine blk_alloc ?_ _)); exact BK321.out) hg (Kd.R_away HO_10.out (fun _ hk => hk.2.2))); have n3_ := Aside0.mk (hb); have n4_ := Aside0.mk (ho); clear HO_8; clear HO_9; clear BK321; clear HB; clear HO_10; have HO_8 := n0_; have HO_9 := n1_; have BK321 := n2_; have HB := n3_; have HO327 := n4_; clear n0_ n1_ n2_ n3_ n4_; clear ho hb hg hat))
                                      (try simp only [← hl8_12])
                                      go_roundg kj30
                                      case measure => have := HK1.out; have := HJ12.out; have := HJ23.out; have := HJ30.out; omega
                                      case rel => exact ⟨(y315), (x9_12), (y325), (wrap64 (x11_1 + 1)), (by first | rfl | (simp; done) | (simp [*]; done)), H', ⟨by have := HK1.out; have := HJ12.out; have := HJ23.out; have := HJ30.out; omega⟩, ⟨by (try simp only [hl8_12]); (with_reducible repeat (first | apply Kd.R_alloc | apply Kd.R_drewN | apply Kd.R_drew)); exact Kd.R_mono HO_8.out (fun _ hk => ⟨hk.1.1, hk.2⟩)⟩, ⟨by (try simp only [hl8_12]); (with_reducible repeat (first | apply Kd.R_alloc | apply Kd.R_drewN | apply Kd.R_drew)); exact Kd.R_mono HO_9.out (fun _ hk => ⟨hk.1.1, hk.2⟩)⟩, ⟨by (try simp only [hl8_12]); (with_reducible repeat (first | apply Kd.R_alloc | apply Kd.R_drewN | apply Kd.R_drew)); exact Kd.R_mono HO327.out (fun _ hk => ⟨hk.1, hk.2.1⟩)⟩, ⟨by repeat (first | (with_reducible first | exact HB.out | apply below_alloc | apply pw_below_drewN | apply below_drew1 | refine below_set ?_ GE321.out) | exact HB.out)⟩⟩
                                    · rw [if_neg c47] at H
                                      exact absurd H (by simp)
                                · rw [if_neg c43] at H
                                  exact absurd H (by simp)
                              · rw [if_neg c42] at H
                                exact absurd H (by simp)
                            · replace c40 := Bool.eq_false_iff.mpr c40
                              subst c40
                              have H1 : (if (Int.tmod x11_1 5) = 4 then (insolvencylaw25_statements.l0 kj30 a1 l2 y315 x9_12 x10_1 (wrap64 (x11_1 + 1))) else (if x10_1.length < 2932031007402 then (insolvencylaw25_statements.l0 kj30 a1 l2 y315 x9_12 (x10_1 ++ [(⟨x322000_23, ((rd_T39 y315 x11_1).f1), ((rd_T39 y315 x11_1).f2), ((rd_T39 y315 x11_1).f3), ((rd_T39 y315 x11_1).f4), ((rd_T39 y315 x11_1).f5)⟩ : S39)]) (wrap64 (x11_1 + 1))) else (none))) = some (r1, r2) := by rw [if_neg (show ¬ (false = true) by decide)] at H; exact H
                              clear H
                              have H := H1
                              clear H1
                              by_cases c51 : (Int.tmod x11_1 5) = 4
                              · rw [if_pos c51] at H
                                have c51b0 : ((Int.tmod x11_1 5) == 4) = true := beq_iff_eq.mpr c51
                                have c51b1 : ((Int.tmod x11_1 5) != 4) = false := bne_eq_false_iff_eq.mpr c51
                                clear c51
                                have H' := Aside0.mk H
                                clear H
                                go_wp2
                                (try simp only [← hl8_12])
                                go_roundg kj30
                                case measure => have := HK1.out; have := HJ12.out; have := HJ23.out; have := HJ30.out; omega
                                case rel => exact ⟨(y315), (x9_12), (x10_1), (wrap64 (x11_1 + 1)), (by first | rfl | (simp; done) | (simp [*]; done)), H', ⟨by have := HK1.out; have := HJ12.out; have := HJ23.out; have := HJ30.out; omega⟩, ⟨by (try simp only [hl8_12]); (with_reducible repeat (first | apply Kd.R_alloc | apply Kd.R_drewN | apply Kd.R_drew)); exact Kd.R_mono HO_8.out (fun _ hk => ⟨hk.1, hk.2.1⟩)⟩, ⟨by (try simp only [hl8_12]); (with_reducible repeat (first | apply Kd.R_alloc | apply Kd.R_drewN | apply Kd.R_drew)); exact Kd.R_mono HO_9.out (fun _ hk => ⟨hk.1, hk.2.1⟩)⟩, ⟨by (try simp only [hl8_12]); (with_reducible repeat (first | apply Kd.R_alloc | apply Kd.R_drewN | apply Kd.R_drew)); exact Kd.R_mono HO_10.out (fun _ hk => ⟨hk.1, hk.2.1⟩)⟩, ⟨by repeat (first | (with_reducible first | exact HB.out | apply below_alloc | apply pw_below_drewN | apply below_drew1 | refine below_set ?_ GE321.out) | exact HB.out)⟩⟩
                              · rw [if_neg c51] at H
                                have c51b0 : ((Int.tmod x11_1 5) == 4) = false := beq_eq_false_iff_ne.mpr c51
                                have c51b1 : ((Int.tmod x11_1 5) != 4) = true := bne_iff_ne.mpr c51
                                by_cases c52 : x10_1.length < 2932031007402
                                · rw [if_pos c52] at H
                                  have LMc52 := Aside0.mk c52
                                  clear c52
                                  obtain ⟨y328, hy328⟩ : ∃ y_ : List (S39), y_ = (x10_1 ++ [(⟨x322000_23, ((rd_T39 y315 x11_1).f1), ((rd_T39 y315 x11_1).f2), ((rd_T39 y315 x11_1).f3), ((rd_T39 y315 x11_1).f4), ((rd_T39 y315 x11_1).f5)⟩ : S39)]) := ⟨_, rfl⟩
                                  replace H : (insolvencylaw25_statements.l0 kj30 a1 l2 y315 x9_12 y328 (wrap64 (x11_1 + 1))) = some (r1, r2) := by first | (rw [hy328]; with_reducible exact H) | (have H2_ := (Option.bind_some _ _).symm.trans H; rw [hy328]; with_reducible exact H2_) | (have H2_ := (Option.bind_some _ _).symm.trans H; with_reducible exact H2_) | with_reducible exact H | (rw [hy328]; exact H) | exact H
                                  have Ny328 := Aside0.mk hy328
                                  clear hy328
                                  have H' := Aside0.mk H
                                  clear H
                                  have hcz53_0 : wc.cell? ⟨gb321, 0, none⟩ = some (.int .i64 x322000_23) := (blk_cell BK321.out 0).trans rfl
                                  have hcz53_1 : wc.cell? ⟨gb321, 1, none⟩ = some (.int .i64 ((rd_T39 y315 x11_1).f1)) := (blk_cell BK321.out 1).trans rfl
                                  have hcz53_2 : wc.cell? ⟨gb321, 2, none⟩ = some (.int .i64 ((rd_T39 y315 x11_1).f2)) := (blk_cell BK321.out 2).trans rfl
                                  have hcz53_3 : wc.cell? ⟨gb321, 3, none⟩ = some (.int .i64 ((rd_T39 y315 x11_1).f3)) := (blk_cell BK321.out 3).trans rfl
                                  have hcz53_4 : wc.cell? ⟨gb321, 4, none⟩ = some (.int .i64 ((rd_T39 y315 x11_1).f4)) := (blk_cell BK321.out 4).trans rfl
                                  have hcz53_5 : wc.cell? ⟨gb321, 5, none⟩ = some (.int .i64 ((rd_T39 y315 x11_1).f5)) := (blk_cell BK321.out 5).trans rfl
                                  have hfz53_0 := blk_frozen BK321.out 0
                                  have hfz53_1 := blk_frozen BK321.out 1
                                  have hfz53_2 := blk_frozen BK321.out 2
                                  have hfz53_3 := blk_frozen BK321.out 3
                                  have hfz53_4 := blk_frozen BK321.out 4
                                  have hfz53_5 := blk_frozen BK321.out 5
                                  go_wp2_with (first | ((with_reducible refine gate_builtin (b := .append) (xs := #[.tmp 93, .tmp 95]) rfl ?_); (try (refine gate_guard (by rfl) ?_; dsimp only)); at_builtin; refine Kd.R_append k39 (w0 := w) w.heap.size rfl (.tmp 93) (.tmp 95) 22 39 (.agg #[(.int .i64 0), (.int .i64 0), (.int .i64 0), (.int .i64 0), (.int .i64 0), (.int .i64 0)]) 48 rfl Tryd.underlying22 info39 rfl (by decide) (by omega) u10 x10_1 (⟨x322000_23, ((rd_T39 y315 x11_1).f1), ((rd_T39 y315 x11_1).f2), ((rd_T39 y315 x11_1).f3), ((rd_T39 y315 x11_1).f4), ((rd_T39 y315 x11_1).f5)⟩ : S39) [.int .i64 x322000_23, .int .i64 ((rd_T39 y315 x11_1).f1), .int .i64 ((rd_T39 y315 x11_1).f2), .int .i64 ((rd_T39 y315 x11_1).f3), .int .i64 ((rd_T39 y315 x11_1).f4), .int .i64 ((rd_T39 y315 x11_1).f5)] (fun k_ => some k_ ≠ (.slice (some ⟨go8, 0, none⟩) y315.length co14 : Value).ownBlock ∧ some k_ ≠ (u9 : Value).ownBlock ∧ k_ ≠ gb321) (fun _ => False) rfl rfl ?aP (fun _ hk => hk.elim) ?aF ?aO ?aB ?aS ?aL ?_; (case aP => exact k39_mkM _ _ _ (⟨x322000_23, ((rd_T39 y315 x11_1).f1), ((rd_T39 y315 x11_1).f2), ((rd_T39 y315 x11_1).f3), ((rd_T39 y315 x11_1).f4), ((rd_T39 y315 x11_1).f5)⟩ : S39)); (case aB => exact (by repeat (first | (with_reducible first | exact HB.out | apply below_alloc | apply pw_below_drewN | apply below_drew1 | refine below_set ?_ GE321.out) | exact HB.out))); (case aF => exact (fun k_ hk => ⟨Kd.fresh' (Kd.R_lt (by (with_reducible repeat (first | apply Kd.R_alloc | apply Kd.R_drewN | apply Kd.R_drew)); exact HO_8.out)) k_ hk, Kd.fresh' (Kd.R_lt (by (with_reducible repeat (first | apply Kd.R_alloc | apply Kd.R_drewN | apply Kd.R_drew)); exact HO_9.out)) k_ hk, Kd.freshB (g := gb321) (o := .cells #[.int .i64 x322000_23, .int .i64 ((rd_T39 y315 x11_1).f1), .int .i64 ((rd_T39 y315 x11_1).f2), .int .i64 ((rd_T39 y315 x11_1).f3), .int .i64 ((rd_T39 y315 x11_1).f4), .int .i64 ((rd_T39 y315 x11_1).f5)] 39 (0, 0)) (by (with_reducible repeat (first | refine blk_drewN ?_ _ | refine blk_drew ?_ | refine blk_alloc ?_ _)); exact BK321.out) k_ hk⟩)); (case aO => exact (by (with_reducible repeat (first | apply Kd.R_alloc | apply Kd.R_drewN | apply Kd.R_drew)); exact HO_10.out)); (case aS => exact (below_size (by repeat (first | (with_reducible first | exact HB.out | apply below_alloc | apply pw_below_drewN | apply below_drew1 | refine below_set ?_ GE321.out) | exact HB.out)))); (case aL => have := LMc52.out; omega); intro v329 w54 ho hb hg hat; rw [← Ny328.out] at ho; have n0_ := Aside0.mk (Kd.R_after (ok := (fun k_ => some k_ ≠ (u9 : Value).ownBlock ∧ k_ ≠ gb321)) (by (with_reducible repeat (first | apply Kd.R_alloc | apply Kd.R_drewN | apply Kd.R_drew)); exact Kd.R_mono HO_8.out (fun _ hk => ⟨⟨hk.1, hk.2.2⟩, hk.2.1⟩)) hg hat); have n1_ := Aside0.mk (Kd.R_after (ok := (fun k_ => some k_ ≠ (.slice (some ⟨go8, 0, none⟩) y315.length co14 : Value).ownBlock ∧ k_ ≠ gb321)) (by (with_reducible repeat (first | apply Kd.R_alloc | apply Kd.R_drewN | apply Kd.R_drew)); exact Kd.R_mono HO_9.out (fun _ hk => ⟨⟨hk.1, hk.2.2⟩, hk.2.1⟩)) hg hat); have n2_ := Aside0.mk (blk_grown (g := gb321) (o := .cells #[.int .i64 x322000_23, .int .i64 ((rd_T39 y315 x11_1).f1), .int .i64 ((rd_T39 y315 x11_1).f2), .int .i64 ((rd_T39 y315 x11_1).f3), .int .i64 ((rd_T39 y315 x11_1).f4), .int .i64 ((rd_T39 y315 x11_1).f5)] 39 (0, 0)) (by (with_reducible repeat (first | refine blk_drewN ?_ _ | refine blk_drew ?_ | refine blk_alloc ?_ _)); exact BK321.out) hg (Kd.R_away HO_10.out (fun _ hk => hk.2.2))); have n3_ := Aside0.mk (hb); have n4_ := Aside0.mk (ho); clear HO_8; clear HO_9; clear BK321; clear HB; clear HO_10; have HO_8 := n0_; have HO_9 := n1_; have BK321 := n2_; have HB := n3_; have HO330 := n4_; clear n0_ n1_ n2_ n3_ n4_; clear ho hb hg hat))
                                  (try simp only [← hl8_12])
                                  go_roundg kj30
                                  case measure => have := HK1.out; have := HJ12.out; have := HJ23.out; have := HJ30.out; omega
                                  case rel => exact ⟨(y315), (x9_12), (y328), (wrap64 (x11_1 + 1)), (by first | rfl | (simp; done) | (simp [*]; done)), H', ⟨by have := HK1.out; have := HJ12.out; have := HJ23.out; have := HJ30.out; omega⟩, ⟨by (try simp only [hl8_12]); (with_reducible repeat (first | apply Kd.R_alloc | apply Kd.R_drewN | apply Kd.R_drew)); exact Kd.R_mono HO_8.out (fun _ hk => ⟨hk.1.1, hk.2⟩)⟩, ⟨by (try simp only [hl8_12]); (with_reducible repeat (first | apply Kd.R_alloc | apply Kd.R_drewN | apply Kd.R_drew)); exact Kd.R_mono HO_9.out (fun _ hk => ⟨hk.1.1, hk.2⟩)⟩, ⟨by (try simp only [hl8_12]); (with_reducible repeat (first | apply Kd.R_alloc | apply Kd.R_drewN | apply Kd.R_drew)); exact Kd.R_mono HO330.out (fun _ hk => ⟨hk.1, hk.2.1⟩)⟩, ⟨by repeat (first | (with_reducible first | exact HB.out | apply below_alloc | apply pw_below_drewN | apply below_drew1 | refine below_set ?_ GE321.out) | exact HB.out)⟩⟩
                                · rw [if_neg c52] at H
                                  exact absurd H (by simp)
                  · rw [if_neg c23] at H
                    exact absurd H (by simp)
                · rw [if_neg c22] at H
                  exact absurd H (by simp)
          · rw [if_neg c11] at H
            exact absurd H (by simp)
        · rw [if_neg c7] at H
          exact absurd H (by simp)
      · rw [if_neg c6] at H
        have c6b0 : decide (x11_1 < (x8_1.length : Int)) = false := decide_eq_false c6
        clear c6
        simp only [Option.some.injEq, Prod.mk.injEq] at H
        obtain ⟨rfl, rfl⟩ := H
        obtain ⟨Ao55, co55, eo55⟩ := Kd.R_slice HO_8.out
        subst eo55
        go_wp2
        go_ret2
        exact ⟨_, _, by first | rfl | (simp [errW_none, errW_some] <;> rfl) | (simp [*, errW_none, errW_some] <;> rfl), by (with_reducible repeat (first | apply Kd.R_alloc | apply Kd.R_drewN | apply Kd.R_drew)); exact Kd.R_mono HO_9.out (fun _ hk => hk.2), by (with_reducible repeat (first | apply Kd.R_alloc | apply Kd.R_drewN | apply Kd.R_drew)); exact Kd.R_mono HO_10.out (fun _ hk => hk.2), by repeat (first | (with_reducible first | exact HB.out | apply below_alloc | apply pw_below_drewN | apply below_drew1) | exact HB.out)⟩

end Go.Proofs.YtcehmgmhlmbhnaaDoor.Pr
