-- Written by a program of this session (wip/tools/drive.py over the kit's print.py) out of the translation.
import Derived.Test.YtcehmgmhlmbhnaaDoorPr0
import Derived.Test.YtcehmgmhlmbhnaaDoorPr35
import Derived.Test.YtcehmgmhlmbhnaaDoorPr36
namespace Go.Proofs.YtcehmgmhlmbhnaaDoor.Pr
open Go.RowKit Go.Proofs.YtcehmgmhlmbhnaaDoorW.PrintWords Go.Proofs.YtcehmgmhlmbhnaaDoorW.PrintLast Go.Proofs.YtcehmgmhlmbhnaaDoorW.PrintMore
attribute [local go_sem] max2_int min2_int max_two min_two max_three min_three max_four min_four   -- for this text's walks alone
set_option linter.unusedVariables false
set_option linter.unusedSimpArgs false

/-! ### history_Match: function 29 -/
mutual
def history_Match.j0 : Nat → List (S39) → List (S39) → Int → Bool → Option ((List (S62)) × Int)
  | 0, _, _, _, _ => none
  | k + 1, x0, x1, x2, x21 => if x21 = true then (some (([] : List (S62)), 2)) else ((history_days.f k x0).bind fun t337 => (if t337 = true then ((history_days.f k x1).bind fun t338 => (if t338 = true then (if x2 < 0 then (history_Match.j1 k x0 x1 x2 true) else (history_Match.j1 k x0 x1 x2 (decide (x2 > 1048576)))) else (history_Match.j1 k x0 x1 x2 true))) else (history_Match.j1 k x0 x1 x2 true)))
def history_Match.j1 : Nat → List (S39) → List (S39) → Int → Bool → Option ((List (S62)) × Int)
  | 0, _, _, _, _ => none
  | k + 1, x0, x1, x2, x37 => if x37 = true then (some (([] : List (S62)), 1)) else ((history_ordered.f k x0).bind fun t339 => (if t339 = 0 then ((history_ordered.f k x1).bind fun t340 => (history_Match.j2 k x0 x1 x2 (t340 != 0))) else (history_Match.j2 k x0 x1 x2 true)))
def history_Match.j2 : Nat → List (S39) → List (S39) → Int → Bool → Option ((List (S62)) × Int)
  | 0, _, _, _, _ => none
  | k + 1, x0, x1, x2, x45 => if x45 = true then (some (([] : List (S62)), 15)) else (if 0 ≤ (x1.length : Int) then (if ((x1.length : Int) : Int).toNat ≤ 281474976710656 then (history_Match.l0 k x1 x2 (List.replicate ((x1.length : Int) : Int).toNat false) ([] : List (S62)) x0 (x0.length : Int) 0) else (none)) else (none))
def history_Match.l0 : Nat → List (S39) → Int → List Bool → List (S62) → List (S39) → Int → Int → Option ((List (S62)) × Int)
  | 0, _, _, _, _, _, _, _ => none
  | k + 1, x1, x2, x8, x9, x49, x50, x51 => if x51 < x50 then (if 0 ≤ x51 then (if x51 < (x49.length : Int) then (history_Match.l1 k x1 x2 x8 x9 x51 x49 x50 x51 x1 (x1.length : Int) 0 ((rd_T39 x49 x51).f0) ((rd_T39 x49 x51).f1) ((rd_T39 x49 x51).f2) ((rd_T39 x49 x51).f3) ((rd_T39 x49 x51).f4) ((rd_T39 x49 x51).f5)) else (none)) else (none)) else (some (x9, 0))
def history_Match.l1 : Nat → List (S39) → Int → List Bool → List (S62) → Int → List (S39) → Int → Int → List (S39) → Int → Int → Int → Int → Int → Int → Int → Int → Option ((List (S62)) × Int)
  | 0, _, _, _, _, _, _, _, _, _, _, _, _, _, _, _, _, _ => none
  | k + 1, x1, x2, x8, x9, x10, x49, x50, x51, x56, x57, x58, x346000, x346001, x346002, x346003, x346004, x346005 => if x58 < x57 then (if 0 ≤ x58 then (if x58 < (x56.length : Int) then (if x58 < (x8.length : Int) then (if rdOf false x8 x58 = true then (history_Match.l1 k x1 x2 x8 x9 x10 x49 x50 x51 x56 x57 (wrap64 (x58 + 1)) x346000 x346001 x346002 x346003 x346004 x346005) else ((history_correspond.f x346000 x346001 x346002 x346003 x346004 x346005 ((rd_T39 x56 x58).f0) ((rd_T39 x56 x58).f1) ((rd_T39 x56 x58).f2) ((rd_T39 x56 x58).f3) ((rd_T39 x56 x58).f4) ((rd_T39 x56 x58).f5) x2).bind fun t349 => (if t349 = true then (if x9.length < 8796093022208 then (history_Match.l0 k x1 x2 (x8.set (x58 : Int).toNat true) (x9 ++ [(⟨x10, x58⟩ : S62)]) x49 x50 (wrap64 (x51 + 1))) else (none)) else (history_Match.l1 k x1 x2 x8 x9 x10 x49 x50 x51 x56 x57 (wrap64 (x58 + 1)) x346000 x346001 x346002 x346003 x346004 x346005)))) else (none)) else (none)) else (none)) else (history_Match.l0 k x1 x2 x8 x9 x49 x50 (wrap64 (x51 + 1)))
end
def history_Match.f (k : Nat) (l0 : List (S39)) (l1 : List (S39)) (a2 : Int) : Option ((List (S62)) × Int) := if (l0.length : Int) > 256 then (history_Match.j0 k l0 l1 a2 true) else (history_Match.j0 k l0 l1 a2 (decide ((l1.length : Int) > 256)))
theorem history_Match.mono_l : ∀ k, (∀ y0 y1 y2 y3, LeO (history_Match.j0 k y0 y1 y2 y3) (history_Match.j0 (k + 1) y0 y1 y2 y3)) ∧ (∀ y0 y1 y2 y3, LeO (history_Match.j1 k y0 y1 y2 y3) (history_Match.j1 (k + 1) y0 y1 y2 y3)) ∧ (∀ y0 y1 y2 y3, LeO (history_Match.j2 k y0 y1 y2 y3) (history_Match.j2 (k + 1) y0 y1 y2 y3)) ∧ (∀ y0 y1 y2 y3 y4 y5 y6, LeO (history_Match.l0 k y0 y1 y2 y3 y4 y5 y6) (history_Match.l0 (k + 1) y0 y1 y2 y3 y4 y5 y6)) ∧ (∀ y0 y1 y2 y3 y4 y5 y6 y7 y8 y9 y10 y11 y12 y13 y14 y15 y16, LeO (history_Match.l1 k y0 y1 y2 y3 y4 y5 y6 y7 y8 y9 y10 y11 y12 y13 y14 y15 y16) (history_Match.l1 (k + 1) y0 y1 y2 y3 y4 y5 y6 y7 y8 y9 y10 y11 y12 y13 y14 y15 y16))
  | 0 => ⟨fun _ _ _ _ r h => by simp [history_Match.j0] at h, fun _ _ _ _ r h => by simp [history_Match.j1] at h, fun _ _ _ _ r h => by simp [history_Match.j2] at h, fun _ _ _ _ _ _ _ r h => by simp [history_Match.l0] at h, fun _ _ _ _ _ _ _ _ _ _ _ _ _ _ _ _ _ r h => by simp [history_Match.l1] at h⟩
  | k + 1 => by
    obtain ⟨ih0, ih1, ih2, ih3, ih4⟩ := history_Match.mono_l k
    refine ⟨?_, ?_, ?_, ?_, ?_⟩
    · intro y0 y1 y2 y3
      unfold history_Match.j0
      repeat' first
      | (with_reducible exact ih0 _ _ _ _)
      | (with_reducible exact ih1 _ _ _ _)
      | (with_reducible exact ih2 _ _ _ _)
      | (with_reducible exact ih3 _ _ _ _ _ _ _)
      | (with_reducible exact ih4 _ _ _ _ _ _ _ _ _ _ _ _ _ _ _ _ _)
      | (with_reducible exact history_days.mono _ _)
      | (with_reducible exact history_ordered.mono _ _)
      | (with_reducible exact LeO.refl _)
      | (with_reducible exact LeO.none _)
      | (with_reducible refine LeO.ite ?_ ?_)
      | (with_reducible refine LeO.bind ?_ (fun _ => ?_))
      | exact ih0 _ _ _ _
      | exact ih1 _ _ _ _
      | exact ih2 _ _ _ _
      | exact ih3 _ _ _ _ _ _ _
      | exact ih4 _ _ _ _ _ _ _ _ _ _ _ _ _ _ _ _ _
      | exact history_days.mono _ _
      | exact history_ordered.mono _ _
      | exact LeO.none _
      | refine LeO.ite ?_ ?_
      | refine LeO.bind ?_ (fun _ => ?_)
    · intro y0 y1 y2 y3
      unfold history_Match.j1
      repeat' first
      | (with_reducible exact ih0 _ _ _ _)
      | (with_reducible exact ih1 _ _ _ _)
      | (with_reducible exact ih2 _ _ _ _)
      | (with_reducible exact ih3 _ _ _ _ _ _ _)
      | (with_reducible exact ih4 _ _ _ _ _ _ _ _ _ _ _ _ _ _ _ _ _)
      | (with_reducible exact history_days.mono _ _)
      | (with_reducible exact history_ordered.mono _ _)
      | (with_reducible exact LeO.refl _)
      | (with_reducible exact LeO.none _)
      | (with_reducible refine LeO.ite ?_ ?_)
      | (with_reducible refine LeO.bind ?_ (fun _ => ?_))
      | exact ih0 _ _ _ _
      | exact ih1 _ _ _ _
      | exact ih2 _ _ _ _
      | exact ih3 _ _ _ _ _ _ _
      | exact ih4 _ _ _ _ _ _ _ _ _ _ _ _ _ _ _ _ _
      | exact history_days.mono _ _
      | exact history_ordered.mono _ _
      | exact LeO.none _
      | refine LeO.ite ?_ ?_
      | refine LeO.bind ?_ (fun _ => ?_)
    · intro y0 y1 y2 y3
      unfold history_Match.j2
      repeat' first
      | (with_reducible exact ih0 _ _ _ _)
      | (with_reducible exact ih1 _ _ _ _)
      | (with_reducible exact ih2 _ _ _ _)
      | (with_reducible exact ih3 _ _ _ _ _ _ _)
      | (with_reducible exact ih4 _ _ _ _ _ _ _ _ _ _ _ _ _ _ _ _ _)
      | (with_reducible exact history_days.mono _ _)
      | (with_reducible exact history_ordered.mono _ _)
      | (with_reducible exact LeO.refl _)
      | (with_reducible exact LeO.none _)
      | (with_reducible refine LeO.ite ?_ ?_)
      | (with_reducible refine LeO.bind ?_ (fun _ => ?_))
      | exact ih0 _ _ _ _
      | exact ih1 _ _ _ _
      | exact ih2 _ _ _ _
      | exact ih3 _ _ _ _ _ _ _
      | exact ih4 _ _ _ _ _ _ _ _ _ _ _ _ _ _ _ _ _
      | exact history_days.mono _ _
      | exact history_ordered.mono _ _
      | exact LeO.none _
      | refine LeO.ite ?_ ?_
      | refine LeO.bind ?_ (fun _ => ?_)
    · intro y0 y1 y2 y3 y4 y5 y6
      unfold history_Match.l0
      repeat' first
      | (with_reducible exact ih0 _ _ _ _)
      | (with_reducible exact ih1 _ _ _ _)
      | (with_reducible exact ih2 _ _ _ _)
      | (with_reducible exact ih3 _ _ _ _ _ _ _)
      | (with_reducible exact ih4 _ _ _ _ _ _ _ _ _ _ _ _ _ _ _ _ _)
      | (with_reducible exact history_days.mono _ _)
      | (with_reducible exact history_ordered.mono _ _)
      | (with_reducible exact LeO.refl _)
      | (with_reducible exact LeO.none _)
      | (with_reducible refine LeO.ite ?_ ?_)
      | (with_reducible refine LeO.bind ?_ (fun _ => ?_))
      | exact ih0 _ _ _ _
      | exact ih1 _ _ _ _
      | exact ih2 _ _ _ _
      | exact ih3 _ _ _ _ _ _ _
      | exact ih4 _ _ _ _ _ _ _ _ _ _ _ _ _ _ _ _ _
      | exact history_days.mono _ _
      | exact history_ordered.mono _ _
      | exact LeO.none _
      | refine LeO.ite ?_ ?_
      | refine LeO.bind ?_ (fun _ => ?_)
    · intro y0 y1 y2 y3 y4 y5 y6 y7 y8 y9 y10 y11 y12 y13 y14 y15 y16
      unfold history_Match.l1
      repeat' first
      | (with_reducible exact ih0 _ _ _ _)
      | (with_reducible exact ih1 _ _ _ _)
      | (with_reducible exact ih2 _ _ _ _)
      | (with_reducible exact ih3 _ _ _ _ _ _ _)
      | (with_reducible exact ih4 _ _ _ _ _ _ _ _ _ _ _ _ _ _ _ _ _)
      | (with_reducible exact history_days.mono _ _)
      | (with_reducible exact history_ordered.mono _ _)
      | (with_reducible exact LeO.refl _)
      | (with_reducible exact LeO.none _)
      | (with_reducible refine LeO.ite ?_ ?_)
      | (with_reducible refine LeO.bind ?_ (fun _ => ?_))
      | exact ih0 _ _ _ _
      | exact ih1 _ _ _ _
      | exact ih2 _ _ _ _
      | exact ih3 _ _ _ _ _ _ _
      | exact ih4 _ _ _ _ _ _ _ _ _ _ _ _ _ _ _ _ _
      | exact history_days.mono _ _
      | exact history_ordered.mono _ _
      | exact LeO.none _
      | refine LeO.ite ?_ ?_
      | refine LeO.bind ?_ (fun _ => ?_)
theorem history_Match.mono : ∀ a0 a1 a2 k, LeO (history_Match.f k a0 a1 a2) (history_Match.f (k + 1) a0 a1 a2) := by
  intro a0 a1 a2 k
  obtain ⟨ih0, ih1, ih2, ih3, ih4⟩ := history_Match.mono_l k
  unfold history_Match.f
  repeat' first
      | (with_reducible exact ih0 _ _ _ _)
      | (with_reducible exact ih1 _ _ _ _)
      | (with_reducible exact ih2 _ _ _ _)
      | (with_reducible exact ih3 _ _ _ _ _ _ _)
      | (with_reducible exact ih4 _ _ _ _ _ _ _ _ _ _ _ _ _ _ _ _ _)
      | (with_reducible exact history_days.mono _ _)
      | (with_reducible exact history_ordered.mono _ _)
      | (with_reducible exact LeO.refl _)
      | (with_reducible exact LeO.none _)
      | (with_reducible refine LeO.ite ?_ ?_)
      | (with_reducible refine LeO.bind ?_ (fun _ => ?_))
      | exact ih0 _ _ _ _
      | exact ih1 _ _ _ _
      | exact ih2 _ _ _ _
      | exact ih3 _ _ _ _ _ _ _
      | exact ih4 _ _ _ _ _ _ _ _ _ _ _ _ _ _ _ _ _
      | exact history_days.mono _ _
      | exact history_ordered.mono _ _
      | exact LeO.none _
      | refine LeO.ite ?_ ?_
      | refine LeO.bind ?_ (fun _ => ?_)
set_option maxHeartbeats 8000000 in
set_option maxRecDepth 100000 in
theorem history_Match.calls (k : Nat) (A0 : Option Addr) (c0 : Nat) (l0 : List (S39)) (A1 : Option Addr) (c1 : Nat) (l1 : List (S39)) (a2 : Int) (r1 : List (S62)) (r2 : Int) (w : World) (hr0 : Kd.C k39 w A0 l0.length l0) (hc0 : l0.length ≤ c0) (hr1 : Kd.C k39 w A1 l1.length l1) (hc1 : l1.length ≤ c1) (h : history_Match.f k l0 l1 a2 = some (r1, r2)) :
    Calls Tryd.prog 29 #[.slice A0 l0.length c0, .slice A1 l1.length c1, .int .i64 a2] w fun e w' => ∃ v0_ : Value, e = .returned (.tuple #[v0_, .int .i64 r2]) ∧ Kd.R k62 62 w' w.heap.size (fun _ => True) v0_ r1 ∧ Below w.heap.size w w' := by
  have hu39 := Tryd.underlying39
  have hu62 := Tryd.underlying62
  have HR0 := Aside0.mk hr0
  have HC0 := Aside0.mk hc0
  clear hr0 hc0
  have HR1 := Aside0.mk hr1
  have HC1 := Aside0.mk hc1
  clear hr1 hc1
  have HB := Aside0.mk (Below.refl w.heap.size w)
  have H : (if (l0.length : Int) > 256 then (history_Match.j0 k l0 l1 a2 true) else (history_Match.j0 k l0 l1 a2 (decide ((l1.length : Int) > 256)))) = some (r1, r2) := h
  clear h
  have HC4 := Aside0.mk H
  clear H
  go_enter Tryd.func29, Tryd.ntmps29
  go_upto_region 1 with (fail)
  go_cut [21] (fun v21 wc => ∃ (kq : Nat) (x21_3 : Bool), v21 = .bool x21_3 ∧ Aside0 (history_Match.j0 kq l0 l1 a2 x21_3 = some (r1, r2)) ∧ Aside0 (kq ≤ k) ∧ Aside0 (Below w.heap.size w wc))
  case first =>
    have H := HC4.out
    clear HC4
    by_cases c5 : (l0.length : Int) > 256
    · rw [if_pos c5] at H
      have c5b0 : decide (256 < (l0.length : Int)) = true := decide_eq_true c5
      have c5b1 : decide (256 < l0.length) = true := decide_eq_true (by omega)
      clear c5
      (first | rw [c5b0] | (simp only [i64_w, i32_w]; rw [c5b0]) | skip)
      have H' := Aside0.mk H
      clear H
      go_wp2
      go_meet
      case rel => exact ⟨_, (true), (by first | rfl | (simp; done) | (simp [*]; done)), H', ⟨by first | omega | exact Nat.le_refl _⟩, ⟨by repeat (first | (with_reducible first | exact HB.out | apply below_alloc | apply pw_below_drewN | apply below_drew1) | exact HB.out)⟩⟩
    · rw [if_neg c5] at H
      have c5b0 : decide (256 < (l0.length : Int)) = false := decide_eq_false c5
      have c5b1 : decide (256 < l0.length) = false := decide_eq_false (by omega)
      clear c5
      (first | rw [c5b0] | (simp only [i64_w, i32_w]; rw [c5b0]) | skip)
      have H' := Aside0.mk H
      clear H
      go_wp2
      go_meet
      case rel => exact ⟨_, (decide ((l1.length : Int) > 256)), (by first | rfl | (simp; done) | (simp [*]; done)), H', ⟨by first | omega | exact Nat.le_refl _⟩, ⟨by repeat (first | (with_reducible first | exact HB.out | apply below_alloc | apply pw_below_drewN | apply below_drew1) | exact HB.out)⟩⟩
  case rest =>
    clear HC4
    try clear c1
    try clear c2
    try clear p2
    try clear c5
    try clear c5b0
    try clear c5b1
    obtain ⟨kq, x21_3, rfl, HA, HJ3, HB⟩ := hcut
    cases kq with
    | zero => exact absurd HA.out (by simp [history_Match.j0])
    | succ kj3 =>
      have H := HA.out
      clear HA
      simp only [history_Match.j0] at H
      by_cases c6 : x21_3 = true
      · subst c6
        have H1 : (some (([] : List (S62)), 2)) = some (r1, r2) := by rw [if_pos rfl] at H; exact H
        clear H
        have H := H1
        clear H1
        simp only [Option.some.injEq, Prod.mk.injEq] at H
        obtain ⟨rfl, rfl⟩ := H
        go_wp2
        go_ret2
        exact ⟨_, by first | rfl | (simp [errW_none, errW_some] <;> rfl) | (simp [*, errW_none, errW_some] <;> rfl), by first | exact Kd.R_nil _ _ _ _ _ | exact Kd.N_nil _ _ _ _ _ | exact Kd.V_nil _ _ _ _ _ | exact Kd.Q_nil _ _ _ _ _ | exact Kd.S_nil _ _ _ _ _, by repeat (first | (with_reducible first | exact HB.out | apply below_alloc | apply pw_below_drewN | apply below_drew1) | exact HB.out)⟩
      · replace c6 := Bool.eq_false_iff.mpr c6
        subst c6
        have H1 : ((history_days.f kj3 l0).bind fun t337 => (if t337 = true then ((history_days.f kj3 l1).bind fun t338 => (if t338 = true then (if a2 < 0 then (history_Match.j1 kj3 l0 l1 a2 true) else (history_Match.j1 kj3 l0 l1 a2 (decide (a2 > 1048576)))) else (history_Match.j1 kj3 l0 l1 a2 true))) else (history_Match.j1 kj3 l0 l1 a2 true))) = some (r1, r2) := by rw [if_neg (show ¬ (false = true) by decide)] at H; exact H
        clear H
        have H := H1
        clear H1
        have HC7 := Aside0.mk H
        clear H
        go_upto_region 3 with (fail)
        go_cut [37] (fun v37 wc => ∃ (kq : Nat) (x37_6 : Bool), v37 = .bool x37_6 ∧ Aside0 (history_Match.j1 kq l0 l1 a2 x37_6 = some (r1, r2)) ∧ Aside0 (kq ≤ kj3) ∧ Aside0 (Below w.heap.size w wc))
        case first =>
          have H := HC7.out
          clear HC7
          replace H := Option.bind_eq_some_iff.mp H
          obtain ⟨t337, A80, H⟩ := H
          replace H : (if t337 = true then ((history_days.f kj3 l1).bind fun t338 => (if t338 = true then (if a2 < 0 then (history_Match.j1 kj3 l0 l1 a2 true) else (history_Match.j1 kj3 l0 l1 a2 (decide (a2 > 1048576)))) else (history_Match.j1 kj3 l0 l1 a2 true))) else (history_Match.j1 kj3 l0 l1 a2 true)) = some (r1, r2) := H
          have A8 := Aside0.mk A80
          clear A80
          by_cases c9 : t337 = true
          · subst c9
            have H1 : ((history_days.f kj3 l1).bind fun t338 => (if t338 = true then (if a2 < 0 then (history_Match.j1 kj3 l0 l1 a2 true) else (history_Match.j1 kj3 l0 l1 a2 (decide (a2 > 1048576)))) else (history_Match.j1 kj3 l0 l1 a2 true))) = some (r1, r2) := by rw [if_pos rfl] at H; exact H
            clear H
            have H := H1
            clear H1
            replace H := Option.bind_eq_some_iff.mp H
            obtain ⟨t338, A100, H⟩ := H
            replace H : (if t338 = true then (if a2 < 0 then (history_Match.j1 kj3 l0 l1 a2 true) else (history_Match.j1 kj3 l0 l1 a2 (decide (a2 > 1048576)))) else (history_Match.j1 kj3 l0 l1 a2 true)) = some (r1, r2) := H
            have A10 := Aside0.mk A100
            clear A100
            by_cases c11 : t338 = true
            · subst c11
              have H1 : (if a2 < 0 then (history_Match.j1 kj3 l0 l1 a2 true) else (history_Match.j1 kj3 l0 l1 a2 (decide (a2 > 1048576)))) = some (r1, r2) := by rw [if_pos rfl] at H; exact H
              clear H
              have H := H1
              clear H1
              by_cases c12 : a2 < 0
              · rw [if_pos c12] at H
                have c12b0 : decide (a2 < 0) = true := decide_eq_true c12
                clear c12
                (first | rw [c12b0] | (simp only [i64_w, i32_w]; rw [c12b0]) | skip)
                have H' := Aside0.mk H
                clear H
                go_wp2_with (first | ((with_reducible refine gate_callee (f := 45) rfl ?_); refine goesL_ (some 23) rfl rfl Tryd.func45 (by kernel_rfl) rfl #[.slice A0 l0.length c0] rfl (by (try simp only [List.map_toArray, List.map_cons, List.map_nil]); first | done | rfl | (simp only [List.length_drop, List.length_take]; rfl)) ?_; (with_reducible refine (history_days.calls kj3 _ _ l0 true _ ?side1 ?side2 A8.out).mono ?_); (case side1 => repeat (first | exact (Kd.C_below HR0.out HB.out) | (with_reducible refine Kd.C_alloc ?_ _) | (with_reducible refine Kd.C_drewN ?_ _) | (with_reducible refine Kd.C_drew ?_))); (case side2 => exact HC0.out); rintro e w13 ⟨rfl, hb⟩; refine ⟨_, rfl, ?_⟩; have n0_ := Aside0.mk (below_step (by repeat (first | (with_reducible first | exact HB.out | apply below_alloc | apply pw_below_drewN | apply below_drew1) | exact HB.out)) hb); clear HB; have HB := n0_; clear n0_; (try clear hb); (try clear hb2); (try clear hk); (try clear hi)) | (go_at_call 45; (with_reducible refine (history_days.calls kj3 _ _ l1 true _ ?side1 ?side2 A10.out).mono ?_); (case side1 => repeat (first | exact (Kd.C_below HR1.out HB.out) | (with_reducible refine Kd.C_alloc ?_ _) | (with_reducible refine Kd.C_drewN ?_ _) | (with_reducible refine Kd.C_drew ?_))); (case side2 => exact HC1.out); rintro e w14 ⟨rfl, hb⟩; have n0_ := Aside0.mk (below_step (by repeat (first | (with_reducible first | exact HB.out | apply below_alloc | apply pw_below_drewN | apply below_drew1) | exact HB.out)) hb); clear HB; have HB := n0_; clear n0_; (try clear hb); (try clear hb2); (try clear hk); (try clear hi)))
                go_meet
                case rel => exact ⟨_, (true), (by first | rfl | (simp; done) | (simp [*]; done)), H', ⟨by have := HJ3.out; first | omega | exact Nat.le_refl _⟩, ⟨by repeat (first | (with_reducible first | exact HB.out | apply below_alloc | apply pw_below_drewN | apply below_drew1) | exact HB.out)⟩⟩
              · rw [if_neg c12] at H
                have c12b0 : decide (a2 < 0) = false := decide_eq_false c12
                clear c12
                (first | rw [c12b0] | (simp only [i64_w, i32_w]; rw [c12b0]) | skip)
                have H' := Aside0.mk H
                clear H
                go_wp2_with (first | ((with_reducible refine gate_callee (f := 45) rfl ?_); refine goesL_ (some 23) rfl rfl Tryd.func45 (by kernel_rfl) rfl #[.slice A0 l0.length c0] rfl (by (try simp only [List.map_toArray, List.map_cons, List.map_nil]); first | done | rfl | (simp only [List.length_drop, List.length_take]; rfl)) ?_; (with_reducible refine (history_days.calls kj3 _ _ l0 true _ ?side1 ?side2 A8.out).mono ?_); (case side1 => repeat (first | exact (Kd.C_below HR0.out HB.out) | (with_reducible refine Kd.C_alloc ?_ _) | (with_reducible refine Kd.C_drewN ?_ _) | (with_reducible refine Kd.C_drew ?_))); (case side2 => exact HC0.out); rintro e w15 ⟨rfl, hb⟩; refine ⟨_, rfl, ?_⟩; have n0_ := Aside0.mk (below_step (by repeat (first | (with_reducible first | exact HB.out | apply below_alloc | apply pw_below_drewN | apply below_drew1) | exact HB.out)) hb); clear HB; have HB := n0_; clear n0_; (try clear hb); (try clear hb2); (try clear hk); (try clear hi)) | (go_at_call 45; (with_reducible refine (history_days.calls kj3 _ _ l1 true _ ?side1 ?side2 A10.out).mono ?_); (case side1 => repeat (first | exact (Kd.C_below HR1.out HB.out) | (with_reducible refine Kd.C_alloc ?_ _) | (with_reducible refine Kd.C_drewN ?_ _) | (with_reducible refine Kd.C_drew ?_))); (case side2 => exact HC1.out); rintro e w16 ⟨rfl, hb⟩; have n0_ := Aside0.mk (below_step (by repeat (first | (with_reducible first | exact HB.out | apply below_alloc | apply pw_below_drewN | apply below_drew1) | exact HB.out)) hb); clear HB; have HB := n0_; clear n0_; (try clear hb); (try clear hb2); (try clear hk); (try clear hi)))
                go_meet
                case rel => exact ⟨_, (decide (a2 > 1048576)), (by first | rfl | (simp; done) | (simp [*]; done)), H', ⟨by have := HJ3.out; first | omega | exact Nat.le_refl _⟩, ⟨by repeat (first | (with_reducible first | exact HB.out | apply below_alloc | apply pw_below_drewN | apply below_drew1) | exact HB.out)⟩⟩
            · replace c11 := Bool.eq_false_iff.mpr c11
              subst c11
              have H1 : (history_Match.j1 kj3 l0 l1 a2 true) = some (r1, r2) := by rw [if_neg (show ¬ (false = true) by decide)] at H; exact H
              clear H
              have H := H1
              clear H1
              have H' := Aside0.mk H
              clear H
              go_wp2_with (first | ((with_reducible refine gate_callee (f := 45) rfl ?_); refine goesL_ (some 23) rfl rfl Tryd.func45 (by kernel_rfl) rfl #[.slice A0 l0.length c0] rfl (by (try simp only [List.map_toArray, List.map_cons, List.map_nil]); first | done | rfl | (simp only [List.length_drop, List.length_take]; rfl)) ?_; (with_reducible refine (history_days.calls kj3 _ _ l0 true _ ?side1 ?side2 A8.out).mono ?_); (case side1 => repeat (first | exact (Kd.C_below HR0.out HB.out) | (with_reducible refine Kd.C_alloc ?_ _) | (with_reducible refine Kd.C_drewN ?_ _) | (with_reducible refine Kd.C_drew ?_))); (case side2 => exact HC0.out); rintro e w17 ⟨rfl, hb⟩; refine ⟨_, rfl, ?_⟩; have n0_ := Aside0.mk (below_step (by repeat (first | (with_reducible first | exact HB.out | apply below_alloc | apply pw_below_drewN | apply below_drew1) | exact HB.out)) hb); clear HB; have HB := n0_; clear n0_; (try clear hb); (try clear hb2); (try clear hk); (try clear hi)) | (go_at_call 45; (with_reducible refine (history_days.calls kj3 _ _ l1 false _ ?side1 ?side2 A10.out).mono ?_); (case side1 => repeat (first | exact (Kd.C_below HR1.out HB.out) | (with_reducible refine Kd.C_alloc ?_ _) | (with_reducible refine Kd.C_drewN ?_ _) | (with_reducible refine Kd.C_drew ?_))); (case side2 => exact HC1.out); rintro e w18 ⟨rfl, hb⟩; have n0_ := Aside0.mk (below_step (by repeat (first | (with_reducible first | exact HB.out | apply below_alloc | apply pw_below_drewN | apply below_drew1) | exact HB.out)) hb); clear HB; have HB := n0_; clear n0_; (try clear hb); (try clear hb2); (try clear hk); (try clear hi)))
              go_meet
              case rel => exact ⟨_, (true), (by first | rfl | (simp; done) | (simp [*]; done)), H', ⟨by have := HJ3.out; first | omega | exact Nat.le_refl _⟩, ⟨by repeat (first | (with_reducible first | exact HB.out | apply below_alloc | apply pw_below_drewN | apply below_drew1) | exact HB.out)⟩⟩
          · replace c9 := Bool.eq_false_iff.mpr c9
            subst c9
            have H1 : (history_Match.j1 kj3 l0 l1 a2 true) = some (r1, r2) := by rw [if_neg (show ¬ (false = true) by decide)] at H; exact H
            clear H
            have H := H1
            clear H1
            have H' := Aside0.mk H
            clear H
            go_wp2_with (first | ((with_reducible refine gate_callee (f := 45) rfl ?_); refine goesL_ (some 23) rfl rfl Tryd.func45 (by kernel_rfl) rfl #[.slice A0 l0.length c0] rfl (by (try simp only [List.map_toArray, List.map_cons, List.map_nil]); first | done | rfl | (simp only [List.length_drop, List.length_take]; rfl)) ?_; (with_reducible refine (history_days.calls kj3 _ _ l0 false _ ?side1 ?side2 A8.out).mono ?_); (case side1 => repeat (first | exact (Kd.C_below HR0.out HB.out) | (with_reducible refine Kd.C_alloc ?_ _) | (with_reducible refine Kd.C_drewN ?_ _) | (with_reducible refine Kd.C_drew ?_))); (case side2 => exact HC0.out); rintro e w19 ⟨rfl, hb⟩; refine ⟨_, rfl, ?_⟩; have n0_ := Aside0.mk (below_step (by repeat (first | (with_reducible first | exact HB.out | apply below_alloc | apply pw_below_drewN | apply below_drew1) | exact HB.out)) hb); clear HB; have HB := n0_; clear n0_; (try clear hb); (try clear hb2); (try clear hk); (try clear hi)))
            go_meet
            case rel => exact ⟨_, (true), (by first | rfl | (simp; done) | (simp [*]; done)), H', ⟨by have := HJ3.out; first | omega | exact Nat.le_refl _⟩, ⟨by repeat (first | (with_reducible first | exact HB.out | apply below_alloc | apply pw_below_drewN | apply below_drew1) | exact HB.out)⟩⟩
        case rest =>
          clear HC7
          try clear c1
          try clear c2
          try clear p2
          try clear c4
          try clear c5
          try clear c5b0
          try clear c5b1
          try clear c6
          try clear c9
          try clear c11
          try clear c12
          try clear c12b0
          try clear p2
          obtain ⟨kq, x37_6, rfl, HA, HJ6, HB⟩ := hcut
          cases kq with
          | zero => exact absurd HA.out (by simp [history_Match.j1])
          | succ kj6 =>
            have H := HA.out
            clear HA
            simp only [history_Match.j1] at H
            by_cases c20 : x37_6 = true
            · subst c20
              have H1 : (some (([] : List (S62)), 1)) = some (r1, r2) := by rw [if_pos rfl] at H; exact H
              clear H
              have H := H1
              clear H1
              simp only [Option.some.injEq, Prod.mk.injEq] at H
              obtain ⟨rfl, rfl⟩ := H
              go_wp2
              go_ret2
              exact ⟨_, by first | rfl | (simp [errW_none, errW_some] <;> rfl) | (simp [*, errW_none, errW_some] <;> rfl), by first | exact Kd.R_nil _ _ _ _ _ | exact Kd.N_nil _ _ _ _ _ | exact Kd.V_nil _ _ _ _ _ | exact Kd.Q_nil _ _ _ _ _ | exact Kd.S_nil _ _ _ _ _, by repeat (first | (with_reducible first | exact HB.out | apply below_alloc | apply pw_below_drewN | apply below_drew1) | exact HB.out)⟩
            · replace c20 := Bool.eq_false_iff.mpr c20
              subst c20
              have H1 : ((history_ordered.f kj6 l0).bind fun t339 => (if t339 = 0 then ((history_ordered.f kj6 l1).bind fun t340 => (history_Match.j2 kj6 l0 l1 a2 (t340 != 0))) else (history_Match.j2 kj6 l0 l1 a2 true))) = some (r1, r2) := by rw [if_neg (show ¬ (false = true) by decide)] at H; exact H
              clear H
              have H := H1
              clear H1
              have HC21 := Aside0.mk H
              clear H
              go_upto_region 5 with (fail)
              go_cut [45] (fun v45 wc => ∃ (kq : Nat) (x45_20 : Bool), v45 = .bool x45_20 ∧ Aside0 (history_Match.j2 kq l0 l1 a2 x45_20 = some (r1, r2)) ∧ Aside0 (kq ≤ kj6) ∧ Aside0 (Below w.heap.size w wc))
              case first =>
                have H := HC21.out
                clear HC21
                replace H := Option.bind_eq_some_iff.mp H
                obtain ⟨t339, A220, H⟩ := H
                replace H : (if t339 = 0 then ((history_ordered.f kj6 l1).bind fun t340 => (history_Match.j2 kj6 l0 l1 a2 (t340 != 0))) else (history_Match.j2 kj6 l0 l1 a2 true)) = some (r1, r2) := H
                have A22 := Aside0.mk A220
                clear A220
                by_cases c23 : t339 = 0
                · rw [if_pos c23] at H
                  have c23b0 : (t339 == 0) = true := beq_iff_eq.mpr c23
                  have c23b1 : (t339 != 0) = false := bne_eq_false_iff_eq.mpr c23
                  clear c23
                  (first | rw [c23b0] | (simp only [i64_w, i32_w]; rw [c23b0]) | skip)
                  replace H := Option.bind_eq_some_iff.mp H
                  obtain ⟨t340, A240, H⟩ := H
                  replace H : (history_Match.j2 kj6 l0 l1 a2 (t340 != 0)) = some (r1, r2) := H
                  have A24 := Aside0.mk A240
                  clear A240
                  have H' := Aside0.mk H
                  clear H
                  go_wp2_with (first | ((with_reducible refine gate_callee (f := 46) rfl ?_); refine goesL_ (some 39) rfl rfl Tryd.func46 (by kernel_rfl) rfl #[.slice A0 l0.length c0] rfl (by (try simp only [List.map_toArray, List.map_cons, List.map_nil]); first | done | rfl | (simp only [List.length_drop, List.length_take]; rfl)) ?_; (with_reducible refine (history_ordered.calls kj6 _ _ l0 t339 _ ?side1 ?side2 A22.out).mono ?_); (case side1 => repeat (first | exact (Kd.C_below HR0.out HB.out) | (with_reducible refine Kd.C_alloc ?_ _) | (with_reducible refine Kd.C_drewN ?_ _) | (with_reducible refine Kd.C_drew ?_))); (case side2 => exact HC0.out); rintro e w' ⟨rfl, ⟨nd, rfl⟩⟩; refine ⟨_, rfl, ?_⟩) | (go_at_call 46; (with_reducible refine (history_ordered.calls kj6 _ _ l1 t340 _ ?side1 ?side2 A24.out).mono ?_); (case side1 => repeat (first | exact (Kd.C_below HR1.out (by repeat (first | (with_reducible first | exact HB.out | apply below_alloc | apply pw_below_drewN | apply below_drew1) | exact HB.out))) | (with_reducible refine Kd.C_alloc ?_ _) | (with_reducible refine Kd.C_drewN ?_ _) | (with_reducible refine Kd.C_drew ?_))); (case side2 => exact HC1.out); rintro e w' ⟨rfl, ⟨nd, rfl⟩⟩))
                  go_meet
                  case rel => exact ⟨_, ((t340 != 0)), (by first | rfl | (simp; done) | (simp [*]; done)), H', ⟨by have := HJ3.out; have := HJ6.out; first | omega | exact Nat.le_refl _⟩, ⟨by repeat (first | (with_reducible first | exact HB.out | apply below_alloc | apply pw_below_drewN | apply below_drew1) | exact HB.out)⟩⟩
                · rw [if_neg c23] at H
                  have c23b0 : (t339 == 0) = false := beq_eq_false_iff_ne.mpr c23
                  have c23b1 : (t339 != 0) = true := bne_iff_ne.mpr c23
                  (first | rw [c23b0] | (simp only [i64_w, i32_w]; rw [c23b0]) | skip)
                  have H' := Aside0.mk H
                  clear H
                  go_wp2_with (first | ((with_reducible refine gate_callee (f := 46) rfl ?_); refine goesL_ (some 39) rfl rfl Tryd.func46 (by kernel_rfl) rfl #[.slice A0 l0.length c0] rfl (by (try simp only [List.map_toArray, List.map_cons, List.map_nil]); first | done | rfl | (simp only [List.length_drop, List.length_take]; rfl)) ?_; (with_reducible refine (history_ordered.calls kj6 _ _ l0 t339 _ ?side1 ?side2 A22.out).mono ?_); (case side1 => repeat (first | exact (Kd.C_below HR0.out HB.out) | (with_reducible refine Kd.C_alloc ?_ _) | (with_reducible refine Kd.C_drewN ?_ _) | (with_reducible refine Kd.C_drew ?_))); (case side2 => exact HC0.out); rintro e w' ⟨rfl, ⟨nd, rfl⟩⟩; refine ⟨_, rfl, ?_⟩))
                  go_meet
                  case rel => exact ⟨_, (true), (by first | rfl | (simp; done) | (simp [*]; done)), H', ⟨by have := HJ3.out; have := HJ6.out; first | omega | exact Nat.le_refl _⟩, ⟨by repeat (first | (with_reducible first | exact HB.out | apply below_alloc | apply pw_below_drewN | apply below_drew1) | exact HB.out)⟩⟩
              case rest =>
                clear HC21
                try clear c1
                try clear c2
                try clear p2
                try clear c4
                try clear c5
                try clear c5b0
                try clear c5b1
                try clear c6
                try clear c9
                try clear c11
                try clear c12
                try clear c12b0
                try clear c20
                try clear c23
                try clear c23b0
                try clear c23b1
                try clear p2
                obtain ⟨kq, x45_20, rfl, HA, HJ20, HB⟩ := hcut
                cases kq with
                | zero => exact absurd HA.out (by simp [history_Match.j2])
                | succ kj20 =>
                  have H := HA.out
                  clear HA
                  simp only [history_Match.j2] at H
                  by_cases c25 : x45_20 = true
                  · subst c25
                    have H1 : (some (([] : List (S62)), 15)) = some (r1, r2) := by rw [if_pos rfl] at H; exact H
                    clear H
                    have H := H1
                    clear H1
                    simp only [Option.some.injEq, Prod.mk.injEq] at H
                    obtain ⟨rfl, rfl⟩ := H
                    go_wp2
                    go_ret2
                    exact ⟨_, by first | rfl | (simp [errW_none, errW_some] <;> rfl) | (simp [*, errW_none, errW_some] <;> rfl), by first | exact Kd.R_nil _ _ _ _ _ | exact Kd.N_nil _ _ _ _ _ | exact Kd.V_nil _ _ _ _ _ | exact Kd.Q_nil _ _ _ _ _ | exact Kd.S_nil _ _ _ _ _, by repeat (first | (with_reducible first | exact HB.out | apply below_alloc | apply pw_below_drewN | apply below_drew1) | exact HB.out)⟩
                  · replace c25 := Bool.eq_false_iff.mpr c25
                    subst c25
                    have H1 : (if 0 ≤ (l1.length : Int) then (if ((l1.length : Int) : Int).toNat ≤ 281474976710656 then (history_Match.l0 kj20 l1 a2 (List.replicate ((l1.length : Int) : Int).toNat false) ([] : List (S62)) l0 (l0.length : Int) 0) else (none)) else (none)) = some (r1, r2) := by rw [if_neg (show ¬ (false = true) by decide)] at H; exact H
                    clear H
                    have H := H1
                    clear H1
                    by_cases c26 : 0 ≤ (l1.length : Int)
                    · rw [if_pos c26] at H
                      have c26b0 := eq_true c26
                      have c26b1 : decide (0 ≤ (l1.length : Int)) = true := decide_eq_true c26
                      clear c26
                      by_cases c27 : ((l1.length : Int) : Int).toNat ≤ 281474976710656
                      · rw [if_pos c27] at H
                        have c27b0 := eq_true c27
                        have c27b1 : decide (((l1.length : Int) : Int).toNat ≤ 281474976710656) = true := decide_eq_true c27
                        clear c27
                        obtain ⟨y341, hy341⟩ : ∃ y_ : List Bool, y_ = (List.replicate ((l1.length : Int) : Int).toNat false) := ⟨_, rfl⟩
                        replace H : (history_Match.l0 kj20 l1 a2 y341 ([] : List (S62)) l0 (l0.length : Int) 0) = some (r1, r2) := by first | (rw [hy341]; with_reducible exact H) | (have H2_ := (Option.bind_some _ _).symm.trans H; rw [hy341]; with_reducible exact H2_) | (have H2_ := (Option.bind_some _ _).symm.trans H; with_reducible exact H2_) | with_reducible exact H | (rw [hy341]; exact H) | exact H
                        have Ny341 := Aside0.mk hy341
                        clear hy341
                        have H' := Aside0.mk H
                        clear H
                        go_wp2_with (first | ((with_reducible refine gate_dst (N := 48) rfl ?_); (try (refine gate_guard (by rfl) ?_; dsimp only)); refine Kd.R_make Kd.bool _ 4 rfl (N := 48) rfl 61 _ _ rfl (l1.length : Int) rfl rfl Tryd.underlying61 (.bool false) 1 info4 rfl (by decide) (by omega) false (ok := fun _ => True) (okp := fun _ => True) rfl (fun _ hk => hk) trivial (of_decide_eq_true (by first | (with_reducible assumption) | assumption)) (Nat.le_trans (Nat.mul_le_mul_right _ (of_decide_eq_true (by first | (with_reducible assumption) | assumption) : (l1.length : Int).toNat ≤ 281474976710656)) (by omega)) (Below.refl _ _) (Nat.le_refl _) ?_; intro v342 w28 ho29 hb hg_ hnew_; clear hg_ hnew_; (first | rw [← Ny341.out] at ho29 | (simp only [Int.reduceToNat] at ho29; rw [← Ny341.out] at ho29)); have n0_ := Aside0.mk (Kd.R_lower ho29 (below_size (by repeat (first | (with_reducible first | exact HB.out | apply below_alloc | apply pw_below_drewN | apply below_drew1) | exact HB.out)))); have n1_ := Aside0.mk (below_step (by repeat (first | (with_reducible first | exact HB.out | apply below_alloc | apply pw_below_drewN | apply below_drew1) | exact HB.out)) hb); clear HB; have HO343 := n0_; have HB := n1_; clear n0_ n1_; clear hb ho29))
                        go_loopg [9, 51] kj20 (fun kq v9 v51 w' => ∃ (x8_4 : List Bool) (x9_4 : List (S62)) (x51_4 : Int), v51 = .int .i64 x51_4 ∧ Aside0 (history_Match.l0 kq l1 a2 x8_4 x9_4 l0 (l0.length : Int) x51_4 = some (r1, r2)) ∧ Aside0 (kq ≤ kj20) ∧ Aside0 (Kd.R Kd.bool 4 w' w.heap.size (fun _ => True) v342 x8_4) ∧ Aside0 (Kd.R k62 62 w' w.heap.size (fun _ => True) v9 x9_4) ∧ Aside0 (Below w.heap.size w w'))
                        case atStart => exact ⟨(y341), (([] : List (S62))), (0), (by first | rfl | (simp; done) | (simp [*]; done)), H', ⟨Nat.le_refl _⟩, ⟨by (with_reducible repeat (first | apply Kd.R_alloc | apply Kd.R_drewN | apply Kd.R_drew)); exact HO343.out⟩, ⟨by first | exact Kd.R_nil _ _ _ _ _ | exact Kd.N_nil _ _ _ _ _ | exact Kd.V_nil _ _ _ _ _ | exact Kd.Q_nil _ _ _ _ _ | exact Kd.S_nil _ _ _ _ _⟩, ⟨by repeat (first | (with_reducible first | exact HB.out | apply below_alloc | apply pw_below_drewN | apply below_drew1) | exact HB.out)⟩⟩
                        case round =>
                          clear H'
                          try clear c1
                          try clear c2
                          try clear p2
                          try clear c4
                          try clear c5
                          try clear c5b0
                          try clear c5b1
                          try clear c6
                          try clear c9
                          try clear c11
                          try clear c12
                          try clear c12b0
                          try clear c20
                          try clear c23
                          try clear c23b0
                          try clear c23b1
                          try clear c25
                          try clear c26
                          try clear c26b0
                          try clear c26b1
                          try clear c27
                          try clear c27b0
                          try clear c27b1
                          try clear c29
                          try clear p2
                          obtain ⟨x8_4, x9_4, x51_4, rfl, HA, HK4, HO_8, HO_9, HB⟩ := hrel
                          cases gk with
                          | zero => exact absurd HA.out (by simp [history_Match.l0])
                          | succ k4 =>
                            have H := HA.out
                            clear HA
                            simp only [history_Match.l0] at H
                            by_cases c30 : x51_4 < (l0.length : Int)
                            · rw [if_pos c30] at H
                              have c30b0 : decide (x51_4 < (l0.length : Int)) = true := decide_eq_true c30
                              clear c30
                              by_cases c31 : 0 ≤ x51_4
                              · rw [if_pos c31] at H
                                have c31b0 : decide (0 ≤ x51_4) = true := decide_eq_true c31
                                clear c31
                                by_cases c32 : x51_4 < (l0.length : Int)
                                · rw [if_pos c32] at H
                                  have c32b0 : decide (x51_4 < (l0.length : Int)) = true := decide_eq_true c32
                                  clear c32
                                  have H' := Aside0.mk H
                                  clear H
                                  have p344 : 0 ≤ (x51_4 : Int) := of_decide_eq_true (by first | (with_reducible assumption) | assumption)
                                  have q344 : x51_4 < (l0.length : Int) := of_decide_eq_true (by first | (with_reducible assumption) | assumption)
                                  obtain ⟨ad344, e344, hx344_0, hx344_1, hx344_2, hx344_3, hx344_4, hx344_5⟩ := at_T39 HR0.out x51_4 p344 q344
                                  cases e344
                                  replace hx344_0 := (HB.out.cell (World.block_lt_of_cell? w _ hx344_0)).trans hx344_0
                                  replace hx344_1 := (HB.out.cell (World.block_lt_of_cell? w _ hx344_1)).trans hx344_1
                                  replace hx344_2 := (HB.out.cell (World.block_lt_of_cell? w _ hx344_2)).trans hx344_2
                                  replace hx344_3 := (HB.out.cell (World.block_lt_of_cell? w _ hx344_3)).trans hx344_3
                                  replace hx344_4 := (HB.out.cell (World.block_lt_of_cell? w _ hx344_4)).trans hx344_4
                                  replace hx344_5 := (HB.out.cell (World.block_lt_of_cell? w _ hx344_5)).trans hx344_5
                                  replace p344 := eq_true p344
                                  replace q344 := eq_true q344
                                  go_wp2_with (first | ((with_reducible refine gate_dst (N := 11) rfl ?_); (try (refine gate_guard (by rfl) ?_; dsimp only)); refine box_event ?hg (N := 11) ?hd (cs := #[.int .i64 0, .int .i64 0, .int .i64 0, .int .i64 0, .int .i64 0, .int .i64 0]) (t := 39) ?hr ?_; (case hd => rfl); (case hg => rfl); (case hr => first | (go_simp; done) | (go_simp; rfl)); intro gb345 hg w33 hbox hb; have n0_ := Aside0.mk (Kd.R_below (by (with_reducible repeat (first | apply Kd.R_alloc | apply Kd.R_drewN | apply Kd.R_drew)); exact HO_8.out) hb); have n1_ := Aside0.mk (Kd.R_below (by (with_reducible repeat (first | apply Kd.R_alloc | apply Kd.R_drewN | apply Kd.R_drew)); exact HO_9.out) hb); have n2_ := Aside0.mk (below_step (by repeat (first | (with_reducible first | exact HB.out | apply below_alloc | apply pw_below_drewN | apply below_drew1) | exact HB.out)) hb); have n3_ := Aside0.mk (hbox); have n4_ := Aside0.mk ((by rw [hg]; exact (below_size (by repeat (first | (with_reducible first | exact HB.out | apply below_alloc | apply pw_below_drewN | apply below_drew1) | exact HB.out))) : w.heap.size ≤ gb345)); have n5_ := Aside0.mk ((by rw [hg]; exact (below_size (by repeat (first | (with_reducible first | exact HB.out | apply below_alloc | apply pw_below_drewN | apply below_drew1) | exact HB.out))) : w.heap.size ≤ gb345)); clear HO_8; clear HO_9; clear HB; have HO_8 := n0_; have HO_9 := n1_; have HB := n2_; have BK345 := n3_; have GW345 := n4_; have GE345 := n5_; clear n0_ n1_ n2_ n3_ n4_ n5_; clear hb hbox hg; have hcz34_0 : w33.cell? ⟨gb345, 0, none⟩ = some (.int .i64 0) := (blk_cell BK345.out 0).trans rfl; have hcz34_1 : w33.cell? ⟨gb345, 1, none⟩ = some (.int .i64 0) := (blk_cell BK345.out 1).trans rfl; have hcz34_2 : w33.cell? ⟨gb345, 2, none⟩ = some (.int .i64 0) := (blk_cell BK345.out 2).trans rfl; have hcz34_3 : w33.cell? ⟨gb345, 3, none⟩ = some (.int .i64 0) := (blk_cell BK345.out 3).trans rfl; have hcz34_4 : w33.cell? ⟨gb345, 4, none⟩ = some (.int .i64 0) := (blk_cell BK345.out 4).trans rfl; have hcz34_5 : w33.cell? ⟨gb345, 5, none⟩ = some (.int .i64 0) := (blk_cell BK345.out 5).trans rfl; have hfz34_0 := blk_frozen BK345.out 0; have hfz34_1 := blk_frozen BK345.out 1; have hfz34_2 := blk_frozen BK345.out 2; have hfz34_3 := blk_frozen BK345.out 3; have hfz34_4 := blk_frozen BK345.out 4; have hfz34_5 := blk_frozen BK345.out 5))
                                  go_loopg [9, 58] k4 (fun kq v9 v58 w' => ∃ (x8_5 : List Bool) (x9_5 : List (S62)) (x58_5 : Int), v58 = .int .i64 x58_5 ∧ Aside0 (history_Match.l1 kq l1 a2 x8_5 x9_5 x51_4 l0 (l0.length : Int) x51_4 l1 (l1.length : Int) x58_5 ((rd_T39 l0 x51_4).f0) ((rd_T39 l0 x51_4).f1) ((rd_T39 l0 x51_4).f2) ((rd_T39 l0 x51_4).f3) ((rd_T39 l0 x51_4).f4) ((rd_T39 l0 x51_4).f5) = some (r1, r2)) ∧ Aside0 (kq ≤ k4) ∧ Aside0 (Kd.R Kd.bool 4 w' w.heap.size (fun _ => True) v342 x8_5) ∧ Aside0 (Kd.R k62 62 w' w.heap.size (fun _ => True) v9 x9_5) ∧ Aside0 (w'.heap[gb345]? = some (.cells #[.int .i64 ((rd_T39 l0 x51_4).f0), .int .i64 ((rd_T39 l0 x51_4).f1), .int .i64 ((rd_T39 l0 x51_4).f2), .int .i64 ((rd_T39 l0 x51_4).f3), .int .i64 ((rd_T39 l0 x51_4).f4), .int .i64 ((rd_T39 l0 x51_4).f5)] 39 (0, 0))) ∧ Aside0 (Below w.heap.size w w'))
                                  case atStart => exact ⟨(x8_4), (x9_4), (0), (by first | rfl | (simp; done) | (simp [*]; done)), H', ⟨Nat.le_refl _⟩, ⟨by (with_reducible repeat (first | apply Kd.R_alloc | apply Kd.R_drewN | apply Kd.R_drew)); exact Kd.R_mono (Kd.R_far (p := ⟨gb345, 5, none⟩) (Kd.R_far (p := ⟨gb345, 4, none⟩) (Kd.R_far (p := ⟨gb345, 3, none⟩) (Kd.R_far (p := ⟨gb345, 2, none⟩) (Kd.R_far (p := ⟨gb345, 1, none⟩) (Kd.R_far (p := ⟨gb345, 0, none⟩) (Kd.R_types HO_8.out BK345.out (by decide)) (fun _ hk => hk.2) (.int .i64 ((rd_T39 l0 x51_4).f0))) (fun _ hk => hk.2) (.int .i64 ((rd_T39 l0 x51_4).f1))) (fun _ hk => hk.2) (.int .i64 ((rd_T39 l0 x51_4).f2))) (fun _ hk => hk.2) (.int .i64 ((rd_T39 l0 x51_4).f3))) (fun _ hk => hk.2) (.int .i64 ((rd_T39 l0 x51_4).f4))) (fun _ hk => hk.2) (.int .i64 ((rd_T39 l0 x51_4).f5))) (fun _ hk => trivial)⟩, ⟨by (with_reducible repeat (first | apply Kd.R_alloc | apply Kd.R_drewN | apply Kd.R_drew)); exact Kd.R_mono (Kd.R_far (p := ⟨gb345, 5, none⟩) (Kd.R_far (p := ⟨gb345, 4, none⟩) (Kd.R_far (p := ⟨gb345, 3, none⟩) (Kd.R_far (p := ⟨gb345, 2, none⟩) (Kd.R_far (p := ⟨gb345, 1, none⟩) (Kd.R_far (p := ⟨gb345, 0, none⟩) (Kd.R_types HO_9.out BK345.out (by decide)) (fun _ hk => hk.2) (.int .i64 ((rd_T39 l0 x51_4).f0))) (fun _ hk => hk.2) (.int .i64 ((rd_T39 l0 x51_4).f1))) (fun _ hk => hk.2) (.int .i64 ((rd_T39 l0 x51_4).f2))) (fun _ hk => hk.2) (.int .i64 ((rd_T39 l0 x51_4).f3))) (fun _ hk => hk.2) (.int .i64 ((rd_T39 l0 x51_4).f4))) (fun _ hk => hk.2) (.int .i64 ((rd_T39 l0 x51_4).f5))) (fun _ hk => trivial)⟩, ⟨by (with_reducible repeat (first | refine blk_drewN ?_ _ | refine blk_drew ?_ | refine blk_alloc ?_ _)); refine blk_put (cs := #[.int .i64 ((rd_T39 l0 x51_4).f0), .int .i64 ((rd_T39 l0 x51_4).f1), .int .i64 ((rd_T39 l0 x51_4).f2), .int .i64 ((rd_T39 l0 x51_4).f3), .int .i64 ((rd_T39 l0 x51_4).f4), .int .i64 0]) ?_ 5 _ rfl; (with_reducible repeat (first | refine blk_drewN ?_ _ | refine blk_drew ?_ | refine blk_alloc ?_ _)); refine blk_put (cs := #[.int .i64 ((rd_T39 l0 x51_4).f0), .int .i64 ((rd_T39 l0 x51_4).f1), .int .i64 ((rd_T39 l0 x51_4).f2), .int .i64 ((rd_T39 l0 x51_4).f3), .int .i64 0, .int .i64 0]) ?_ 4 _ rfl; (with_reducible repeat (first | refine blk_drewN ?_ _ | refine blk_drew ?_ | refine blk_alloc ?_ _)); refine blk_put (cs := #[.int .i64 ((rd_T39 l0 x51_4).f0), .int .i64 ((rd_T39 l0 x51_4).f1), .int .i64 ((rd_T39 l0 x51_4).f2), .int .i64 0, .int .i64 0, .int .i64 0]) ?_ 3 _ rfl; (with_reducible repeat (first | refine blk_drewN ?_ _ | refine blk_drew ?_ | refine blk_alloc ?_ _)); refine blk_put (cs := #[.int .i64 ((rd_T39 l0 x51_4).f0), .int .i64 ((rd_T39 l0 x51_4).f1), .int .i64 0, .int .i64 0, .int .i64 0, .int .i64 0]) ?_ 2 _ rfl; (with_reducible repeat (first | refine blk_drewN ?_ _ | refine blk_drew ?_ | refine blk_alloc ?_ _)); refine blk_put (cs := #[.int .i64 ((rd_T39 l0 x51_4).f0), .int .i64 0, .int .i64 0, .int .i64 0, .int .i64 0, .int .i64 0]) ?_ 1 _ rfl; (with_reducible repeat (first | refine blk_drewN ?_ _ | refine blk_drew ?_ | refine blk_alloc ?_ _)); refine blk_put (cs := #[.int .i64 0, .int .i64 0, .int .i64 0, .int .i64 0, .int .i64 0, .int .i64 0]) ?_ 0 _ rfl; (with_reducible repeat (first | refine blk_drewN ?_ _ | refine blk_drew ?_ | refine blk_alloc ?_ _)); exact BK345.out⟩, ⟨by repeat (first | (with_reducible first | exact HB.out | apply below_alloc | apply pw_below_drewN | apply below_drew1 | refine below_set ?_ GE345.out) | exact HB.out)⟩⟩
                                  case round =>
                                    clear H'
                                    try clear c1
                                    try clear c2
                                    try clear p2
                                    try clear c3
                                    try clear p3
                                    try clear q3
                                    try clear hx3
                                    try clear c4
                                    try clear c5
                                    try clear c5b0
                                    try clear c5b1
                                    try clear c6
                                    try clear c9
                                    try clear c11
                                    try clear c12
                                    try clear c12b0
                                    try clear c20
                                    try clear c23
                                    try clear c23b0
                                    try clear c23b1
                                    try clear c25
                                    try clear c26
                                    try clear c26b0
                                    try clear c26b1
                                    try clear c27
                                    try clear c27b0
                                    try clear c27b1
                                    try clear c29
                                    try clear c30
                                    try clear c30b0
                                    try clear c31
                                    try clear c31b0
                                    try clear c32
                                    try clear c32b0
                                    try clear p34
                                    try clear q34
                                    try clear hx34
                                    try clear hcz34_0
                                    try clear hcz34_1
                                    try clear hcz34_2
                                    try clear hcz34_3
                                    try clear hcz34_4
                                    try clear hcz34_5
                                    try clear hfz34_0
                                    try clear hfz34_1
                                    try clear hfz34_2
                                    try clear hfz34_3
                                    try clear hfz34_4
                                    try clear hfz34_5
                                    try clear hx344_0
                                    try clear hx344_1
                                    try clear hx344_2
                                    try clear hx344_3
                                    try clear hx344_4
                                    try clear hx344_5
                                    try clear p2
                                    try clear p344
                                    try clear q344
                                    obtain ⟨x8_5, x9_5, x58_5, rfl, HA, HK5, HO_8, HO_9, BK345, HB⟩ := hrel
                                    cases gk with
                                    | zero => exact absurd HA.out (by simp [history_Match.l1])
                                    | succ k5 =>
                                      have H := HA.out
                                      clear HA
                                      simp only [history_Match.l1] at H
                                      by_cases c35 : x58_5 < (l1.length : Int)
                                      · rw [if_pos c35] at H
                                        have c35b0 : decide (x58_5 < (l1.length : Int)) = true := decide_eq_true c35
                                        clear c35
                                        by_cases c36 : 0 ≤ x58_5
                                        · rw [if_pos c36] at H
                                          have c36b0 : decide (0 ≤ x58_5) = true := decide_eq_true c36
                                          clear c36
                                          by_cases c37 : x58_5 < (l1.length : Int)
                                          · rw [if_pos c37] at H
                                            have c37b0 : decide (x58_5 < (l1.length : Int)) = true := decide_eq_true c37
                                            clear c37
                                            by_cases c38 : x58_5 < (x8_5.length : Int)
                                            · rw [if_pos c38] at H
                                              have c38b0 : decide (x58_5 < (x8_5.length : Int)) = true := decide_eq_true c38
                                              clear c38
                                              obtain ⟨bq39, hbq39⟩ : ∃ b_ : Bool, b_ = (rdOf false x8_5 x58_5) := ⟨_, rfl⟩
                                              replace H : (if bq39 = true then (history_Match.l1 k5 l1 a2 x8_5 x9_5 x51_4 l0 (l0.length : Int) x51_4 l1 (l1.length : Int) (wrap64 (x58_5 + 1)) ((rd_T39 l0 x51_4).f0) ((rd_T39 l0 x51_4).f1) ((rd_T39 l0 x51_4).f2) ((rd_T39 l0 x51_4).f3) ((rd_T39 l0 x51_4).f4) ((rd_T39 l0 x51_4).f5)) else ((history_correspond.f ((rd_T39 l0 x51_4).f0) ((rd_T39 l0 x51_4).f1) ((rd_T39 l0 x51_4).f2) ((rd_T39 l0 x51_4).f3) ((rd_T39 l0 x51_4).f4) ((rd_T39 l0 x51_4).f5) ((rd_T39 l1 x58_5).f0) ((rd_T39 l1 x58_5).f1) ((rd_T39 l1 x58_5).f2) ((rd_T39 l1 x58_5).f3) ((rd_T39 l1 x58_5).f4) ((rd_T39 l1 x58_5).f5) a2).bind fun t349 => (if t349 = true then (if x9_5.length < 8796093022208 then (history_Match.l0 k5 l1 a2 (x8_5.set (x58_5 : Int).toNat true) (x9_5 ++ [(⟨x51_4, x58_5⟩ : S62)]) l0 (l0.length : Int) (wrap64 (x51_4 + 1))) else (none)) else (history_Match.l1 k5 l1 a2 x8_5 x9_5 x51_4 l0 (l0.length : Int) x51_4 l1 (l1.length : Int) (wrap64 (x58_5 + 1)) ((rd_T39 l0 x51_4).f0) ((rd_T39 l0 x51_4).f1) ((rd_T39 l0 x51_4).f2) ((rd_T39 l0 x51_4).f3) ((rd_T39 l0 x51_4).f4) ((rd_T39 l0 x51_4).f5))))) = some (r1, r2) := by rw [← hbq39] at H; exact H
                                              have Nbq39 := Aside0.mk hbq39
                                              clear hbq39
                                              by_cases c40 : bq39 = true
                                              · subst c40
                                                have H1 : (history_Match.l1 k5 l1 a2 x8_5 x9_5 x51_4 l0 (l0.length : Int) x51_4 l1 (l1.length : Int) (wrap64 (x58_5 + 1)) ((rd_T39 l0 x51_4).f0) ((rd_T39 l0 x51_4).f1) ((rd_T39 l0 x51_4).f2) ((rd_T39 l0 x51_4).f3) ((rd_T39 l0 x51_4).f4) ((rd_T39 l0 x51_4).f5)) = some (r1, r2) := by rw [if_pos rfl] at H; exact H
                                                clear H
                                                have H := H1
                                                clear H1
                                                have H' := Aside0.mk H
                                                clear H
                                                have p346 : 0 ≤ (x58_5 : Int) := of_decide_eq_true (by first | (with_reducible assumption) | assumption)
                                                have q346 : x58_5 < (l1.length : Int) := of_decide_eq_true (by first | (with_reducible assumption) | assumption)
                                                obtain ⟨ad346, e346, hx346_0, hx346_1, hx346_2, hx346_3, hx346_4, hx346_5⟩ := at_T39 HR1.out x58_5 p346 q346
                                                cases e346
                                                replace hx346_0 := (HB.out.cell (World.block_lt_of_cell? w _ hx346_0)).trans hx346_0
                                                replace hx346_1 := (HB.out.cell (World.block_lt_of_cell? w _ hx346_1)).trans hx346_1
                                                replace hx346_2 := (HB.out.cell (World.block_lt_of_cell? w _ hx346_2)).trans hx346_2
                                                replace hx346_3 := (HB.out.cell (World.block_lt_of_cell? w _ hx346_3)).trans hx346_3
                                                replace hx346_4 := (HB.out.cell (World.block_lt_of_cell? w _ hx346_4)).trans hx346_4
                                                replace hx346_5 := (HB.out.cell (World.block_lt_of_cell? w _ hx346_5)).trans hx346_5
                                                replace p346 := eq_true p346
                                                replace q346 := eq_true q346
                                                go_wp2_with (first | ((with_reducible refine gate_dst (N := 13) rfl ?_); (try (refine gate_guard (by rfl) ?_; dsimp only)); refine box_event ?hg (N := 13) ?hd (cs := #[.int .i64 0, .int .i64 0, .int .i64 0, .int .i64 0, .int .i64 0, .int .i64 0]) (t := 39) ?hr ?_; (case hd => rfl); (case hg => rfl); (case hr => first | (go_simp; done) | (go_simp; rfl)); intro gb347 hg w41 hbox hb; have n0_ := Aside0.mk (Kd.R_below (by (with_reducible repeat (first | apply Kd.R_alloc | apply Kd.R_drewN | apply Kd.R_drew)); exact HO_8.out) hb); have n1_ := Aside0.mk (Kd.R_below (by (with_reducible repeat (first | apply Kd.R_alloc | apply Kd.R_drewN | apply Kd.R_drew)); exact HO_9.out) hb); have n2_ := Aside0.mk (blk_below (g := gb345) (o := .cells #[.int .i64 ((rd_T39 l0 x51_4).f0), .int .i64 ((rd_T39 l0 x51_4).f1), .int .i64 ((rd_T39 l0 x51_4).f2), .int .i64 ((rd_T39 l0 x51_4).f3), .int .i64 ((rd_T39 l0 x51_4).f4), .int .i64 ((rd_T39 l0 x51_4).f5)] 39 (0, 0)) (by (with_reducible repeat (first | refine blk_drewN ?_ _ | refine blk_drew ?_ | refine blk_alloc ?_ _)); exact BK345.out) hb); have n3_ := Aside0.mk (below_step (by repeat (first | (with_reducible first | exact HB.out | apply below_alloc | apply pw_below_drewN | apply below_drew1 | refine below_set ?_ GE345.out) | exact HB.out)) hb); have n4_ := Aside0.mk (hbox); have n5_ := Aside0.mk ((by rw [hg]; exact (below_size (by repeat (first | (with_reducible first | exact HB.out | apply below_alloc | apply pw_below_drewN | apply below_drew1 | refine below_set ?_ GE345.out) | exact HB.out))) : w.heap.size ≤ gb347)); have n6_ := Aside0.mk ((by rw [hg]; exact (below_size (by repeat (first | (with_reducible first | exact HB.out | apply below_alloc | apply pw_below_drewN | apply below_drew1 | refine below_set ?_ GE345.out) | exact HB.out))) : w.heap.size ≤ gb347)); have n7_ := Aside0.mk ((by rw [hg]; exact Nat.ne_of_lt (blk_lt (g := gb345) (o := .cells #[.int .i64 ((rd_T39 l0 x51_4).f0), .int .i64 ((rd_T39 l0 x51_4).f1), .int .i64 ((rd_T39 l0 x51_4).f2), .int .i64 ((rd_T39 l0 x51_4).f3), .int .i64 ((rd_T39 l0 x51_4).f4), .int .i64 ((rd_T39 l0 x51_4).f5)] 39 (0, 0)) (by (with_reducible repeat (first | refine blk_drewN ?_ _ | refine blk_drew ?_ | refine blk_alloc ?_ _)); exact BK345.out)) : gb345 ≠ gb347)); have n8_ := Aside0.mk ((by rw [hg]; exact Nat.ne_of_gt (blk_lt (g := gb345) (o := .cells #[.int .i64 ((rd_T39 l0 x51_4).f0), .int .i64 ((rd_T39 l0 x51_4).f1), .int .i64 ((rd_T39 l0 x51_4).f2), .int .i64 ((rd_T39 l0 x51_4).f3), .int .i64 ((rd_T39 l0 x51_4).f4), .int .i64 ((rd_T39 l0 x51_4).f5)] 39 (0, 0)) (by (with_reducible repeat (first | refine blk_drewN ?_ _ | refine blk_drew ?_ | refine blk_alloc ?_ _)); exact BK345.out)) : gb347 ≠ gb345)); clear HO_8; clear HO_9; clear BK345; clear HB; have HO_8 := n0_; have HO_9 := n1_; have BK345 := n2_; have HB := n3_; have BK347 := n4_; have GW347 := n5_; have GE347 := n6_; have NB345_347 := n7_; have NB347_345 := n8_; clear n0_ n1_ n2_ n3_ n4_ n5_ n6_ n7_ n8_; clear hb hbox hg; have hnb42 := NB347_345.out; have hnc42 := NB345_347.out; have hcz43_0 : w41.cell? ⟨gb347, 0, none⟩ = some (.int .i64 0) := (blk_cell BK347.out 0).trans rfl; have hcz43_1 : w41.cell? ⟨gb347, 1, none⟩ = some (.int .i64 0) := (blk_cell BK347.out 1).trans rfl; have hcz43_2 : w41.cell? ⟨gb347, 2, none⟩ = some (.int .i64 0) := (blk_cell BK347.out 2).trans rfl; have hcz43_3 : w41.cell? ⟨gb347, 3, none⟩ = some (.int .i64 0) := (blk_cell BK347.out 3).trans rfl; have hcz43_4 : w41.cell? ⟨gb347, 4, none⟩ = some (.int .i64 0) := (blk_cell BK347.out 4).trans rfl; have hcz43_5 : w41.cell? ⟨gb347, 5, none⟩ = some (.int .i64 0) := (blk_cell BK347.out 5).trans rfl; have hfz43_0 := blk_frozen BK347.out 0; have hfz43_1 := blk_frozen BK347.out 1; have hfz43_2 := blk_frozen BK347.out 2; have hfz43_3 := blk_frozen BK347.out 3; have hfz43_4 := blk_frozen BK347.out 4; have hfz43_5 := blk_frozen BK347.out 5; obtain ⟨Ao44, co44, eo44⟩ := Kd.R_slice HO_8.out; subst eo44; have p348 : 0 ≤ (x58_5 : Int) := of_decide_eq_true (by first | (with_reducible assumption) | assumption); have q348 : x58_5 < (x8_5.length : Int) := of_decide_eq_true (by first | (with_reducible assumption) | assumption); obtain ⟨ad348, e348, hx348_0⟩ := Kd.at_bool (Kd.R_reads' HO_8.out).2.2 x58_5 p348 q348; (try rw [← Nbq39.out] at hx348_0); cases e348; have hn348_0 : ad348.block ≠ gb347 := Kd.own_blk (Kd.R_ne HO_8.out BK347.out (by decide)); have hn348_1 : ad348.block ≠ gb347 := Kd.own_blk (Kd.R_ne HO_8.out BK347.out (by decide)); have hn348_2 : ad348.block ≠ gb347 := Kd.own_blk (Kd.R_ne HO_8.out BK347.out (by decide)); have hn348_3 : ad348.block ≠ gb347 := Kd.own_blk (Kd.R_ne HO_8.out BK347.out (by decide)); have hn348_4 : ad348.block ≠ gb347 := Kd.own_blk (Kd.R_ne HO_8.out BK347.out (by decide)); have hn348_5 : ad348.block ≠ gb347 := Kd.own_blk (Kd.R_ne HO_8.out BK347.out (by decide)); replace hx348_0 := (cell_far (p := ⟨gb347, 0, none⟩) (by first | (rw [add_block]; exact hn348_0) | (show (Addr.add _ _).block ≠ _; rw [add_block]; exact hn348_0) | exact hn348_0) (.int .i64 ((rd_T39 l1 x58_5).f0))).trans hx348_0; replace hx348_0 := (cell_far (p := ⟨gb347, 1, none⟩) (by first | (rw [add_block]; exact hn348_1) | (show (Addr.add _ _).block ≠ _; rw [add_block]; exact hn348_1) | exact hn348_1) (.int .i64 ((rd_T39 l1 x58_5).f1))).trans hx348_0; replace hx348_0 := (cell_far (p := ⟨gb347, 2, none⟩) (by first | (rw [add_block]; exact hn348_2) | (show (Addr.add _ _).block ≠ _; rw [add_block]; exact hn348_2) | exact hn348_2) (.int .i64 ((rd_T39 l1 x58_5).f2))).trans hx348_0; replace hx348_0 := (cell_far (p := ⟨gb347, 3, none⟩) (by first | (rw [add_block]; exact hn348_3) | (show (Addr.add _ _).block ≠ _; rw [add_block]; exact hn348_3) | exact hn348_3) (.int .i64 ((rd_T39 l1 x58_5).f3))).trans hx348_0; replace hx348_0 := (cell_far (p := ⟨gb347, 4, none⟩) (by first | (rw [add_block]; exact hn348_4) | (show (Addr.add _ _).block ≠ _; rw [add_block]; exact hn348_4) | exact hn348_4) (.int .i64 ((rd_T39 l1 x58_5).f4))).trans hx348_0; replace hx348_0 := (cell_far (p := ⟨gb347, 5, none⟩) (by first | (rw [add_block]; exact hn348_5) | (show (Addr.add _ _).block ≠ _; rw [add_block]; exact hn348_5) | exact hn348_5) (.int .i64 ((rd_T39 l1 x58_5).f5))).trans hx348_0; clear hn348_0; clear hn348_1; clear hn348_2; clear hn348_3; clear hn348_4; clear hn348_5; replace p348 := eq_true p348; replace q348 := eq_true q348))
                                                go_roundg k5
                                                case measure => have := HJ3.out; have := HJ6.out; have := HJ20.out; have := HK4.out; have := HK5.out; omega
                                                case rel => exact ⟨(x8_5), (x9_5), (wrap64 (x58_5 + 1)), (by first | rfl | (simp; done) | (simp [*]; done)), H', ⟨by have := HJ3.out; have := HJ6.out; have := HJ20.out; have := HK4.out; have := HK5.out; omega⟩, ⟨by (with_reducible repeat (first | apply Kd.R_alloc | apply Kd.R_drewN | apply Kd.R_drew)); exact Kd.R_mono (Kd.R_far (p := ⟨gb347, 5, none⟩) (Kd.R_far (p := ⟨gb347, 4, none⟩) (Kd.R_far (p := ⟨gb347, 3, none⟩) (Kd.R_far (p := ⟨gb347, 2, none⟩) (Kd.R_far (p := ⟨gb347, 1, none⟩) (Kd.R_far (p := ⟨gb347, 0, none⟩) (Kd.R_types HO_8.out BK347.out (by decide)) (fun _ hk => hk.2) (.int .i64 ((rd_T39 l1 x58_5).f0))) (fun _ hk => hk.2) (.int .i64 ((rd_T39 l1 x58_5).f1))) (fun _ hk => hk.2) (.int .i64 ((rd_T39 l1 x58_5).f2))) (fun _ hk => hk.2) (.int .i64 ((rd_T39 l1 x58_5).f3))) (fun _ hk => hk.2) (.int .i64 ((rd_T39 l1 x58_5).f4))) (fun _ hk => hk.2) (.int .i64 ((rd_T39 l1 x58_5).f5))) (fun _ hk => trivial)⟩, ⟨by (with_reducible repeat (first | apply Kd.R_alloc | apply Kd.R_drewN | apply Kd.R_drew)); exact Kd.R_mono (Kd.R_far (p := ⟨gb347, 5, none⟩) (Kd.R_far (p := ⟨gb347, 4, none⟩) (Kd.R_far (p := ⟨gb347, 3, none⟩) (Kd.R_far (p := ⟨gb347, 2, none⟩) (Kd.R_far (p := ⟨gb347, 1, none⟩) (Kd.R_far (p := ⟨gb347, 0, none⟩) (Kd.R_types HO_9.out BK347.out (by decide)) (fun _ hk => hk.2) (.int .i64 ((rd_T39 l1 x58_5).f0))) (fun _ hk => hk.2) (.int .i64 ((rd_T39 l1 x58_5).f1))) (fun _ hk => hk.2) (.int .i64 ((rd_T39 l1 x58_5).f2))) (fun _ hk => hk.2) (.int .i64 ((rd_T39 l1 x58_5).f3))) (fun _ hk => hk.2) (.int .i64 ((rd_T39 l1 x58_5).f4))) (fun _ hk => hk.2) (.int .i64 ((rd_T39 l1 x58_5).f5))) (fun _ hk => trivial)⟩, ⟨by (with_reducible repeat (first | refine blk_drewN ?_ _ | refine blk_drew ?_ | refine blk_alloc ?_ _)); refine blk_far ?_ NB345_347.out _; (with_reducible repeat (first | refine blk_drewN ?_ _ | refine blk_drew ?_ | refine blk_alloc ?_ _)); refine blk_far ?_ NB345_347.out _; (with_reducible repeat (first | refine blk_drewN ?_ _ | refine blk_drew ?_ | refine blk_alloc ?_ _)); refine blk_far ?_ NB345_347.out _; (with_reducible repeat (first | refine blk_drewN ?_ _ | refine blk_drew ?_ | refine blk_alloc ?_ _)); refine blk_far ?_ NB345_347.out _; (with_reducible repeat (first | refine blk_drewN ?_ _ | refine blk_drew ?_ | refine blk_alloc ?_ _)); refine blk_far ?_ NB345_347.out _; (with_reducible repeat (first | refine blk_drewN ?_ _ | refine blk_drew ?_ | refine blk_alloc ?_ _)); refine blk_far ?_ NB345_347.out _; (with_reducible repeat (first | refine blk_drewN ?_ _ | refine blk_drew ?_ | refine blk_alloc ?_ _)); exact BK345.out⟩, ⟨by repeat (first | (with_reducible first | exact HB.out | apply below_alloc | apply pw_below_drewN | apply below_drew1 | refine below_set ?_ GE345.out | refine below_set ?_ GE347.out) | exact HB.out)⟩⟩
                                              · replace c40 := Bool.eq_false_iff.mpr c40
                                                subst c40
                                                have H1 : ((history_correspond.f ((rd_T39 l0 x51_4).f0) ((rd_T39 l0 x51_4).f1) ((rd_T39 l0 x51_4).f2) ((rd_T39 l0 x51_4).f3) ((rd_T39 l0 x51_4).f4) ((rd_T39 l0 x51_4).f5) ((rd_T39 l1 x58_5).f0) ((rd_T39 l1 x58_5).f1) ((rd_T39 l1 x58_5).f2) ((rd_T39 l1 x58_5).f3) ((rd_T39 l1 x58_5).f4) ((rd_T39 l1 x58_5).f5) a2).bind fun t349 => (if t349 = true then (if x9_5.length < 8796093022208 then (history_Match.l0 k5 l1 a2 (x8_5.set (x58_5 : Int).toNat true) (x9_5 ++ [(⟨x51_4, x58_5⟩ : S62)]) l0 (l0.length : Int) (wrap64 (x51_4 + 1))) else (none)) else (history_Match.l1 k5 l1 a2 x8_5 x9_5 x51_4 l0 (l0.length : Int) x51_4 l1 (l1.length : Int) (wrap64 (x58_5 + 1)) ((rd_T39 l0 x51_4).f0) ((rd_T39 l0 x51_4).f1) ((rd_T39 l0 x51_4).f2) ((rd_T39 l0 x51_4).f3) ((rd_T39 l0 x51_4).f4) ((rd_T39 l0 x51_4).f5)))) = some (r1, r2) := by rw [if_neg (show ¬ (false = true) by decide)] at H; exact H
                                                clear H
                                                have H := H1
                                                clear H1
                                                replace H := Option.bind_eq_some_iff.mp H
                                                obtain ⟨t349, A450, H⟩ := H
                                                replace H : (if t349 = true then (if x9_5.length < 8796093022208 then (history_Match.l0 k5 l1 a2 (x8_5.set (x58_5 : Int).toNat true) (x9_5 ++ [(⟨x51_4, x58_5⟩ : S62)]) l0 (l0.length : Int) (wrap64 (x51_4 + 1))) else (none)) else (history_Match.l1 k5 l1 a2 x8_5 x9_5 x51_4 l0 (l0.length : Int) x51_4 l1 (l1.length : Int) (wrap64 (x58_5 + 1)) ((rd_T39 l0 x51_4).f0) ((rd_T39 l0 x51_4).f1) ((rd_T39 l0 x51_4).f2) ((rd_T39 l0 x51_4).f3) ((rd_T39 l0 x51_4).f4) ((rd_T39 l0 x51_4).f5))) = some (r1, r2) := H
                                                have A45 := Aside0.mk A450
                                                clear A450
                                                by_cases c46 : t349 = true
                                                · subst c46
                                                  have H1 : (if x9_5.length < 8796093022208 then (history_Match.l0 k5 l1 a2 (x8_5.set (x58_5 : Int).toNat true) (x9_5 ++ [(⟨x51_4, x58_5⟩ : S62)]) l0 (l0.length : Int) (wrap64 (x51_4 + 1))) else (none)) = some (r1, r2) := by rw [if_pos rfl] at H; exact H
                                                  clear H
                                                  have H := H1
                                                  clear H1
                                                  obtain ⟨y350, hy350⟩ : ∃ y_ : List Bool, y_ = (x8_5.set (x58_5 : Int).toNat true) := ⟨_, rfl⟩
                                                  replace H : (if x9_5.length < 8796093022208 then (history_Match.l0 k5 l1 a2 y350 (x9_5 ++ [(⟨x51_4, x58_5⟩ : S62)]) l0 (l0.length : Int) (wrap64 (x51_4 + 1))) else (none)) = some (r1, r2) := by first | (rw [hy350]; with_reducible exact H) | (have H2_ := (Option.bind_some _ _).symm.trans H; rw [hy350]; with_reducible exact H2_) | (have H2_ := (Option.bind_some _ _).symm.trans H; with_reducible exact H2_) | with_reducible exact H | (rw [hy350]; exact H) | exact H
                                                  have Ny350 := Aside0.mk hy350
                                                  clear hy350
                                                  by_cases c48 : x9_5.length < 8796093022208
                                                  · rw [if_pos c48] at H
                                                    have LMc48 := Aside0.mk c48
                                                    clear c48
                                                    obtain ⟨y351, hy351⟩ : ∃ y_ : List (S62), y_ = (x9_5 ++ [(⟨x51_4, x58_5⟩ : S62)]) := ⟨_, rfl⟩
                                                    replace H : (history_Match.l0 k5 l1 a2 y350 y351 l0 (l0.length : Int) (wrap64 (x51_4 + 1))) = some (r1, r2) := by first | (rw [hy351]; with_reducible exact H) | (have H2_ := (Option.bind_some _ _).symm.trans H; rw [hy351]; with_reducible exact H2_) | (have H2_ := (Option.bind_some _ _).symm.trans H; with_reducible exact H2_) | with_reducible exact H | (rw [hy351]; exact H) | exact H
                                                    have Ny351 := Aside0.mk hy351
                                                    clear hy351
                                                    have H' := Aside0.mk H
                                                    clear H
                                                    have p346 : 0 ≤ (x58_5 : Int) := of_decide_eq_true (by first | (with_reducible assumption) | assumption)
                                                    have q346 : x58_5 < (l1.length : Int) := of_decide_eq_true (by first | (with_reducible assumption) | assumption)
                                                    obtain ⟨ad346, e346, hx346_0, hx346_1, hx346_2, hx346_3, hx346_4, hx346_5⟩ := at_T39 HR1.out x58_5 p346 q346
                                                    cases e346
                                                    replace hx346_0 := (HB.out.cell (World.block_lt_of_cell? w _ hx346_0)).trans hx346_0
                                                    replace hx346_1 := (HB.out.cell (World.block_lt_of_cell? w _ hx346_1)).trans hx346_1
                                                    replace hx346_2 := (HB.out.cell (World.block_lt_of_cell? w _ hx346_2)).trans hx346_2
                                                    replace hx346_3 := (HB.out.cell (World.block_lt_of_cell? w _ hx346_3)).trans hx346_3
                                                    replace hx346_4 := (HB.out.cell (World.block_lt_of_cell? w _ hx346_4)).trans hx346_4
                                                    replace hx346_5 := (HB.out.cell (World.block_lt_of_cell? w _ hx346_5)).trans hx346_5
                                                    replace p346 := eq_true p346
                                                    replace q346 := eq_true q346
                                                    go_wp2_with (first | ((with_reducible refine gate_dst (N := 13) rfl ?_); (try (refine gate_guard (by rfl) ?_; dsimp only)); refine box_event ?hg (N := 13) ?hd (cs := #[.int .i64 0, .int .i64 0, .int .i64 0, .int .i64 0, .int .i64 0, .int .i64 0]) (t := 39) ?hr ?_; (case hd => rfl); (case hg => rfl); (case hr => first | (go_simp; done) | (go_simp; rfl)); intro gb347 hg w49 hbox hb; have n0_ := Aside0.mk (Kd.R_below (by (with_reducible repeat (first | apply Kd.R_alloc | apply Kd.R_drewN | apply Kd.R_drew)); exact HO_8.out) hb); have n1_ := Aside0.mk (Kd.R_below (by (with_reducible repeat (first | apply Kd.R_alloc | apply Kd.R_drewN | apply Kd.R_drew)); exact HO_9.out) hb); have n2_ := Aside0.mk (blk_below (g := gb345) (o := .cells #[.int .i64 ((rd_T39 l0 x51_4).f0), .int .i64 ((rd_T39 l0 x51_4).f1), .int .i64 ((rd_T39 l0 x51_4).f2), .int .i64 ((rd_T39 l0 x51_4).f3), .int .i64 ((rd_T39 l0 x51_4).f4), .int .i64 ((rd_T39 l0 x51_4).f5)] 39 (0, 0)) (by (with_reducible repeat (first | refine blk_drewN ?_ _ | refine blk_drew ?_ | refine blk_alloc ?_ _)); exact BK345.out) hb); have n3_ := Aside0.mk (below_step (by repeat (first | (with_reducible first | exact HB.out | apply below_alloc | apply pw_below_drewN | apply below_drew1 | refine below_set ?_ GE345.out) | exact HB.out)) hb); have n4_ := Aside0.mk (hbox); have n5_ := Aside0.mk ((by rw [hg]; exact (below_size (by repeat (first | (with_reducible first | exact HB.out | apply below_alloc | apply pw_below_drewN | apply below_drew1 | refine below_set ?_ GE345.out) | exact HB.out))) : w.heap.size ≤ gb347)); have n6_ := Aside0.mk ((by rw [hg]; exact (below_size (by repeat (first | (with_reducible first | exact HB.out | apply below_alloc | apply pw_below_drewN | apply below_drew1 | refine below_set ?_ GE345.out) | exact HB.out))) : w.heap.size ≤ gb347)); have n7_ := Aside0.mk ((by rw [hg]; exact Nat.ne_of_lt (blk_lt (g := gb345) (o := .cells #[.int .i64 ((rd_T39 l0 x51_4).f0), .int .i64 ((rd_T39 l0 x51_4).f1), .int .i64 ((rd_T39 l0 x51_4).f2), .int .i64 ((rd_T39 l0 x51_4).f3), .int .i64 ((rd_T39 l0 x51_4).f4), .int .i64 ((rd_T39 l0 x51_4).f5)] 39 (0, 0)) (by (with_reducible repeat (first | refine blk_drewN ?_ _ | refine blk_drew ?_ | refine blk_alloc ?_ _)); exact BK345.out)) : gb345 ≠ gb347)); have n8_ := Aside0.mk ((by rw [hg]; exact Nat.ne_of_gt (blk_lt (g := gb345) (o := .cells #[.int .i64 ((rd_T39 l0 x51_4).f0), .int .i64 ((rd_T39 l0 x51_4).f1), .int .i64 ((rd_T39 l0 x51_4).f2), .int .i64 ((rd_T39 l0 x51_4).f3), .int .i64 ((rd_T39 l0 x51_4).f4), .int .i64 ((rd_T39 l0 x51_4).f5)] 39 (0, 0)) (by (with_reducible repeat (first | refine blk_drewN ?_ _ | refine blk_drew ?_ | refine blk_alloc ?_ _)); exact BK345.out)) : gb347 ≠ gb345)); clear HO_8; clear HO_9; clear BK345; clear HB; have HO_8 := n0_; have HO_9 := n1_; have BK345 := n2_; have HB := n3_; have BK347 := n4_; have GW347 := n5_; have GE347 := n6_; have NB345_347 := n7_; have NB347_345 := n8_; clear n0_ n1_ n2_ n3_ n4_ n5_ n6_ n7_ n8_; clear hb hbox hg; have hnb50 := NB347_345.out; have hnc50 := NB345_347.out; have hcz51_0 : w49.cell? ⟨gb347, 0, none⟩ = some (.int .i64 0) := (blk_cell BK347.out 0).trans rfl; have hcz51_1 : w49.cell? ⟨gb347, 1, none⟩ = some (.int .i64 0) := (blk_cell BK347.out 1).trans rfl; have hcz51_2 : w49.cell? ⟨gb347, 2, none⟩ = some (.int .i64 0) := (blk_cell BK347.out 2).trans rfl; have hcz51_3 : w49.cell? ⟨gb347, 3, none⟩ = some (.int .i64 0) := (blk_cell BK347.out 3).trans rfl; have hcz51_4 : w49.cell? ⟨gb347, 4, none⟩ = some (.int .i64 0) := (blk_cell BK347.out 4).trans rfl; have hcz51_5 : w49.cell? ⟨gb347, 5, none⟩ = some (.int .i64 0) := (blk_cell BK347.out 5).trans rfl; have hfz51_0 := blk_frozen BK347.out 0; have hfz51_1 := blk_frozen BK347.out 1; have hfz51_2 := blk_frozen BK347.out 2; have hfz51_3 := blk_frozen BK347.out 3; have hfz51_4 := blk_frozen BK347.out 4; have hfz51_5 := blk_frozen BK347.out 5; obtain ⟨Ao52, co52, eo52⟩ := Kd.R_slice HO_8.out; subst eo52; have p348 : 0 ≤ (x58_5 : Int) := of_decide_eq_true (by first | (with_reducible assumption) | assumption); have q348 : x58_5 < (x8_5.length : Int) := of_decide_eq_true (by first | (with_reducible assumption) | assumption); obtain ⟨ad348, e348, hx348_0⟩ := Kd.at_bool (Kd.R_reads' HO_8.out).2.2 x58_5 p348 q348; (try rw [← Nbq39.out] at hx348_0); cases e348; have hn348_0 : ad348.block ≠ gb347 := Kd.own_blk (Kd.R_ne HO_8.out BK347.out (by decide)); have hn348_1 : ad348.block ≠ gb347 := Kd.own_blk (Kd.R_ne HO_8.out BK347.out (by decide)); have hn348_2 : ad348.block ≠ gb347 := Kd.own_blk (Kd.R_ne HO_8.out BK347.out (by decide)); have hn348_3 : ad348.block ≠ gb347 := Kd.own_blk (Kd.R_ne HO_8.out BK347.out (by decide)); have hn348_4 : ad348.block ≠ gb347 := Kd.own_blk (Kd.R_ne HO_8.out BK347.out (by decide)); have hn348_5 : ad348.block ≠ gb347 := Kd.own_blk (Kd.R_ne HO_8.out BK347.out (by decide)); replace hx348_0 := (cell_far (p := ⟨gb347, 0, none⟩) (by first | (rw [add_block]; exact hn348_0) | (show (Addr.add _ _).block ≠ _; rw [add_block]; exact hn348_0) | exact hn348_0) (.int .i64 ((rd_T39 l1 x58_5).f0))).trans hx348_0; replace hx348_0 := (cell_far (p := ⟨gb347, 1, none⟩) (by first | (rw [add_block]; exact hn348_1) | (show (Addr.add _ _).block ≠ _; rw [add_block]; exact hn348_1) | exact hn348_1) (.int .i64 ((rd_T39 l1 x58_5).f1))).trans hx348_0; replace hx348_0 := (cell_far (p := ⟨gb347, 2, none⟩) (by first | (rw [add_block]; exact hn348_2) | (show (Addr.add _ _).block ≠ _; rw [add_block]; exact hn348_2) | exact hn348_2) (.int .i64 ((rd_T39 l1 x58_5).f2))).trans hx348_0; replace hx348_0 := (cell_far (p := ⟨gb347, 3, none⟩) (by first | (rw [add_block]; exact hn348_3) | (show (Addr.add _ _).block ≠ _; rw [add_block]; exact hn348_3) | exact hn348_3) (.int .i64 ((rd_T39 l1 x58_5).f3))).trans hx348_0; replace hx348_0 := (cell_far (p := ⟨gb347, 4, none⟩) (by first | (rw [add_block]; exact hn348_4) | (show (Addr.add _ _).block ≠ _; rw [add_block]; exact hn348_4) | exact hn348_4) (.int .i64 ((rd_T39 l1 x58_5).f4))).trans hx348_0; replace hx348_0 := (cell_far (p := ⟨gb347, 5, none⟩) (by first | (rw [add_block]; exact hn348_5) | (show (Addr.add _ _).block ≠ _; rw [add_block]; exact hn348_5) | exact hn348_5) (.int .i64 ((rd_T39 l1 x58_5).f5))).trans hx348_0; clear hn348_0; clear hn348_1; clear hn348_2; clear hn348_3; clear hn348_4; clear hn348_5; replace p348 := eq_true p348; replace q348 := eq_true q348; have hcz53_0 : w49.cell? ⟨gb345, 0, none⟩ = some (.int .i64 ((rd_T39 l0 x51_4).f0)) := (blk_cell BK345.out 0).trans rfl; have hcz53_1 : w49.cell? ⟨gb345, 1, none⟩ = some (.int .i64 ((rd_T39 l0 x51_4).f1)) := (blk_cell BK345.out 1).trans rfl; have hcz53_2 : w49.cell? ⟨gb345, 2, none⟩ = some (.int .i64 ((rd_T39 l0 x51_4).f2)) := (blk_cell BK345.out 2).trans rfl; have hcz53_3 : w49.cell? ⟨gb345, 3, none⟩ = some (.int .i64 ((rd_T39 l0 x51_4).f3)) := (blk_cell BK345.out 3).trans rfl; have hcz53_4 : w49.cell? ⟨gb345, 4, none⟩ = some (.int .i64 ((rd_T39 l0 x51_4).f4)) := (blk_cell BK345.out 4).trans rfl; have hcz53_5 : w49.cell? ⟨gb345, 5, none⟩ = some (.int .i64 ((rd_T39 l0 x51_4).f5)) := (blk_cell BK345.out 5).trans rfl; have hfz53_0 := blk_frozen BK345.out 0; have hfz53_1 := blk_frozen BK345.out 1; have hfz53_2 := blk_frozen BK345.out 2; have hfz53_3 := blk_frozen BK345.out 3; have hfz53_4 := blk_frozen BK345.out 4; have hfz53_5 := blk_frozen BK345.out 5) | (go_at_call 47; (with_reducible refine (history_correspond.calls ((rd_T39 l0 x51_4).f0) ((rd_T39 l0 x51_4).f1) ((rd_T39 l0 x51_4).f2) ((rd_T39 l0 x51_4).f3) ((rd_T39 l0 x51_4).f4) ((rd_T39 l0 x51_4).f5) ((rd_T39 l1 x58_5).f0) ((rd_T39 l1 x58_5).f1) ((rd_T39 l1 x58_5).f2) ((rd_T39 l1 x58_5).f3) ((rd_T39 l1 x58_5).f4) ((rd_T39 l1 x58_5).f5) a2 true _ A45.out).mono ?_); rintro e w54 ⟨rfl, hb⟩; have n0_ := Aside0.mk (Kd.R_below (by (with_reducible repeat (first | apply Kd.R_alloc | apply Kd.R_drewN | apply Kd.R_drew)); exact (Kd.R_mono (Kd.R_far (p := ⟨gb347, 5, none⟩) (Kd.R_far (p := ⟨gb347, 4, none⟩) (Kd.R_far (p := ⟨gb347, 3, none⟩) (Kd.R_far (p := ⟨gb347, 2, none⟩) (Kd.R_far (p := ⟨gb347, 1, none⟩) (Kd.R_far (p := ⟨gb347, 0, none⟩) (Kd.R_types HO_8.out BK347.out (by decide)) (fun _ hk => hk.2) (.int .i64 ((rd_T39 l1 x58_5).f0))) (fun _ hk => hk.2) (.int .i64 ((rd_T39 l1 x58_5).f1))) (fun _ hk => hk.2) (.int .i64 ((rd_T39 l1 x58_5).f2))) (fun _ hk => hk.2) (.int .i64 ((rd_T39 l1 x58_5).f3))) (fun _ hk => hk.2) (.int .i64 ((rd_T39 l1 x58_5).f4))) (fun _ hk => hk.2) (.int .i64 ((rd_T39 l1 x58_5).f5))) (fun _ h_ => h_.1))) hb); have n1_ := Aside0.mk (Kd.R_below (by (with_reducible repeat (first | apply Kd.R_alloc | apply Kd.R_drewN | apply Kd.R_drew)); exact (Kd.R_mono (Kd.R_far (p := ⟨gb347, 5, none⟩) (Kd.R_far (p := ⟨gb347, 4, none⟩) (Kd.R_far (p := ⟨gb347, 3, none⟩) (Kd.R_far (p := ⟨gb347, 2, none⟩) (Kd.R_far (p := ⟨gb347, 1, none⟩) (Kd.R_far (p := ⟨gb347, 0, none⟩) (Kd.R_types HO_9.out BK347.out (by decide)) (fun _ hk => hk.2) (.int .i64 ((rd_T39 l1 x58_5).f0))) (fun _ hk => hk.2) (.int .i64 ((rd_T39 l1 x58_5).f1))) (fun _ hk => hk.2) (.int .i64 ((rd_T39 l1 x58_5).f2))) (fun _ hk => hk.2) (.int .i64 ((rd_T39 l1 x58_5).f3))) (fun _ hk => hk.2) (.int .i64 ((rd_T39 l1 x58_5).f4))) (fun _ hk => hk.2) (.int .i64 ((rd_T39 l1 x58_5).f5))) (fun _ h_ => h_.1))) hb); have n2_ := Aside0.mk (blk_below (g := gb345) (o := .cells #[.int .i64 ((rd_T39 l0 x51_4).f0), .int .i64 ((rd_T39 l0 x51_4).f1), .int .i64 ((rd_T39 l0 x51_4).f2), .int .i64 ((rd_T39 l0 x51_4).f3), .int .i64 ((rd_T39 l0 x51_4).f4), .int .i64 ((rd_T39 l0 x51_4).f5)] 39 (0, 0)) (by (with_reducible repeat (first | refine blk_drewN ?_ _ | refine blk_drew ?_ | refine blk_alloc ?_ _)); refine blk_far ?_ NB345_347.out _; (with_reducible repeat (first | refine blk_drewN ?_ _ | refine blk_drew ?_ | refine blk_alloc ?_ _)); refine blk_far ?_ NB345_347.out _; (with_reducible repeat (first | refine blk_drewN ?_ _ | refine blk_drew ?_ | refine blk_alloc ?_ _)); refine blk_far ?_ NB345_347.out _; (with_reducible repeat (first | refine blk_drewN ?_ _ | refine blk_drew ?_ | refine blk_alloc ?_ _)); refine blk_far ?_ NB345_347.out _; (with_reducible repeat (first | refine blk_drewN ?_ _ | refine blk_drew ?_ | refine blk_alloc ?_ _)); refine blk_far ?_ NB345_347.out _; (with_reducible repeat (first | refine blk_drewN ?_ _ | refine blk_drew ?_ | refine blk_alloc ?_ _)); refine blk_far ?_ NB345_347.out _; (with_reducible repeat (first | refine blk_drewN ?_ _ | refine blk_drew ?_ | refine blk_alloc ?_ _)); exact BK345.out) hb); have n3_ := Aside0.mk (blk_below (g := gb347) (o := .cells #[.int .i64 ((rd_T39 l1 x58_5).f0), .int .i64 ((rd_T39 l1 x58_5).f1), .int .i64 ((rd_T39 l1 x58_5).f2), .int .i64 ((rd_T39 l1 x58_5).f3), .int .i64 ((rd_T39 l1 x58_5).f4), .int .i64 ((rd_T39 l1 x58_5).f5)] 39 (0, 0)) (by (with_reducible repeat (first | refine blk_drewN ?_ _ | refine blk_drew ?_ | refine blk_alloc ?_ _)); refine blk_put (cs := #[.int .i64 ((rd_T39 l1 x58_5).f0), .int .i64 ((rd_T39 l1 x58_5).f1), .int .i64 ((rd_T39 l1 x58_5).f2), .int .i64 ((rd_T39 l1 x58_5).f3), .int .i64 ((rd_T39 l1 x58_5).f4), .int .i64 0]) ?_ 5 _ rfl; (with_reducible repeat (first | refine blk_drewN ?_ _ | refine blk_drew ?_ | refine blk_alloc ?_ _)); refine blk_put (cs := #[.int .i64 ((rd_T39 l1 x58_5).f0), .int .i64 ((rd_T39 l1 x58_5).f1), .int .i64 ((rd_T39 l1 x58_5).f2), .int .i64 ((rd_T39 l1 x58_5).f3), .int .i64 0, .int .i64 0]) ?_ 4 _ rfl; (with_reducible repeat (first | refine blk_drewN ?_ _ | refine blk_drew ?_ | refine blk_alloc ?_ _)); refine blk_put (cs := #[.int .i64 ((rd_T39 l1 x58_5).f0), .int .i64 ((rd_T39 l1 x58_5).f1), .int .i64 ((rd_T39 l1 x58_5).f2), .int .i64 0, .int .i64 0, .int .i64 0]) ?_ 3 _ rfl; (with_reducible repeat (first | refine blk_drewN ?_ _ | refine blk_drew ?_ | refine blk_alloc ?_ _)); refine blk_put (cs := #[.int .i64 ((rd_T39 l1 x58_5).f0), .int .i64 ((rd_T39 l1 x58_5).f1), .int .i64 0, .int .i64 0, .int .i64 0, .int .i64 0]) ?_ 2 _ rfl; (with_reducible repeat (first | refine blk_drewN ?_ _ | refine blk_drew ?_ | refine blk_alloc ?_ _)); refine blk_put (cs := #[.int .i64 ((rd_T39 l1 x58_5).f0), .int .i64 0, .int .i64 0, .int .i64 0, .int .i64 0, .int .i64 0]) ?_ 1 _ rfl; (with_reducible repeat (first | refine blk_drewN ?_ _ | refine blk_drew ?_ | refine blk_alloc ?_ _)); refine blk_put (cs := #[.int .i64 0, .int .i64 0, .int .i64 0, .int .i64 0, .int .i64 0, .int .i64 0]) ?_ 0 _ rfl; (with_reducible repeat (first | refine blk_drewN ?_ _ | refine blk_drew ?_ | refine blk_alloc ?_ _)); exact BK347.out) hb); have n4_ := Aside0.mk (below_step (by repeat (first | (with_reducible first | exact HB.out | apply below_alloc | apply pw_below_drewN | apply below_drew1 | refine below_set ?_ GE345.out | refine below_set ?_ GE347.out) | exact HB.out)) hb); clear HO_8; clear HO_9; clear BK345; clear BK347; clear HB; have HO_8 := n0_; have HO_9 := n1_; have BK345 := n2_; have BK347 := n3_; have HB := n4_; clear n0_ n1_ n2_ n3_ n4_; (try clear hb); (try clear hb2); (try clear hk); (try clear hi); have p47 : 0 ≤ (x58_5 : Int) := of_decide_eq_true (by first | (with_reducible assumption) | assumption); have q47 : (x58_5 : Int) < ((x8_5.length : Int) : Int) := of_decide_eq_true (by first | (with_reducible assumption) | assumption); obtain ⟨go47, co47, eo47, gb47, gl47, cl47, HG47⟩ := Kd.R_form HO_8.out (by omega); (first | cases eo47 | (injection eo47 with ea_ en_ ec_; (first | subst ea_ | (injection ea_ with ea_; subst ea_)); subst ec_; clear en_)); have GB47 := Aside0.mk gb47; have GG47 := Aside0.mk HG47; clear gb47 gl47 HG47; (first | simp only [add_plain] at hx348_0 | skip); obtain ⟨hx47_0, hf47_0⟩ := Kd.R_celln false HO_8.out (x58_5 : Int) p47 q47; replace p47 := eq_true p47; replace q47 := eq_true q47; obtain ⟨hy55_, hz55_⟩ := Kd.R_celln false HO_8.out (x58_5 : Int) (of_decide_eq_true (by first | (with_reducible assumption) | assumption)) (of_decide_eq_true (by first | (with_reducible assumption) | assumption)); have HP55 := Kd.R_putg HO_8.out (x58_5 : Int) true) | ((with_reducible refine gate_store (t := 4) (p := 76) rfl ?_); refine store_event (t := 4) (p := 76) (v := ?vo_w56) (w1 := (w54.setCell ⟨go47, (x58_5 : Int).toNat, none⟩ (.bool true))) ?hg ?ho ?hn ?hr ?_; (case ho => rfl); (case hg => rfl); (case hn => rfl); (case hr => first | (go_simp; done) | (go_simp; rfl)); intro w56 hw; have hg : w54.grownBy w56 (some go47) := (by rw [hw]; exact HP55.2); have hp_ : Kd.R Kd.bool 4 w56 w.heap.size (fun _ => True) (.slice (some ⟨go47, 0, none⟩) x8_5.length co52) y350 := (by rw [hw, Ny350.out]; exact HP55.1); clear HP55; have n0_ := Aside0.mk (hp_); have n1_ := Aside0.mk (Kd.R_over' (v := (.slice (some ⟨go47, 0, none⟩) x8_5.length co52)) (by (with_reducible repeat (first | apply Kd.R_alloc | apply Kd.R_drewN | apply Kd.R_drew)); exact HO_9.out) (Kd.R_typed HO_8.out) (by decide) hg); have n2_ := Aside0.mk (blk_grown (g := gb345) (o := .cells #[.int .i64 ((rd_T39 l0 x51_4).f0), .int .i64 ((rd_T39 l0 x51_4).f1), .int .i64 ((rd_T39 l0 x51_4).f2), .int .i64 ((rd_T39 l0 x51_4).f3), .int .i64 ((rd_T39 l0 x51_4).f4), .int .i64 ((rd_T39 l0 x51_4).f5)] 39 (0, 0)) (by (with_reducible repeat (first | refine blk_drewN ?_ _ | refine blk_drew ?_ | refine blk_alloc ?_ _)); exact BK345.out) hg (Kd.R_ne HO_8.out BK345.out (by decide))); have n3_ := Aside0.mk (blk_grown (g := gb347) (o := .cells #[.int .i64 ((rd_T39 l1 x58_5).f0), .int .i64 ((rd_T39 l1 x58_5).f1), .int .i64 ((rd_T39 l1 x58_5).f2), .int .i64 ((rd_T39 l1 x58_5).f3), .int .i64 ((rd_T39 l1 x58_5).f4), .int .i64 ((rd_T39 l1 x58_5).f5)] 39 (0, 0)) (by (with_reducible repeat (first | refine blk_drewN ?_ _ | refine blk_drew ?_ | refine blk_alloc ?_ _)); exact BK347.out) hg (Kd.R_ne HO_8.out BK347.out (by decide))); have n4_ := Aside0.mk ((by rw [hw]; exact below_set (HB.out) GB47.out : Below w.heap.size w w56)); clear HO_8; clear HO_9; clear BK345; clear BK347; clear HB; have HO_8 := n0_; have HO_9 := n1_; have BK345 := n2_; have BK347 := n3_; have HB := n4_; clear n0_ n1_ n2_ n3_ n4_; clear hg hw hp_) | ((with_reducible refine gate_builtin (b := .append) (xs := #[.tmp 77, .tmp 81]) rfl ?_); (try (refine gate_guard (by rfl) ?_; dsimp only)); at_builtin; refine Kd.R_append k62 (w0 := w) w.heap.size rfl (.tmp 77) (.tmp 81) 54 62 (.agg #[(.int .i64 0), (.int .i64 0)]) 16 rfl Tryd.underlying54 info62 rfl (by decide) (by omega) u9 x9_5 (⟨x51_4, x58_5⟩ : S62) [.int .i64 x51_4, .int .i64 x58_5] (fun _ => True) (fun _ => False) rfl rfl ?aP (fun _ hk => hk.elim) ?aF ?aO ?aB ?aS ?aL ?_; (case aP => exact k62_mkM _ _ _ (⟨x51_4, x58_5⟩ : S62)); (case aB => exact (by repeat (first | (with_reducible first | exact HB.out | apply below_alloc | apply pw_below_drewN | apply below_drew1 | refine below_set ?_ GE345.out | refine below_set ?_ GE347.out) | exact HB.out))); (case aF => exact (fun _ _ => trivial)); (case aO => exact (by (with_reducible repeat (first | apply Kd.R_alloc | apply Kd.R_drewN | apply Kd.R_drew)); exact HO_9.out)); (case aS => exact (below_size (by repeat (first | (with_reducible first | exact HB.out | apply below_alloc | apply pw_below_drewN | apply below_drew1 | refine below_set ?_ GE345.out | refine below_set ?_ GE347.out) | exact HB.out)))); (case aL => have := LMc48.out; omega); intro v352 w57 ho hb hg hat; rw [← Ny351.out] at ho; have n0_ := Aside0.mk (Kd.R_over' (by (with_reducible repeat (first | apply Kd.R_alloc | apply Kd.R_drewN | apply Kd.R_drew)); exact HO_8.out) (Kd.R_typed (by (with_reducible repeat (first | apply Kd.R_alloc | apply Kd.R_drewN | apply Kd.R_drew)); exact HO_9.out)) (by decide) hg); have n1_ := Aside0.mk (blk_grown (g := gb345) (o := .cells #[.int .i64 ((rd_T39 l0 x51_4).f0), .int .i64 ((rd_T39 l0 x51_4).f1), .int .i64 ((rd_T39 l0 x51_4).f2), .int .i64 ((rd_T39 l0 x51_4).f3), .int .i64 ((rd_T39 l0 x51_4).f4), .int .i64 ((rd_T39 l0 x51_4).f5)] 39 (0, 0)) (by (with_reducible repeat (first | refine blk_drewN ?_ _ | refine blk_drew ?_ | refine blk_alloc ?_ _)); exact BK345.out) hg (Kd.R_ne HO_9.out BK345.out (by decide))); have n2_ := Aside0.mk (blk_grown (g := gb347) (o := .cells #[.int .i64 ((rd_T39 l1 x58_5).f0), .int .i64 ((rd_T39 l1 x58_5).f1), .int .i64 ((rd_T39 l1 x58_5).f2), .int .i64 ((rd_T39 l1 x58_5).f3), .int .i64 ((rd_T39 l1 x58_5).f4), .int .i64 ((rd_T39 l1 x58_5).f5)] 39 (0, 0)) (by (with_reducible repeat (first | refine blk_drewN ?_ _ | refine blk_drew ?_ | refine blk_alloc ?_ _)); exact BK347.out) hg (Kd.R_ne HO_9.out BK347.out (by decide))); have n3_ := Aside0.mk (hb); have n4_ := Aside0.mk (ho); clear HO_8; clear BK345; clear BK347; clear HB; clear HO_9; have HO_8 := n0_; have BK345 := n1_; have BK347 := n2_; have HB := n3_; have HO353 := n4_; clear n0_ n1_ n2_ n3_ n4_; clear ho hb hg hat))
                                                    go_roundg k5
                                                    case measure => have := HJ3.out; have := HJ6.out; have := HJ20.out; have := HK4.out; have := HK5.out; omega
                                                    case rel => exact ⟨(y350), (y351), (wrap64 (x51_4 + 1)), (by first | rfl | (simp; done) | (simp [*]; done)), H', ⟨by have := HJ3.out; have := HJ6.out; have := HJ20.out; have := HK4.out; have := HK5.out; omega⟩, ⟨by (with_reducible repeat (first | apply Kd.R_alloc | apply Kd.R_drewN | apply Kd.R_drew)); exact HO_8.out⟩, ⟨by (with_reducible repeat (first | apply Kd.R_alloc | apply Kd.R_drewN | apply Kd.R_drew)); exact HO353.out⟩, ⟨by repeat (first | (with_reducible first | exact HB.out | apply below_alloc | apply pw_below_drewN | apply below_drew1 | refine below_set ?_ GE345.out | refine below_set ?_ GE347.out) | exact HB.out)⟩⟩
                                                  · rw [if_neg c48] at H
                                                    exact absurd H (by simp)
                                                · replace c46 := Bool.eq_false_iff.mpr c46
                                                  subst c46
                                                  have H1 : (history_Match.l1 k5 l1 a2 x8_5 x9_5 x51_4 l0 (l0.length : Int) x51_4 l1 (l1.length : Int) (wrap64 (x58_5 + 1)) ((rd_T39 l0 x51_4).f0) ((rd_T39 l0 x51_4).f1) ((rd_T39 l0 x51_4).f2) ((rd_T39 l0 x51_4).f3) ((rd_T39 l0 x51_4).f4) ((rd_T39 l0 x51_4).f5)) = some (r1, r2) := by rw [if_neg (show ¬ (false = true) by decide)] at H; exact H
                                                  clear H
                                                  have H := H1
                                                  clear H1
                                                  have H' := Aside0.mk H
                                                  clear H
                                                  have p346 : 0 ≤ (x58_5 : Int) := of_decide_eq_true (by first | (with_reducible assumption) | assumption)
                                                  have q346 : x58_5 < (l1.length : Int) := of_decide_eq_true (by first | (with_reducible assumption) | assumption)
                                                  obtain ⟨ad346, e346, hx346_0, hx346_1, hx346_2, hx346_3, hx346_4, hx346_5⟩ := at_T39 HR1.out x58_5 p346 q346
                                                  cases e346
                                                  replace hx346_0 := (HB.out.cell (World.block_lt_of_cell? w _ hx346_0)).trans hx346_0
                                                  replace hx346_1 := (HB.out.cell (World.block_lt_of_cell? w _ hx346_1)).trans hx346_1
                                                  replace hx346_2 := (HB.out.cell (World.block_lt_of_cell? w _ hx346_2)).trans hx346_2
                                                  replace hx346_3 := (HB.out.cell (World.block_lt_of_cell? w _ hx346_3)).trans hx346_3
                                                  replace hx346_4 := (HB.out.cell (World.block_lt_of_cell? w _ hx346_4)).trans hx346_4
                                                  replace hx346_5 := (HB.out.cell (World.block_lt_of_cell? w _ hx346_5)).trans hx346_5
                                                  replace p346 := eq_true p346
                                                  replace q346 := eq_true q346
                                                  go_wp2_with (first | ((with_reducible refine gate_dst (N := 13) rfl ?_); (try (refine gate_guard (by rfl) ?_; dsimp only)); refine box_event ?hg (N := 13) ?hd (cs := #[.int .i64 0, .int .i64 0, .int .i64 0, .int .i64 0, .int .i64 0, .int .i64 0]) (t := 39) ?hr ?_; (case hd => rfl); (case hg => rfl); (case hr => first | (go_simp; done) | (go_simp; rfl)); intro gb347 hg w58 hbox hb; have n0_ := Aside0.mk (Kd.R_below (by (with_reducible repeat (first | apply Kd.R_alloc | apply Kd.R_drewN | apply Kd.R_drew)); exact HO_8.out) hb); have n1_ := Aside0.mk (Kd.R_below (by (with_reducible repeat (first | apply Kd.R_alloc | apply Kd.R_drewN | apply Kd.R_drew)); exact HO_9.out) hb); have n2_ := Aside0.mk (blk_below (g := gb345) (o := .cells #[.int .i64 ((rd_T39 l0 x51_4).f0), .int .i64 ((rd_T39 l0 x51_4).f1), .int .i64 ((rd_T39 l0 x51_4).f2), .int .i64 ((rd_T39 l0 x51_4).f3), .int .i64 ((rd_T39 l0 x51_4).f4), .int .i64 ((rd_T39 l0 x51_4).f5)] 39 (0, 0)) (by (with_reducible repeat (first | refine blk_drewN ?_ _ | refine blk_drew ?_ | refine blk_alloc ?_ _)); exact BK345.out) hb); have n3_ := Aside0.mk (below_step (by repeat (first | (with_reducible first | exact HB.out | apply below_alloc | apply pw_below_drewN | apply below_drew1 | refine below_set ?_ GE345.out) | exact HB.out)) hb); have n4_ := Aside0.mk (hbox); have n5_ := Aside0.mk ((by rw [hg]; exact (below_size (by repeat (first | (with_reducible first | exact HB.out | apply below_alloc | apply pw_below_drewN | apply below_drew1 | refine below_set ?_ GE345.out) | exact HB.out))) : w.heap.size ≤ gb347)); have n6_ := Aside0.mk ((by rw [hg]; exact (below_size (by repeat (first | (with_reducible first | exact HB.out | apply below_alloc | apply pw_below_drewN | apply below_drew1 | refine below_set ?_ GE345.out) | exact HB.out))) : w.heap.size ≤ gb347)); have n7_ := Aside0.mk ((by rw [hg]; exact Nat.ne_of_lt (blk_lt (g := gb345) (o := .cells #[.int .i64 ((rd_T39 l0 x51_4).f0), .int .i64 ((rd_T39 l0 x51_4).f1), .int .i64 ((rd_T39 l0 x51_4).f2), .int .i64 ((rd_T39 l0 x51_4).f3), .int .i64 ((rd_T39 l0 x51_4).f4), .int .i64 ((rd_T39 l0 x51_4).f5)] 39 (0, 0)) (by (with_reducible repeat (first | refine blk_drewN ?_ _ | refine blk_drew ?_ | refine blk_alloc ?_ _)); exact BK345.out)) : gb345 ≠ gb347)); have n8_ := Aside0.mk ((by rw [hg]; exact Nat.ne_of_gt (blk_lt (g := gb345) (o := .cells #[.int .i64 ((rd_T39 l0 x51_4).f0), .int .i64 ((rd_T39 l0 x51_4).f1), .int .i64 ((rd_T39 l0 x51_4).f2), .int .i64 ((rd_T39 l0 x51_4).f3), .int .i64 ((rd_T39 l0 x51_4).f4), .int .i64 ((rd_T39 l0 x51_4).f5)] 39 (0, 0)) (by (with_reducible repeat (first | refine blk_drewN ?_ _ | refine blk_drew ?_ | refine blk_alloc ?_ _)); exact BK345.out)) : gb347 ≠ gb345)); clear HO_8; clear HO_9; clear BK345; clear HB; have HO_8 := n0_; have HO_9 := n1_; have BK345 := n2_; have HB := n3_; have BK347 := n4_; have GW347 := n5_; have GE347 := n6_; have NB345_347 := n7_; have NB347_345 := n8_; clear n0_ n1_ n2_ n3_ n4_ n5_ n6_ n7_ n8_; clear hb hbox hg; have hnb59 := NB347_345.out; have hnc59 := NB345_347.out; have hcz60_0 : w58.cell? ⟨gb347, 0, none⟩ = some (.int .i64 0) := (blk_cell BK347.out 0).trans rfl; have hcz60_1 : w58.cell? ⟨gb347, 1, none⟩ = some (.int .i64 0) := (blk_cell BK347.out 1).trans rfl; have hcz60_2 : w58.cell? ⟨gb347, 2, none⟩ = some (.int .i64 0) := (blk_cell BK347.out 2).trans rfl; have hcz60_3 : w58.cell? ⟨gb347, 3, none⟩ = some (.int .i64 0) := (blk_cell BK347.out 3).trans rfl; have hcz60_4 : w58.cell? ⟨gb347, 4, none⟩ = some (.int .i64 0) := (blk_cell BK347.out 4).trans rfl; have hcz60_5 : w58.cell? ⟨gb347, 5, none⟩ = some (.int .i64 0) := (blk_cell BK347.out 5).trans rfl; have hfz60_0 := blk_frozen BK347.out 0; have hfz60_1 := blk_frozen BK347.out 1; have hfz60_2 := blk_frozen BK347.out 2; have hfz60_3 := blk_frozen BK347.out 3; have hfz60_4 := blk_frozen BK347.out 4; have hfz60_5 := blk_frozen BK347.out 5; obtain ⟨Ao61, co61, eo61⟩ := Kd.R_slice HO_8.out; subst eo61; have p348 : 0 ≤ (x58_5 : Int) := of_decide_eq_true (by first | (with_reducible assumption) | assumption); have q348 : x58_5 < (x8_5.length : Int) := of_decide_eq_true (by first | (with_reducible assumption) | assumption); obtain ⟨ad348, e348, hx348_0⟩ := Kd.at_bool (Kd.R_reads' HO_8.out).2.2 x58_5 p348 q348; (try rw [← Nbq39.out] at hx348_0); cases e348; have hn348_0 : ad348.block ≠ gb347 := Kd.own_blk (Kd.R_ne HO_8.out BK347.out (by decide)); have hn348_1 : ad348.block ≠ gb347 := Kd.own_blk (Kd.R_ne HO_8.out BK347.out (by decide)); have hn348_2 : ad348.block ≠ gb347 := Kd.own_blk (Kd.R_ne HO_8.out BK347.out (by decide)); have hn348_3 : ad348.block ≠ gb347 := Kd.own_blk (Kd.R_ne HO_8.out BK347.out (by decide)); have hn348_4 : ad348.block ≠ gb347 := Kd.own_blk (Kd.R_ne HO_8.out BK347.out (by decide)); have hn348_5 : ad348.block ≠ gb347 := Kd.own_blk (Kd.R_ne HO_8.out BK347.out (by decide)); replace hx348_0 := (cell_far (p := ⟨gb347, 0, none⟩) (by first | (rw [add_block]; exact hn348_0) | (show (Addr.add _ _).block ≠ _; rw [add_block]; exact hn348_0) | exact hn348_0) (.int .i64 ((rd_T39 l1 x58_5).f0))).trans hx348_0; replace hx348_0 := (cell_far (p := ⟨gb347, 1, none⟩) (by first | (rw [add_block]; exact hn348_1) | (show (Addr.add _ _).block ≠ _; rw [add_block]; exact hn348_1) | exact hn348_1) (.int .i64 ((rd_T39 l1 x58_5).f1))).trans hx348_0; replace hx348_0 := (cell_far (p := ⟨gb347, 2, none⟩) (by first | (rw [add_block]; exact hn348_2) | (show (Addr.add _ _).block ≠ _; rw [add_block]; exact hn348_2) | exact hn348_2) (.int .i64 ((rd_T39 l1 x58_5).f2))).trans hx348_0; replace hx348_0 := (cell_far (p := ⟨gb347, 3, none⟩) (by first | (rw [add_block]; exact hn348_3) | (show (Addr.add _ _).block ≠ _; rw [add_block]; exact hn348_3) | exact hn348_3) (.int .i64 ((rd_T39 l1 x58_5).f3))).trans hx348_0; replace hx348_0 := (cell_far (p := ⟨gb347, 4, none⟩) (by first | (rw [add_block]; exact hn348_4) | (show (Addr.add _ _).block ≠ _; rw [add_block]; exact hn348_4) | exact hn348_4) (.int .i64 ((rd_T39 l1 x58_5).f4))).trans hx348_0; replace hx348_0 := (cell_far (p := ⟨gb347, 5, none⟩) (by first | (rw [add_block]; exact hn348_5) | (show (Addr.add _ _).block ≠ _; rw [add_block]; exact hn348_5) | exact hn348_5) (.int .i64 ((rd_T39 l1 x58_5).f5))).trans hx348_0; clear hn348_0; clear hn348_1; clear hn348_2; clear hn348_3; clear hn348_4; clear hn348_5; replace p348 := eq_true p348; replace q348 := eq_true q348; have hcz62_0 : w58.cell? ⟨gb345, 0, none⟩ = some (.int .i64 ((rd_T39 l0 x51_4).f0)) := (blk_cell BK345.out 0).trans rfl; have hcz62_1 : w58.cell? ⟨gb345, 1, none⟩ = some (.int .i64 ((rd_T39 l0 x51_4).f1)) := (blk_cell BK345.out 1).trans rfl; have hcz62_2 : w58.cell? ⟨gb345, 2, none⟩ = some (.int .i64 ((rd_T39 l0 x51_4).f2)) := (blk_cell BK345.out 2).trans rfl; have hcz62_3 : w58.cell? ⟨gb345, 3, none⟩ = some (.int .i64 ((rd_T39 l0 x51_4).f3)) := (blk_cell BK345.out 3).trans rfl; have hcz62_4 : w58.cell? ⟨gb345, 4, none⟩ = some (.int .i64 ((rd_T39 l0 x51_4).f4)) := (blk_cell BK345.out 4).trans rfl; have hcz62_5 : w58.cell? ⟨gb345, 5, none⟩ = some (.int .i64 ((rd_T39 l0 x51_4).f5)) := (blk_cell BK345.out 5).trans rfl; have hfz62_0 := blk_frozen BK345.out 0; have hfz62_1 := blk_frozen BK345.out 1; have hfz62_2 := blk_frozen BK345.out 2; have hfz62_3 := blk_frozen BK345.out 3; have hfz62_4 := blk_frozen BK345.out 4; have hfz62_5 := blk_frozen BK345.out 5) | (go_at_call 47; (with_reducible refine (history_correspond.calls ((rd_T39 l0 x51_4).f0) ((rd_T39 l0 x51_4).f1) ((rd_T39 l0 x51_4).f2) ((rd_T39 l0 x51_4).f3) ((rd_T39 l0 x51_4).f4) ((rd_T39 l0 x51_4).f5) ((rd_T39 l1 x58_5).f0) ((rd_T39 l1 x58_5).f1) ((rd_T39 l1 x58_5).f2) ((rd_T39 l1 x58_5).f3) ((rd_T39 l1 x58_5).f4) ((rd_T39 l1 x58_5).f5) a2 false _ A45.out).mono ?_); rintro e w63 ⟨rfl, hb⟩; have n0_ := Aside0.mk (Kd.R_below (by (with_reducible repeat (first | apply Kd.R_alloc | apply Kd.R_drewN | apply Kd.R_drew)); exact (Kd.R_mono (Kd.R_far (p := ⟨gb347, 5, none⟩) (Kd.R_far (p := ⟨gb347, 4, none⟩) (Kd.R_far (p := ⟨gb347, 3, none⟩) (Kd.R_far (p := ⟨gb347, 2, none⟩) (Kd.R_far (p := ⟨gb347, 1, none⟩) (Kd.R_far (p := ⟨gb347, 0, none⟩) (Kd.R_types HO_8.out BK347.out (by decide)) (fun _ hk => hk.2) (.int .i64 ((rd_T39 l1 x58_5).f0))) (fun _ hk => hk.2) (.int .i64 ((rd_T39 l1 x58_5).f1))) (fun _ hk => hk.2) (.int .i64 ((rd_T39 l1 x58_5).f2))) (fun _ hk => hk.2) (.int .i64 ((rd_T39 l1 x58_5).f3))) (fun _ hk => hk.2) (.int .i64 ((rd_T39 l1 x58_5).f4))) (fun _ hk => hk.2) (.int .i64 ((rd_T39 l1 x58_5).f5))) (fun _ h_ => h_.1))) hb); have n1_ := Aside0.mk (Kd.R_below (by (with_reducible repeat (first | apply Kd.R_alloc | apply Kd.R_drewN | apply Kd.R_drew)); exact (Kd.R_mono (Kd.R_far (p := ⟨gb347, 5, none⟩) (Kd.R_far (p := ⟨gb347, 4, none⟩) (Kd.R_far (p := ⟨gb347, 3, none⟩) (Kd.R_far (p := ⟨gb347, 2, none⟩) (Kd.R_far (p := ⟨gb347, 1, none⟩) (Kd.R_far (p := ⟨gb347, 0, none⟩) (Kd.R_types HO_9.out BK347.out (by decide)) (fun _ hk => hk.2) (.int .i64 ((rd_T39 l1 x58_5).f0))) (fun _ hk => hk.2) (.int .i64 ((rd_T39 l1 x58_5).f1))) (fun _ hk => hk.2) (.int .i64 ((rd_T39 l1 x58_5).f2))) (fun _ hk => hk.2) (.int .i64 ((rd_T39 l1 x58_5).f3))) (fun _ hk => hk.2) (.int .i64 ((rd_T39 l1 x58_5).f4))) (fun _ hk => hk.2) (.int .i64 ((rd_T39 l1 x58_5).f5))) (fun _ h_ => h_.1))) hb); have n2_ := Aside0.mk (blk_below (g := gb345) (o := .cells #[.int .i64 ((rd_T39 l0 x51_4).f0), .int .i64 ((rd_T39 l0 x51_4).f1), .int .i64 ((rd_T39 l0 x51_4).f2), .int .i64 ((rd_T39 l0 x51_4).f3), .int .i64 ((rd_T39 l0 x51_4).f4), .int .i64 ((rd_T39 l0 x51_4).f5)] 39 (0, 0)) (by (with_reducible repeat (first | refine blk_drewN ?_ _ | refine blk_drew ?_ | refine blk_alloc ?_ _)); refine blk_far ?_ NB345_347.out _; (with_reducible repeat (first | refine blk_drewN ?_ _ | refine blk_drew ?_ | refine blk_alloc ?_ _)); refine blk_far ?_ NB345_347.out _; (with_reducible repeat (first | refine blk_drewN ?_ _ | refine blk_drew ?_ | refine blk_alloc ?_ _)); refine blk_far ?_ NB345_347.out _; (with_reducible repeat (first | refine blk_drewN ?_ _ | refine blk_drew ?_ | refine blk_alloc ?_ _)); refine blk_far ?_ NB345_347.out _; (with_reducible repeat (first | refine blk_drewN ?_ _ | refine blk_drew ?_ | refine blk_alloc ?_ _)); refine blk_far ?_ NB345_347.out _; (with_reducible repeat (first | refine blk_drewN ?_ _ | refine blk_drew ?_ | refine blk_alloc ?_ _)); refine blk_far ?_ NB345_347.out _; (with_reducible repeat (first | refine blk_drewN ?_ _ | refine blk_drew ?_ | refine blk_alloc ?_ _)); exact BK345.out) hb); have n3_ := Aside0.mk (blk_below (g := gb347) (o := .cells #[.int .i64 ((rd_T39 l1 x58_5).f0), .int .i64 ((rd_T39 l1 x58_5).f1), .int .i64 ((rd_T39 l1 x58_5).f2), .int .i64 ((rd_T39 l1 x58_5).f3), .int .i64 ((rd_T39 l1 x58_5).f4), .int .i64 ((rd_T39 l1 x58_5).f5)] 39 (0, 0)) (by (with_reducible repeat (first | refine blk_drewN ?_ _ | refine blk_drew ?_ | refine blk_alloc ?_ _)); refine blk_put (cs := #[.int .i64 ((rd_T39 l1 x58_5).f0), .int .i64 ((rd_T39 l1 x58_5).f1), .int .i64 ((rd_T39 l1 x58_5).f2), .int .i64 ((rd_T39 l1 x58_5).f3), .int .i64 ((rd_T39 l1 x58_5).f4), .int .i64 0]) ?_ 5 _ rfl; (with_reducible repeat (first | refine blk_drewN ?_ _ | refine blk_drew ?_ | refine blk_alloc ?_ _)); refine blk_put (cs := #[.int .i64 ((rd_T39 l1 x58_5).f0), .int .i64 ((rd_T39 l1 x58_5).f1), .int .i64 ((rd_T39 l1 x58_5).f2), .int .i64 ((rd_T39 l1 x58_5).f3), .int .i64 0, .int .i64 0]) ?_ 4 _ rfl; (with_reducible repeat (first | refine blk_drewN ?_ _ | refine blk_drew ?_ | refine blk_alloc ?_ _)); refine blk_put (cs := #[.int .i64 ((rd_T39 l1 x58_5).f0), .int .i64 ((rd_T39 l1 x58_5).f1), .int .i64 ((rd_T39 l1 x58_5).f2), .int .i64 0, .int .i64 0, .int .i64 0]) ?_ 3 _ rfl; (with_reducible repeat (first | refine blk_drewN ?_ _ | refine blk_drew ?_ | refine blk_alloc ?_ _)); refine blk_put (cs := #[.int .i64 ((rd_T39 l1 x58_5).f0), .int .i64 ((rd_T39 l1 x58_5).f1), .int .i64 0, .int .i64 0, .int .i64 0, .int .i64 0]) ?_ 2 _ rfl; (with_reducible repeat (first | refine blk_drewN ?_ _ | refine blk_drew ?_ | refine blk_alloc ?_ _)); refine blk_put (cs := #[.int .i64 ((rd_T39 l1 x58_5).f0), .int .i64 0, .int .i64 0, .int .i64 0, .int .i64 0, .int .i64 0]) ?_ 1 _ rfl; (with_reducible repeat (first | refine blk_drewN ?_ _ | refine blk_drew ?_ | refine blk_alloc ?_ _)); refine blk_put (cs := #[.int .i64 0, .int .i64 0, .int .i64 0, .int .i64 0, .int .i64 0, .int .i64 0]) ?_ 0 _ rfl; (with_reducible repeat (first | refine blk_drewN ?_ _ | refine blk_drew ?_ | refine blk_alloc ?_ _)); exact BK347.out) hb); have n4_ := Aside0.mk (below_step (by repeat (first | (with_reducible first | exact HB.out | apply below_alloc | apply pw_below_drewN | apply below_drew1 | refine below_set ?_ GE345.out | refine below_set ?_ GE347.out) | exact HB.out)) hb); clear HO_8; clear HO_9; clear BK345; clear BK347; clear HB; have HO_8 := n0_; have HO_9 := n1_; have BK345 := n2_; have BK347 := n3_; have HB := n4_; clear n0_ n1_ n2_ n3_ n4_; (try clear hb); (try clear hb2); (try clear hk); (try clear hi)))
                                                  go_roundg k5
                                                  case measure => have := HJ3.out; have := HJ6.out; have := HJ20.out; have := HK4.out; have := HK5.out; omega
                                                  case rel => exact ⟨(x8_5), (x9_5), (wrap64 (x58_5 + 1)), (by first | rfl | (simp; done) | (simp [*]; done)), H', ⟨by have := HJ3.out; have := HJ6.out; have := HJ20.out; have := HK4.out; have := HK5.out; omega⟩, ⟨by (with_reducible repeat (first | apply Kd.R_alloc | apply Kd.R_drewN | apply Kd.R_drew)); exact HO_8.out⟩, ⟨by (with_reducible repeat (first | apply Kd.R_alloc | apply Kd.R_drewN | apply Kd.R_drew)); exact HO_9.out⟩, ⟨by (with_reducible repeat (first | refine blk_drewN ?_ _ | refine blk_drew ?_ | refine blk_alloc ?_ _)); exact BK345.out⟩, ⟨by repeat (first | (with_reducible first | exact HB.out | apply below_alloc | apply pw_below_drewN | apply below_drew1 | refine below_set ?_ GE345.out | refine below_set ?_ GE347.out) | exact HB.out)⟩⟩
                                            · rw [if_neg c38] at H
                                              exact absurd H (by simp)
                                          · rw [if_neg c37] at H
                                            exact absurd H (by simp)
                                        · rw [if_neg c36] at H
                                          exact absurd H (by simp)
                                      · rw [if_neg c35] at H
                                        have c35b0 : decide (x58_5 < (l1.length : Int)) = false := decide_eq_false c35
                                        clear c35
                                        have H' := Aside0.mk H
                                        clear H
                                        go_wp2
                                        go_roundg k5
                                        case measure => have := HJ3.out; have := HJ6.out; have := HJ20.out; have := HK4.out; have := HK5.out; omega
                                        case rel => exact ⟨(x8_5), (x9_5), (wrap64 (x51_4 + 1)), (by first | rfl | (simp; done) | (simp [*]; done)), H', ⟨by have := HJ3.out; have := HJ6.out; have := HJ20.out; have := HK4.out; have := HK5.out; omega⟩, ⟨by (with_reducible repeat (first | apply Kd.R_alloc | apply Kd.R_drewN | apply Kd.R_drew)); exact HO_8.out⟩, ⟨by (with_reducible repeat (first | apply Kd.R_alloc | apply Kd.R_drewN | apply Kd.R_drew)); exact HO_9.out⟩, ⟨by repeat (first | (with_reducible first | exact HB.out | apply below_alloc | apply pw_below_drewN | apply below_drew1 | refine below_set ?_ GE345.out) | exact HB.out)⟩⟩
                                · rw [if_neg c32] at H
                                  exact absurd H (by simp)
                              · rw [if_neg c31] at H
                                exact absurd H (by simp)
                            · rw [if_neg c30] at H
                              have c30b0 : decide (x51_4 < (l0.length : Int)) = false := decide_eq_false c30
                              clear c30
                              simp only [Option.some.injEq, Prod.mk.injEq] at H
                              obtain ⟨rfl, rfl⟩ := H
                              go_wp2
                              go_ret2
                              exact ⟨_, by first | rfl | (simp [errW_none, errW_some] <;> rfl) | (simp [*, errW_none, errW_some] <;> rfl), by (with_reducible repeat (first | apply Kd.R_alloc | apply Kd.R_drewN | apply Kd.R_drew)); exact HO_9.out, by repeat (first | (with_reducible first | exact HB.out | apply below_alloc | apply pw_below_drewN | apply below_drew1) | exact HB.out)⟩
                      · rw [if_neg c27] at H
                        exact absurd H (by simp)
                    · rw [if_neg c26] at H
                      exact absurd H (by simp)

end Go.Proofs.YtcehmgmhlmbhnaaDoor.Pr
