-- Written by a program of this session (wip/tools/drive.py over the kit's print.py) out of the translation.
import Derived.Test.YtcehmgmhlmbhnaaDoorPr0
import Derived.Test.YtcehmgmhlmbhnaaDoorPr11
import Derived.Test.YtcehmgmhlmbhnaaDoorPr12
import Derived.Test.YtcehmgmhlmbhnaaDoorPr31
import Derived.Test.YtcehmgmhlmbhnaaDoorPr32
namespace Go.Proofs.YtcehmgmhlmbhnaaDoor.Pr
open Go.RowKit Go.Proofs.YtcehmgmhlmbhnaaDoorW.PrintWords Go.Proofs.YtcehmgmhlmbhnaaDoorW.PrintLast Go.Proofs.YtcehmgmhlmbhnaaDoorW.PrintMore
attribute [local go_sem] max2_int min2_int max_two min_two max_three min_three max_four min_four   -- for this text's walks alone
set_option linter.unusedVariables false
set_option linter.unusedSimpArgs false

/-! ### insolvencylaw25_HistoryCheck: function 10 -/
mutual
def insolvencylaw25_HistoryCheck.j0 : Nat → Int → List (S39) → List (S67) → Int → Int → Bool → Option (Bool)
  | 0, _, _, _, _, _, _ => none
  | k + 1, x0, x1, x2, x3, x4, x20 => if x20 = true then ((insolvencylaw25_awake.f k).bind fun t172 => (some t172)) else ((insolvencylaw0_Rows.f x2 4 20).bind fun t173 => (if (t173.length : Int) > 0 then (if (t173.length : Int) = 0 then (none) else (if 0 ≤ (Int.tmod (wrap64 (x3)) (t173.length : Int)) then (if (Int.tmod (wrap64 (x3)) (t173.length : Int)) < (t173.length : Int) then (if (Int.tmod x4 8) = 0 then (insolvencylaw25_HistoryCheck.j1 k x0 x1 (t173.set ((Int.tmod (wrap64 (x3)) (t173.length : Int)) : Int).toNat (⟨(-1), (rd_T39 t173 (Int.tmod (wrap64 (x3)) (t173.length : Int))).f1, (rd_T39 t173 (Int.tmod (wrap64 (x3)) (t173.length : Int))).f2, (rd_T39 t173 (Int.tmod (wrap64 (x3)) (t173.length : Int))).f3, (rd_T39 t173 (Int.tmod (wrap64 (x3)) (t173.length : Int))).f4, (rd_T39 t173 (Int.tmod (wrap64 (x3)) (t173.length : Int))).f5⟩ : S39))) else (if (Int.tmod x4 8) = 1 then (insolvencylaw25_HistoryCheck.j1 k x0 x1 (t173.set ((Int.tmod (wrap64 (x3)) (t173.length : Int)) : Int).toNat (⟨0, (rd_T39 t173 (Int.tmod (wrap64 (x3)) (t173.length : Int))).f1, (rd_T39 t173 (Int.tmod (wrap64 (x3)) (t173.length : Int))).f2, (rd_T39 t173 (Int.tmod (wrap64 (x3)) (t173.length : Int))).f3, (rd_T39 t173 (Int.tmod (wrap64 (x3)) (t173.length : Int))).f4, (rd_T39 t173 (Int.tmod (wrap64 (x3)) (t173.length : Int))).f5⟩ : S39))) else (if (Int.tmod x4 8) = 2 then (insolvencylaw25_HistoryCheck.j1 k x0 x1 (t173.set ((Int.tmod (wrap64 (x3)) (t173.length : Int)) : Int).toNat (⟨(rd_T39 t173 (Int.tmod (wrap64 (x3)) (t173.length : Int))).f0, 4, (rd_T39 t173 (Int.tmod (wrap64 (x3)) (t173.length : Int))).f2, (rd_T39 t173 (Int.tmod (wrap64 (x3)) (t173.length : Int))).f3, (rd_T39 t173 (Int.tmod (wrap64 (x3)) (t173.length : Int))).f4, (rd_T39 t173 (Int.tmod (wrap64 (x3)) (t173.length : Int))).f5⟩ : S39))) else (if (Int.tmod x4 8) = 3 then (insolvencylaw25_HistoryCheck.j1 k x0 x1 (t173.set ((Int.tmod (wrap64 (x3)) (t173.length : Int)) : Int).toNat (⟨(rd_T39 t173 (Int.tmod (wrap64 (x3)) (t173.length : Int))).f0, (rd_T39 t173 (Int.tmod (wrap64 (x3)) (t173.length : Int))).f1, (rd_T39 t173 (Int.tmod (wrap64 (x3)) (t173.length : Int))).f2, (rd_T39 t173 (Int.tmod (wrap64 (x3)) (t173.length : Int))).f2, (rd_T39 t173 (Int.tmod (wrap64 (x3)) (t173.length : Int))).f4, (rd_T39 t173 (Int.tmod (wrap64 (x3)) (t173.length : Int))).f5⟩ : S39))) else (if (Int.tmod x4 8) = 4 then (insolvencylaw25_HistoryCheck.j1 k x0 x1 (t173.set ((Int.tmod (wrap64 (x3)) (t173.length : Int)) : Int).toNat (⟨(rd_T39 t173 (Int.tmod (wrap64 (x3)) (t173.length : Int))).f0, (rd_T39 t173 (Int.tmod (wrap64 (x3)) (t173.length : Int))).f1, (rd_T39 t173 (Int.tmod (wrap64 (x3)) (t173.length : Int))).f2, (rd_T39 t173 (Int.tmod (wrap64 (x3)) (t173.length : Int))).f3, (rd_T39 t173 (Int.tmod (wrap64 (x3)) (t173.length : Int))).f4, 1125899906842625⟩ : S39))) else (if (Int.tmod x4 8) = 5 then (insolvencylaw25_HistoryCheck.j1 k x0 x1 (t173.set ((Int.tmod (wrap64 (x3)) (t173.length : Int)) : Int).toNat (⟨(rd_T39 t173 (Int.tmod (wrap64 (x3)) (t173.length : Int))).f0, (rd_T39 t173 (Int.tmod (wrap64 (x3)) (t173.length : Int))).f1, (rd_T39 t173 (Int.tmod (wrap64 (x3)) (t173.length : Int))).f2, (rd_T39 t173 (Int.tmod (wrap64 (x3)) (t173.length : Int))).f3, (-1), (rd_T39 t173 (Int.tmod (wrap64 (x3)) (t173.length : Int))).f5⟩ : S39))) else (if (Int.tmod x4 8) = 6 then (insolvencylaw25_HistoryCheck.j1 k x0 x1 (t173.set ((Int.tmod (wrap64 (x3)) (t173.length : Int)) : Int).toNat (⟨(rd_T39 t173 (Int.tmod (wrap64 (x3)) (t173.length : Int))).f0, (rd_T39 t173 (Int.tmod (wrap64 (x3)) (t173.length : Int))).f1, 4, (rd_T39 t173 (Int.tmod (wrap64 (x3)) (t173.length : Int))).f3, (rd_T39 t173 (Int.tmod (wrap64 (x3)) (t173.length : Int))).f4, (rd_T39 t173 (Int.tmod (wrap64 (x3)) (t173.length : Int))).f5⟩ : S39))) else (insolvencylaw25_HistoryCheck.j1 k x0 x1 t173)))))))) else (none)) else (none))) else (insolvencylaw25_HistoryCheck.j1 k x0 x1 t173)))
def insolvencylaw25_HistoryCheck.j1 : Nat → Int → List (S39) → List (S39) → Option (Bool)
  | 0, _, _, _ => none
  | k + 1, x0, x1, x11 => (insolvencylaw25_awake.f k).bind fun t183 => (if t183 = true then ((history_Check.f k x0 x1).bind fun t184 => ((insolvencyref25_Check.f k x0 x1).bind fun t185 => (if t184 = t185 then ((history_Check.f k 4 x11).bind fun t186 => ((insolvencyref25_Check.f k 4 x11).bind fun t187 => (some (t186 == t187)))) else (some false)))) else (some false))
end
def insolvencylaw25_HistoryCheck.f (k : Nat) (a0 : Int) (l1 : List (S39)) (l2 : List (S67)) (a3 : Int) (a4 : Int) : Option (Bool) := if (l1.length : Int) > 12 then (insolvencylaw25_HistoryCheck.j0 k a0 l1 l2 a3 a4 true) else (insolvencylaw25_HistoryCheck.j0 k a0 l1 l2 a3 a4 (decide ((l2.length : Int) > 24)))
theorem insolvencylaw25_HistoryCheck.mono_l : ∀ k, (∀ y0 y1 y2 y3 y4 y5, LeO (insolvencylaw25_HistoryCheck.j0 k y0 y1 y2 y3 y4 y5) (insolvencylaw25_HistoryCheck.j0 (k + 1) y0 y1 y2 y3 y4 y5)) ∧ (∀ y0 y1 y2, LeO (insolvencylaw25_HistoryCheck.j1 k y0 y1 y2) (insolvencylaw25_HistoryCheck.j1 (k + 1) y0 y1 y2))
  | 0 => ⟨fun _ _ _ _ _ _ r h => by simp [insolvencylaw25_HistoryCheck.j0] at h, fun _ _ _ r h => by simp [insolvencylaw25_HistoryCheck.j1] at h⟩
  | k + 1 => by
    obtain ⟨ih0, ih1⟩ := insolvencylaw25_HistoryCheck.mono_l k
    refine ⟨?_, ?_⟩
    · intro y0 y1 y2 y3 y4 y5
      unfold insolvencylaw25_HistoryCheck.j0
      repeat' first
      | (with_reducible exact ih0 _ _ _ _ _ _)
      | (with_reducible exact ih1 _ _ _)
      | (with_reducible exact history_Check.mono _ _ _)
      | (with_reducible exact insolvencylaw25_awake.mono _)
      | (with_reducible exact insolvencyref25_Check.mono _ _ _)
      | (with_reducible exact LeO.refl _)
      | (with_reducible exact LeO.none _)
      | (with_reducible refine LeO.ite ?_ ?_)
      | (with_reducible refine LeO.bind ?_ (fun _ => ?_))
      | exact ih0 _ _ _ _ _ _
      | exact ih1 _ _ _
      | exact history_Check.mono _ _ _
      | exact insolvencylaw25_awake.mono _
      | exact insolvencyref25_Check.mono _ _ _
      | exact LeO.none _
      | refine LeO.ite ?_ ?_
      | refine LeO.bind ?_ (fun _ => ?_)
    · intro y0 y1 y2
      unfold insolvencylaw25_HistoryCheck.j1
      repeat' first
      | (with_reducible exact ih0 _ _ _ _ _ _)
      | (with_reducible exact ih1 _ _ _)
      | (with_reducible exact history_Check.mono _ _ _)
      | (with_reducible exact insolvencylaw25_awake.mono _)
      | (with_reducible exact insolvencyref25_Check.mono _ _ _)
      | (with_reducible exact LeO.refl _)
      | (with_reducible exact LeO.none _)
      | (with_reducible refine LeO.ite ?_ ?_)
      | (with_reducible refine LeO.bind ?_ (fun _ => ?_))
      | exact ih0 _ _ _ _ _ _
      | exact ih1 _ _ _
      | exact history_Check.mono _ _ _
      | exact insolvencylaw25_awake.mono _
      | exact insolvencyref25_Check.mono _ _ _
      | exact LeO.none _
      | refine LeO.ite ?_ ?_
      | refine LeO.bind ?_ (fun _ => ?_)
theorem insolvencylaw25_HistoryCheck.mono : ∀ a0 a1 a2 a3 a4 k, LeO (insolvencylaw25_HistoryCheck.f k a0 a1 a2 a3 a4) (insolvencylaw25_HistoryCheck.f (k + 1) a0 a1 a2 a3 a4) := by
  intro a0 a1 a2 a3 a4 k
  obtain ⟨ih0, ih1⟩ := insolvencylaw25_HistoryCheck.mono_l k
  unfold insolvencylaw25_HistoryCheck.f
  repeat' first
      | (with_reducible exact ih0 _ _ _ _ _ _)
      | (with_reducible exact ih1 _ _ _)
      | (with_reducible exact history_Check.mono _ _ _)
      | (with_reducible exact insolvencylaw25_awake.mono _)
      | (with_reducible exact insolvencyref25_Check.mono _ _ _)
      | (with_reducible exact LeO.refl _)
      | (with_reducible exact LeO.none _)
      | (with_reducible refine LeO.ite ?_ ?_)
      | (with_reducible refine LeO.bind ?_ (fun _ => ?_))
      | exact ih0 _ _ _ _ _ _
      | exact ih1 _ _ _
      | exact history_Check.mono _ _ _
      | exact insolvencylaw25_awake.mono _
      | exact insolvencyref25_Check.mono _ _ _
      | exact LeO.none _
      | refine LeO.ite ?_ ?_
      | refine LeO.bind ?_ (fun _ => ?_)
set_option maxHeartbeats 8000000 in
set_option maxRecDepth 100000 in
theorem insolvencylaw25_HistoryCheck.calls (k : Nat) (a0 : Int) (A1 : Option Addr) (c1 : Nat) (l1 : List (S39)) (A2 : Option Addr) (c2 : Nat) (l2 : List (S67)) (a3 : Int) (a4 : Int) (r : Bool) (w : World) (hLd : LaidW w) (hr1 : Kd.C k39 w A1 l1.length l1) (hc1 : l1.length ≤ c1) (hr2 : Kd.C k67 w A2 l2.length l2) (hc2 : l2.length ≤ c2) (h : insolvencylaw25_HistoryCheck.f k a0 l1 l2 a3 a4 = some r) :
    Calls Tryd.prog 10 #[.int .i64 a0, .slice A1 l1.length c1, .slice A2 l2.length c2, .int .u8 a3, .int .u8 a4] w fun e w' => e = .returned (.bool r) ∧ Below w.heap.size w w' := by
  have HR1 := Aside0.mk hr1
  have HC1 := Aside0.mk hc1
  clear hr1 hc1
  have HR2 := Aside0.mk hr2
  have HC2 := Aside0.mk hc2
  clear hr2 hc2
  have HB := Aside0.mk (Below.refl w.heap.size w)
  have HLd := Aside0.mk hLd
  clear hLd
  have H : (if (l1.length : Int) > 12 then (insolvencylaw25_HistoryCheck.j0 k a0 l1 l2 a3 a4 true) else (insolvencylaw25_HistoryCheck.j0 k a0 l1 l2 a3 a4 (decide ((l2.length : Int) > 24)))) = some r := h
  clear h
  have HC6 := Aside0.mk H
  clear H
  go_enter Tryd.func10, Tryd.ntmps10
  go_upto_region 1 with (fail)
  go_cut [20] (fun v20 wc => ∃ (kq : Nat) (x20_5 : Bool), v20 = .bool x20_5 ∧ Aside0 (insolvencylaw25_HistoryCheck.j0 kq a0 l1 l2 a3 a4 x20_5 = some r) ∧ Aside0 (kq ≤ k) ∧ Aside0 (Below w.heap.size w wc))
  case first =>
    have H := HC6.out
    clear HC6
    by_cases c7 : (l1.length : Int) > 12
    · rw [if_pos c7] at H
      have c7b0 : decide (12 < (l1.length : Int)) = true := decide_eq_true c7
      have c7b1 : decide (12 < l1.length) = true := decide_eq_true (by omega)
      clear c7
      (first | rw [c7b0] | (simp only [i64_w, i32_w]; rw [c7b0]) | skip)
      have H' := Aside0.mk H
      clear H
      go_wp2
      go_meet
      case rel => exact ⟨_, (true), (by first | rfl | (simp; done) | (simp [*]; done)), H', ⟨by first | omega | exact Nat.le_refl _⟩, ⟨by repeat (first | (with_reducible first | exact HB.out | apply below_alloc | apply pw_below_drewN | apply below_drew1) | exact HB.out)⟩⟩
    · rw [if_neg c7] at H
      have c7b0 : decide (12 < (l1.length : Int)) = false := decide_eq_false c7
      have c7b1 : decide (12 < l1.length) = false := decide_eq_false (by omega)
      clear c7
      (first | rw [c7b0] | (simp only [i64_w, i32_w]; rw [c7b0]) | skip)
      have H' := Aside0.mk H
      clear H
      go_wp2
      go_meet
      case rel => exact ⟨_, (decide ((l2.length : Int) > 24)), (by first | rfl | (simp; done) | (simp [*]; done)), H', ⟨by first | omega | exact Nat.le_refl _⟩, ⟨by repeat (first | (with_reducible first | exact HB.out | apply below_alloc | apply pw_below_drewN | apply below_drew1) | exact HB.out)⟩⟩
  case rest =>
    clear HC6
    try clear c1
    try clear c2
    try clear p2
    try clear c7
    try clear c7b0
    try clear c7b1
    obtain ⟨kq, x20_5, rfl, HA, HJ5, HB⟩ := hcut
    cases kq with
    | zero => exact absurd HA.out (by simp [insolvencylaw25_HistoryCheck.j0])
    | succ kj5 =>
      have H := HA.out
      clear HA
      simp only [insolvencylaw25_HistoryCheck.j0] at H
      by_cases c8 : x20_5 = true
      · subst c8
        have H1 : ((insolvencylaw25_awake.f kj5).bind fun t172 => (some t172)) = some r := by rw [if_pos rfl] at H; exact H
        clear H
        have H := H1
        clear H1
        replace H := Option.bind_eq_some_iff.mp H
        obtain ⟨t172, A90, H⟩ := H
        replace H : (some t172) = some r := H
        have A9 := Aside0.mk A90
        clear A90
        obtain rfl := Option.some.inj H
        go_wp2_with (first | ((with_reducible refine gate_callee (f := 13) rfl ?_); refine goesL_ (some 21) rfl rfl Tryd.func13 (by kernel_rfl) rfl #[] rfl (by (try simp only [List.map_toArray, List.map_cons, List.map_nil]); first | done | rfl | (simp only [List.length_drop, List.length_take]; rfl)) ?_; (with_reducible refine (insolvencylaw25_awake.calls kj5  t172 _ ?side1 A9.out).mono ?_); (case side1 => exact LaidW.below HLd.out (by repeat (first | (with_reducible first | exact HB.out | apply below_alloc | apply pw_below_drewN | apply below_drew1) | exact HB.out))); rintro e w10 ⟨rfl, hb⟩; refine ⟨_, rfl, ?_⟩; have n0_ := Aside0.mk (below_step (by repeat (first | (with_reducible first | exact HB.out | apply below_alloc | apply pw_below_drewN | apply below_drew1) | exact HB.out)) hb); clear HB; have HB := n0_; clear n0_; (try clear hb); (try clear hb2); (try clear hk); (try clear hi)))
        go_ret
        exact ⟨by first | rfl | (simp [errW_none, errW_some] <;> rfl) | (simp [*, errW_none, errW_some] <;> rfl), by repeat (first | (with_reducible first | exact HB.out | apply below_alloc | apply pw_below_drewN | apply below_drew1) | exact HB.out)⟩
      · replace c8 := Bool.eq_false_iff.mpr c8
        subst c8
        have H1 : ((insolvencylaw0_Rows.f l2 4 20).bind fun t173 => (if (t173.length : Int) > 0 then (if (t173.length : Int) = 0 then (none) else (if 0 ≤ (Int.tmod (wrap64 (a3)) (t173.length : Int)) then (if (Int.tmod (wrap64 (a3)) (t173.length : Int)) < (t173.length : Int) then (if (Int.tmod a4 8) = 0 then (insolvencylaw25_HistoryCheck.j1 kj5 a0 l1 (t173.set ((Int.tmod (wrap64 (a3)) (t173.length : Int)) : Int).toNat (⟨(-1), (rd_T39 t173 (Int.tmod (wrap64 (a3)) (t173.length : Int))).f1, (rd_T39 t173 (Int.tmod (wrap64 (a3)) (t173.length : Int))).f2, (rd_T39 t173 (Int.tmod (wrap64 (a3)) (t173.length : Int))).f3, (rd_T39 t173 (Int.tmod (wrap64 (a3)) (t173.length : Int))).f4, (rd_T39 t173 (Int.tmod (wrap64 (a3)) (t173.length : Int))).f5⟩ : S39))) else (if (Int.tmod a4 8) = 1 then (insolvencylaw25_HistoryCheck.j1 kj5 a0 l1 (t173.set ((Int.tmod (wrap64 (a3)) (t173.length : Int)) : Int).toNat (⟨0, (rd_T39 t173 (Int.tmod (wrap64 (a3)) (t173.length : Int))).f1, (rd_T39 t173 (Int.tmod (wrap64 (a3)) (t173.length : Int))).f2, (rd_T39 t173 (Int.tmod (wrap64 (a3)) (t173.length : Int))).f3, (rd_T39 t173 (Int.tmod (wrap64 (a3)) (t173.length : Int))).f4, (rd_T39 t173 (Int.tmod (wrap64 (a3)) (t173.length : Int))).f5⟩ : S39))) else (if (Int.tmod a4 8) = 2 then (insolvencylaw25_HistoryCheck.j1 kj5 a0 l1 (t173.set ((Int.tmod (wrap64 (a3)) (t173.length : Int)) : Int).toNat (⟨(rd_T39 t173 (Int.tmod (wrap64 (a3)) (t173.length : Int))).f0, 4, (rd_T39 t173 (Int.tmod (wrap64 (a3)) (t173.length : Int))).f2, (rd_T39 t173 (Int.tmod (wrap64 (a3)) (t173.length : Int))).f3, (rd_T39 t173 (Int.tmod (wrap64 (a3)) (t173.length : Int))).f4, (rd_T39 t173 (Int.tmod (wrap64 (a3)) (t173.length : Int))).f5⟩ : S39))) else (if (Int.tmod a4 8) = 3 then (insolvencylaw25_HistoryCheck.j1 kj5 a0 l1 (t173.set ((Int.tmod (wrap64 (a3)) (t173.length : Int)) : Int).toNat (⟨(rd_T39 t173 (Int.tmod (wrap64 (a3)) (t173.length : Int))).f0, (rd_T39 t173 (Int.tmod (wrap64 (a3)) (t173.length : Int))).f1, (rd_T39 t173 (Int.tmod (wrap64 (a3)) (t173.length : Int))).f2, (rd_T39 t173 (Int.tmod (wrap64 (a3)) (t173.length : Int))).f2, (rd_T39 t173 (Int.tmod (wrap64 (a3)) (t173.length : Int))).f4, (rd_T39 t173 (Int.tmod (wrap64 (a3)) (t173.length : Int))).f5⟩ : S39))) else (if (Int.tmod a4 8) = 4 then (insolvencylaw25_HistoryCheck.j1 kj5 a0 l1 (t173.set ((Int.tmod (wrap64 (a3)) (t173.length : Int)) : Int).toNat (⟨(rd_T39 t173 (Int.tmod (wrap64 (a3)) (t173.length : Int))).f0, (rd_T39 t173 (Int.tmod (wrap64 (a3)) (t173.length : Int))).f1, (rd_T39 t173 (Int.tmod (wrap64 (a3)) (t173.length : Int))).f2, (rd_T39 t173 (Int.tmod (wrap64 (a3)) (t173.length : Int))).f3, (rd_T39 t173 (Int.tmod (wrap64 (a3)) (t173.length : Int))).f4, 1125899906842625⟩ : S39))) else (if (Int.tmod a4 8) = 5 then (insolvencylaw25_HistoryCheck.j1 kj5 a0 l1 (t173.set ((Int.tmod (wrap64 (a3)) (t173.length : Int)) : Int).toNat (⟨(rd_T39 t173 (Int.tmod (wrap64 (a3)) (t173.length : Int))).f0, (rd_T39 t173 (Int.tmod (wrap64 (a3)) (t173.length : Int))).f1, (rd_T39 t173 (Int.tmod (wrap64 (a3)) (t173.length : Int))).f2, (rd_T39 t173 (Int.tmod (wrap64 (a3)) (t173.length : Int))).f3, (-1), (rd_T39 t173 (Int.tmod (wrap64 (a3)) (t173.length : Int))).f5⟩ : S39))) else (if (Int.tmod a4 8) = 6 then (insolvencylaw25_HistoryCheck.j1 kj5 a0 l1 (t173.set ((Int.tmod (wrap64 (a3)) (t173.length : Int)) : Int).toNat (⟨(rd_T39 t173 (Int.tmod (wrap64 (a3)) (t173.length : Int))).f0, (rd_T39 t173 (Int.tmod (wrap64 (a3)) (t173.length : Int))).f1, 4, (rd_T39 t173 (Int.tmod (wrap64 (a3)) (t173.length : Int))).f3, (rd_T39 t173 (Int.tmod (wrap64 (a3)) (t173.length : Int))).f4, (rd_T39 t173 (Int.tmod (wrap64 (a3)) (t173.length : Int))).f5⟩ : S39))) else (insolvencylaw25_HistoryCheck.j1 kj5 a0 l1 t173)))))))) else (none)) else (none))) else (insolvencylaw25_HistoryCheck.j1 kj5 a0 l1 t173))) = some r := by rw [if_neg (show ¬ (false = true) by decide)] at H; exact H
        clear H
        have H := H1
        clear H1
        replace H := Option.bind_eq_some_iff.mp H
        obtain ⟨t173, A110, H⟩ := H
        replace H : (if (t173.length : Int) > 0 then (if (t173.length : Int) = 0 then (none) else (if 0 ≤ (Int.tmod (wrap64 (a3)) (t173.length : Int)) then (if (Int.tmod (wrap64 (a3)) (t173.length : Int)) < (t173.length : Int) then (if (Int.tmod a4 8) = 0 then (insolvencylaw25_HistoryCheck.j1 kj5 a0 l1 (t173.set ((Int.tmod (wrap64 (a3)) (t173.length : Int)) : Int).toNat (⟨(-1), (rd_T39 t173 (Int.tmod (wrap64 (a3)) (t173.length : Int))).f1, (rd_T39 t173 (Int.tmod (wrap64 (a3)) (t173.length : Int))).f2, (rd_T39 t173 (Int.tmod (wrap64 (a3)) (t173.length : Int))).f3, (rd_T39 t173 (Int.tmod (wrap64 (a3)) (t173.length : Int))).f4, (rd_T39 t173 (Int.tmod (wrap64 (a3)) (t173.length : Int))).f5⟩ : S39))) else (if (Int.tmod a4 8) = 1 then (insolvencylaw25_HistoryCheck.j1 kj5 a0 l1 (t173.set ((Int.tmod (wrap64 (a3)) (t173.length : Int)) : Int).toNat (⟨0, (rd_T39 t173 (Int.tmod (wrap64 (a3)) (t173.length : Int))).f1, (rd_T39 t173 (Int.tmod (wrap64 (a3)) (t173.length : Int))).f2, (rd_T39 t173 (Int.tmod (wrap64 (a3)) (t173.length : Int))).f3, (rd_T39 t173 (Int.tmod (wrap64 (a3)) (t173.length : Int))).f4, (rd_T39 t173 (Int.tmod (wrap64 (a3)) (t173.length : Int))).f5⟩ : S39))) else (if (Int.tmod a4 8) = 2 then (insolvencylaw25_HistoryCheck.j1 kj5 a0 l1 (t173.set ((Int.tmod (wrap64 (a3)) (t173.length : Int)) : Int).toNat (⟨(rd_T39 t173 (Int.tmod (wrap64 (a3)) (t173.length : Int))).f0, 4, (rd_T39 t173 (Int.tmod (wrap64 (a3)) (t173.length : Int))).f2, (rd_T39 t173 (Int.tmod (wrap64 (a3)) (t173.length : Int))).f3, (rd_T39 t173 (Int.tmod (wrap64 (a3)) (t173.length : Int))).f4, (rd_T39 t173 (Int.tmod (wrap64 (a3)) (t173.length : Int))).f5⟩ : S39))) else (if (Int.tmod a4 8) = 3 then (insolvencylaw25_HistoryCheck.j1 kj5 a0 l1 (t173.set ((Int.tmod (wrap64 (a3)) (t173.length : Int)) : Int).toNat (⟨(rd_T39 t173 (Int.tmod (wrap64 (a3)) (t173.length : Int))).f0, (rd_T39 t173 (Int.tmod (wrap64 (a3)) (t173.length : Int))).f1, (rd_T39 t173 (Int.tmod (wrap64 (a3)) (t173.length : Int))).f2, (rd_T39 t173 (Int.tmod (wrap64 (a3)) (t173.length : Int))).f2, (rd_T39 t173 (Int.tmod (wrap64 (a3)) (t173.length : Int))).f4, (rd_T39 t173 (Int.tmod (wrap64 (a3)) (t173.length : Int))).f5⟩ : S39))) else (if (Int.tmod a4 8) = 4 then (insolvencylaw25_HistoryCheck.j1 kj5 a0 l1 (t173.set ((Int.tmod (wrap64 (a3)) (t173.length : Int)) : Int).toNat (⟨(rd_T39 t173 (Int.tmod (wrap64 (a3)) (t173.length : Int))).f0, (rd_T39 t173 (Int.tmod (wrap64 (a3)) (t173.length : Int))).f1, (rd_T39 t173 (Int.tmod (wrap64 (a3)) (t173.length : Int))).f2, (rd_T39 t173 (Int.tmod (wrap64 (a3)) (t173.length : Int))).f3, (rd_T39 t173 (Int.tmod (wrap64 (a3)) (t173.length : Int))).f4, 1125899906842625⟩ : S39))) else (if (Int.tmod a4 8) = 5 then (insolvencylaw25_HistoryCheck.j1 kj5 a0 l1 (t173.set ((Int.tmod (wrap64 (a3)) (t173.length : Int)) : Int).toNat (⟨(rd_T39 t173 (Int.tmod (wrap64 (a3)) (t173.length : Int))).f0, (rd_T39 t173 (Int.tmod (wrap64 (a3)) (t173.length : Int))).f1, (rd_T39 t173 (Int.tmod (wrap64 (a3)) (t173.length : Int))).f2, (rd_T39 t173 (Int.tmod (wrap64 (a3)) (t173.length : Int))).f3, (-1), (rd_T39 t173 (Int.tmod (wrap64 (a3)) (t173.length : Int))).f5⟩ : S39))) else (if (Int.tmod a4 8) = 6 then (insolvencylaw25_HistoryCheck.j1 kj5 a0 l1 (t173.set ((Int.tmod (wrap64 (a3)) (t173.length : Int)) : Int).toNat (⟨(rd_T39 t173 (Int.tmod (wrap64 (a3)) (t173.length : Int))).f0, (rd_T39 t173 (Int.tmod (wrap64 (a3)) (t173.length : Int))).f1, 4, (rd_T39 t173 (Int.tmod (wrap64 (a3)) (t173.length : Int))).f3, (rd_T39 t173 (Int.tmod (wrap64 (a3)) (t173.length : Int))).f4, (rd_T39 t173 (Int.tmod (wrap64 (a3)) (t173.length : Int))).f5⟩ : S39))) else (insolvencylaw25_HistoryCheck.j1 kj5 a0 l1 t173)))))))) else (none)) else (none))) else (insolvencylaw25_HistoryCheck.j1 kj5 a0 l1 t173)) = some r := H
        have A11 := Aside0.mk A110
        clear A110
        have HC12 := Aside0.mk H
        clear H
        go_upto_if 26 with (first | ((with_reducible refine gate_callee (f := 14) rfl ?_); refine goesL_ (some 23) rfl rfl Tryd.func14 (by kernel_rfl) rfl #[.slice A2 l2.length c2, .int .i64 4, .int .i64 20] rfl (by (try simp only [List.map_toArray, List.map_cons, List.map_nil]); first | done | rfl | (simp only [List.length_drop, List.length_take]; rfl)) ?_; (with_reducible refine (insolvencylaw0_Rows.calls _ _ l2 4 20 t173 _ ?side1 ?side2 A11.out).mono ?_); (case side1 => repeat (first | exact (Kd.C_below HR2.out HB.out) | (with_reducible refine Kd.C_alloc ?_ _) | (with_reducible refine Kd.C_drewN ?_ _) | (with_reducible refine Kd.C_drew ?_))); (case side2 => exact HC2.out); rintro e w13 ⟨v174, rfl, ho0, hb⟩; refine ⟨_, rfl, ?_⟩; have n0_ := Aside0.mk (Kd.R_lower ho0 (below_size (by repeat (first | (with_reducible first | exact HB.out | apply below_alloc | apply pw_below_drewN | apply below_drew1) | exact HB.out)))); have n1_ := Aside0.mk (below_step (by repeat (first | (with_reducible first | exact HB.out | apply below_alloc | apply pw_below_drewN | apply below_drew1) | exact HB.out)) hb); clear HB; have HO175 := n0_; have HB := n1_; clear n0_ n1_; (try clear hb); (try clear hb2); (try clear hk); (try clear hi); (try clear ho0); obtain ⟨Ao14, co14, eo14⟩ := Kd.R_slice HO175.out; subst eo14))
        (try simp only [Act.put, List.setIfInBounds_toArray, List.set_cons_zero, List.set_cons_succ])
        go_cut [] (fun wc => ∃ (kq : Nat) (lq : List S39), Aside0 (insolvencylaw25_HistoryCheck.j1 kq a0 l1 lq = some r) ∧ Aside0 (kq ≤ kj5) ∧ Aside0 (lq.length = t173.length) ∧ Aside0 (Kd.R k39 39 wc w.heap.size (fun _ => True) (.slice Ao14 t173.length co14) lq) ∧ Aside0 (Below w.heap.size w wc))
        case first =>
          have H := HC12.out
          clear HC12
          by_cases c15 : (t173.length : Int) > 0
          · rw [if_pos c15] at H
            have c15b0 : decide (0 < (t173.length : Int)) = true := decide_eq_true c15
            have c15b1 : decide (0 < t173.length) = true := decide_eq_true (by omega)
            clear c15
            (first | rw [c15b0] | (simp only [i64_w, i32_w]; rw [c15b0]) | skip)
            by_cases c16 : (t173.length : Int) = 0
            · rw [if_pos c16] at H
              exact absurd H (by simp)
            · rw [if_neg c16] at H
              have c16b0 : ((t173.length : Int) == 0) = false := beq_eq_false_iff_ne.mpr c16
              have c16b1 : ((t173.length : Int) != 0) = true := bne_iff_ne.mpr c16
              have c16b2 : ¬ (t173 = []) := fun h_ => c16 (by rw [h_]; rfl)
              obtain ⟨ji17, hji17⟩ : ∃ j_ : Int, (Int.tmod (wrap64 (a3)) (t173.length : Int)) = j_ := ⟨_, rfl⟩
              replace H : (if 0 ≤ (ji17) then (if (ji17) < (t173.length : Int) then (if (Int.tmod a4 8) = 0 then (insolvencylaw25_HistoryCheck.j1 kj5 a0 l1 (t173.set ((ji17) : Int).toNat (⟨(-1), (rd_T39 t173 (ji17)).f1, (rd_T39 t173 (ji17)).f2, (rd_T39 t173 (ji17)).f3, (rd_T39 t173 (ji17)).f4, (rd_T39 t173 (ji17)).f5⟩ : S39))) else (if (Int.tmod a4 8) = 1 then (insolvencylaw25_HistoryCheck.j1 kj5 a0 l1 (t173.set ((ji17) : Int).toNat (⟨0, (rd_T39 t173 (ji17)).f1, (rd_T39 t173 (ji17)).f2, (rd_T39 t173 (ji17)).f3, (rd_T39 t173 (ji17)).f4, (rd_T39 t173 (ji17)).f5⟩ : S39))) else (if (Int.tmod a4 8) = 2 then (insolvencylaw25_HistoryCheck.j1 kj5 a0 l1 (t173.set ((ji17) : Int).toNat (⟨(rd_T39 t173 (ji17)).f0, 4, (rd_T39 t173 (ji17)).f2, (rd_T39 t173 (ji17)).f3, (rd_T39 t173 (ji17)).f4, (rd_T39 t173 (ji17)).f5⟩ : S39))) else (if (Int.tmod a4 8) = 3 then (insolvencylaw25_HistoryCheck.j1 kj5 a0 l1 (t173.set ((ji17) : Int).toNat (⟨(rd_T39 t173 (ji17)).f0, (rd_T39 t173 (ji17)).f1, (rd_T39 t173 (ji17)).f2, (rd_T39 t173 (ji17)).f2, (rd_T39 t173 (ji17)).f4, (rd_T39 t173 (ji17)).f5⟩ : S39))) else (if (Int.tmod a4 8) = 4 then (insolvencylaw25_HistoryCheck.j1 kj5 a0 l1 (t173.set ((ji17) : Int).toNat (⟨(rd_T39 t173 (ji17)).f0, (rd_T39 t173 (ji17)).f1, (rd_T39 t173 (ji17)).f2, (rd_T39 t173 (ji17)).f3, (rd_T39 t173 (ji17)).f4, 1125899906842625⟩ : S39))) else (if (Int.tmod a4 8) = 5 then (insolvencylaw25_HistoryCheck.j1 kj5 a0 l1 (t173.set ((ji17) : Int).toNat (⟨(rd_T39 t173 (ji17)).f0, (rd_T39 t173 (ji17)).f1, (rd_T39 t173 (ji17)).f2, (rd_T39 t173 (ji17)).f3, (-1), (rd_T39 t173 (ji17)).f5⟩ : S39))) else (if (Int.tmod a4 8) = 6 then (insolvencylaw25_HistoryCheck.j1 kj5 a0 l1 (t173.set ((ji17) : Int).toNat (⟨(rd_T39 t173 (ji17)).f0, (rd_T39 t173 (ji17)).f1, 4, (rd_T39 t173 (ji17)).f3, (rd_T39 t173 (ji17)).f4, (rd_T39 t173 (ji17)).f5⟩ : S39))) else (insolvencylaw25_HistoryCheck.j1 kj5 a0 l1 t173)))))))) else (none)) else (none)) = some r := by first | (rw [hji17] at H; exact H) | (simp only [hji17] at H ⊢; exact H)
              by_cases c18 : 0 ≤ (ji17)
              · rw [if_pos c18] at H
                have c18b0 : decide (0 ≤ (ji17)) = true := decide_eq_true c18
                clear c18
                by_cases c19 : (ji17) < (t173.length : Int)
                · rw [if_pos c19] at H
                  have c19b0 : decide ((ji17) < (t173.length : Int)) = true := decide_eq_true c19
                  clear c19
                  by_cases c21 : (Int.tmod a4 8) = 0
                  · rw [if_pos c21] at H
                    have c21b0 : ((Int.tmod a4 8) == 0) = true := beq_iff_eq.mpr c21
                    have c21b1 : ((Int.tmod a4 8) != 0) = false := bne_eq_false_iff_eq.mpr c21
                    clear c21
                    obtain ⟨y176, hy176⟩ : ∃ y_ : List (S39), y_ = (t173.set ((ji17) : Int).toNat (⟨(-1), (rd_T39 t173 (ji17)).f1, (rd_T39 t173 (ji17)).f2, (rd_T39 t173 (ji17)).f3, (rd_T39 t173 (ji17)).f4, (rd_T39 t173 (ji17)).f5⟩ : S39)) := ⟨_, rfl⟩
                    replace H : (insolvencylaw25_HistoryCheck.j1 kj5 a0 l1 y176) = some r := by first | (rw [hy176]; with_reducible exact H) | (have H2_ := (Option.bind_some _ _).symm.trans H; rw [hy176]; with_reducible exact H2_) | (have H2_ := (Option.bind_some _ _).symm.trans H; with_reducible exact H2_) | with_reducible exact H | (rw [hy176]; exact H) | exact H
                    have Ny176 := Aside0.mk hy176
                    clear hy176
                    have H' := Aside0.mk H
                    clear H
                    have p20 : 0 ≤ ((ji17) : Int) := of_decide_eq_true (by first | (with_reducible assumption) | assumption)
                    have q20 : ((ji17) : Int) < ((t173.length : Int) : Int) := of_decide_eq_true (by first | (with_reducible assumption) | assumption)
                    obtain ⟨go20, co20, eo20, gb20, gl20, cl20, HG20⟩ := Kd.R_form HO175.out (by omega)
                    (first | cases eo20 | (injection eo20 with ea_ en_ ec_; (first | subst ea_ | (injection ea_ with ea_; subst ea_)); subst ec_; clear en_))
                    have GB20 := Aside0.mk gb20
                    have GG20 := Aside0.mk HG20
                    clear gb20 gl20 HG20
                    obtain ⟨ce20, hcl20, hM20, hcc20, hfr20⟩ := Kd.R_elem HO175.out z39 ((ji17) : Int) p20 q20
                    obtain rfl := k39_openM hM20
                    have hx20_0 : w13.cell? ⟨go20, ((ji17) : Int).toNat * 6, none⟩ = some (.int .i64 ((rd_T39 t173 (ji17)).f0)) := hcc20 0 _ rfl
                    have hx20_1 : w13.cell? ⟨go20, ((ji17) : Int).toNat * 6 + 1, none⟩ = some (.int .i64 ((rd_T39 t173 (ji17)).f1)) := hcc20 1 _ rfl
                    have hx20_2 : w13.cell? ⟨go20, ((ji17) : Int).toNat * 6 + 2, none⟩ = some (.int .i64 ((rd_T39 t173 (ji17)).f2)) := hcc20 2 _ rfl
                    have hx20_3 : w13.cell? ⟨go20, ((ji17) : Int).toNat * 6 + 3, none⟩ = some (.int .i64 ((rd_T39 t173 (ji17)).f3)) := hcc20 3 _ rfl
                    have hx20_4 : w13.cell? ⟨go20, ((ji17) : Int).toNat * 6 + 4, none⟩ = some (.int .i64 ((rd_T39 t173 (ji17)).f4)) := hcc20 4 _ rfl
                    have hx20_5 : w13.cell? ⟨go20, ((ji17) : Int).toNat * 6 + 5, none⟩ = some (.int .i64 ((rd_T39 t173 (ji17)).f5)) := hcc20 5 _ rfl
                    have hf20_0 : w13.frozen? ⟨go20, ((ji17) : Int).toNat * 6, none⟩ = false := hfr20 0
                    have hf20_1 : w13.frozen? ⟨go20, ((ji17) : Int).toNat * 6 + 1, none⟩ = false := hfr20 1
                    have hf20_2 : w13.frozen? ⟨go20, ((ji17) : Int).toNat * 6 + 2, none⟩ = false := hfr20 2
                    have hf20_3 : w13.frozen? ⟨go20, ((ji17) : Int).toNat * 6 + 3, none⟩ = false := hfr20 3
                    have hf20_4 : w13.frozen? ⟨go20, ((ji17) : Int).toNat * 6 + 4, none⟩ = false := hfr20 4
                    have hf20_5 : w13.frozen? ⟨go20, ((ji17) : Int).toNat * 6 + 5, none⟩ = false := hfr20 5
                    clear hcl20 hcc20 hfr20 hM20
                    replace p20 := eq_true p20
                    replace q20 := eq_true q20
                    have HX22 := Aside0.mk (show Kd.R k39 39 w13 w.heap.size (fun _ => True) (.slice (some ⟨go20, 0, none⟩) t173.length co14) t173 from (by (with_reducible repeat (first | apply Kd.R_alloc | apply Kd.R_drewN | apply Kd.R_drew)); exact HO175.out))
                    obtain ⟨ce22, hcl22, hM22, hcc22, hfr22⟩ := Kd.R_elem HX22.out z39 ((ji17) : Int) (of_decide_eq_true (by first | (with_reducible assumption) | assumption)) (by have h_ : ((ji17) : Int) < ((t173.length : Int) : Int) := of_decide_eq_true (by first | (with_reducible assumption) | assumption); first | exact h_ | (have e_ := (Kd.R_reads' HO175.out).1; omega) | simpa using h_)
                    obtain rfl := k39_openM hM22
                    have HP22 := Kd.R_seg HX22.out ((ji17) : Int) (of_decide_eq_true (by first | (with_reducible assumption) | assumption)) (by have h_ : ((ji17) : Int) < ((t173.length : Int) : Int) := of_decide_eq_true (by first | (with_reducible assumption) | assumption); first | exact h_ | (have e_ := (Kd.R_reads' HO175.out).1; omega) | simpa using h_) (seg := [.int .i64 (-1)]) (j := 0) hcl22 hcc22 (show 1 ≤ 6 from by decide) (x' := (⟨(-1), (rd_T39 t173 (ji17)).f1, (rd_T39 t173 (ji17)).f2, (rd_T39 t173 (ji17)).f3, (rd_T39 t173 (ji17)).f4, (rd_T39 t173 (ji17)).f5⟩ : S39)) (k39_mkM _ _ _ (⟨(-1), (rd_T39 t173 (ji17)).f1, (rd_T39 t173 (ji17)).f2, (rd_T39 t173 (ji17)).f3, (rd_T39 t173 (ji17)).f4, (rd_T39 t173 (ji17)).f5⟩ : S39) ) (fun _ hk => hk)
                    have hx22_0 := hcc22 0 _ rfl
                    (try simp only [show (k39).sz = 6 from rfl, Nat.mul_one, Nat.add_zero] at hx22_0)
                    have hf22_0 := hfr22 0
                    (try simp only [show (k39).sz = 6 from rfl, Nat.mul_one, Nat.add_zero] at hf22_0)
                    clear hcl22 hcc22 hfr22 hM22
                    go_wp2_with (first | ((with_reducible refine gate_store (t := 3) (p := 40) rfl ?_); refine store_event (t := 3) (p := 40) (v := ?vo_w23) (w1 := (w13.setCell ⟨go20, ((ji17) : Int).toNat * 6, none⟩ (.int .i64 (-1)))) ?hg ?ho ?hn ?hr ?_; (case ho => rfl); (case hg => rfl); (case hn => rfl); (case hr => first | (go_simp; done) | (go_simp; rfl)); intro w23 hw; have hg : w13.grownBy w23 (some go20) := (by rw [hw]; exact HP22.2); have hp_ : Kd.R k39 39 w23 w.heap.size (fun _ => True) (.slice (some ⟨go20, 0, none⟩) t173.length co14) y176 := (by rw [hw, Ny176.out]; exact HP22.1); clear HP22; have n0_ := Aside0.mk (hp_); have n1_ := Aside0.mk ((by rw [hw]; exact below_set (HB.out) GB20.out : Below w.heap.size w w23)); clear HO175; clear HB; have HO175 := n0_; have HB := n1_; clear n0_ n1_; clear hg hw hp_))
                    go_meet
                    case rel => exact ⟨_, _, H', ⟨by have := HJ5.out; first | omega | exact Nat.le_refl _⟩, ⟨by first | rfl | (rw [Ny176.out, List.length_set])⟩, ⟨by (with_reducible repeat (first | apply Kd.R_alloc | apply Kd.R_drewN | apply Kd.R_drew)); exact HO175.out⟩, ⟨by repeat (first | (with_reducible first | exact HB.out | apply below_alloc | apply pw_below_drewN | apply below_drew1) | exact HB.out)⟩⟩
                  · rw [if_neg c21] at H
                    have c21b0 : ((Int.tmod a4 8) == 0) = false := beq_eq_false_iff_ne.mpr c21
                    have c21b1 : ((Int.tmod a4 8) != 0) = true := bne_iff_ne.mpr c21
                    by_cases c24 : (Int.tmod a4 8) = 1
                    · rw [if_pos c24] at H
                      have c24b0 : ((Int.tmod a4 8) == 1) = true := beq_iff_eq.mpr c24
                      have c24b1 : ((Int.tmod a4 8) != 1) = false := bne_eq_false_iff_eq.mpr c24
                      clear c24
                      obtain ⟨y177, hy177⟩ : ∃ y_ : List (S39), y_ = (t173.set ((ji17) : Int).toNat (⟨0, (rd_T39 t173 (ji17)).f1, (rd_T39 t173 (ji17)).f2, (rd_T39 t173 (ji17)).f3, (rd_T39 t173 (ji17)).f4, (rd_T39 t173 (ji17)).f5⟩ : S39)) := ⟨_, rfl⟩
                      replace H : (insolvencylaw25_HistoryCheck.j1 kj5 a0 l1 y177) = some r := by first | (rw [hy177]; with_reducible exact H) | (have H2_ := (Option.bind_some _ _).symm.trans H; rw [hy177]; with_reducible exact H2_) | (have H2_ := (Option.bind_some _ _).symm.trans H; with_reducible exact H2_) | with_reducible exact H | (rw [hy177]; exact H) | exact H
                      have Ny177 := Aside0.mk hy177
                      clear hy177
                      have H' := Aside0.mk H
                      clear H
                      have p20 : 0 ≤ ((ji17) : Int) := of_decide_eq_true (by first | (with_reducible assumption) | assumption)
                      have q20 : ((ji17) : Int) < ((t173.length : Int) : Int) := of_decide_eq_true (by first | (with_reducible assumption) | assumption)
                      obtain ⟨go20, co20, eo20, gb20, gl20, cl20, HG20⟩ := Kd.R_form HO175.out (by omega)
                      (first | cases eo20 | (injection eo20 with ea_ en_ ec_; (first | subst ea_ | (injection ea_ with ea_; subst ea_)); subst ec_; clear en_))
                      have GB20 := Aside0.mk gb20
                      have GG20 := Aside0.mk HG20
                      clear gb20 gl20 HG20
                      obtain ⟨ce20, hcl20, hM20, hcc20, hfr20⟩ := Kd.R_elem HO175.out z39 ((ji17) : Int) p20 q20
                      obtain rfl := k39_openM hM20
                      have hx20_0 : w13.cell? ⟨go20, ((ji17) : Int).toNat * 6, none⟩ = some (.int .i64 ((rd_T39 t173 (ji17)).f0)) := hcc20 0 _ rfl
                      have hx20_1 : w13.cell? ⟨go20, ((ji17) : Int).toNat * 6 + 1, none⟩ = some (.int .i64 ((rd_T39 t173 (ji17)).f1)) := hcc20 1 _ rfl
                      have hx20_2 : w13.cell? ⟨go20, ((ji17) : Int).toNat * 6 + 2, none⟩ = some (.int .i64 ((rd_T39 t173 (ji17)).f2)) := hcc20 2 _ rfl
                      have hx20_3 : w13.cell? ⟨go20, ((ji17) : Int).toNat * 6 + 3, none⟩ = some (.int .i64 ((rd_T39 t173 (ji17)).f3)) := hcc20 3 _ rfl
                      have hx20_4 : w13.cell? ⟨go20, ((ji17) : Int).toNat * 6 + 4, none⟩ = some (.int .i64 ((rd_T39 t173 (ji17)).f4)) := hcc20 4 _ rfl
                      have hx20_5 : w13.cell? ⟨go20, ((ji17) : Int).toNat * 6 + 5, none⟩ = some (.int .i64 ((rd_T39 t173 (ji17)).f5)) := hcc20 5 _ rfl
                      have hf20_0 : w13.frozen? ⟨go20, ((ji17) : Int).toNat * 6, none⟩ = false := hfr20 0
                      have hf20_1 : w13.frozen? ⟨go20, ((ji17) : Int).toNat * 6 + 1, none⟩ = false := hfr20 1
                      have hf20_2 : w13.frozen? ⟨go20, ((ji17) : Int).toNat * 6 + 2, none⟩ = false := hfr20 2
                      have hf20_3 : w13.frozen? ⟨go20, ((ji17) : Int).toNat * 6 + 3, none⟩ = false := hfr20 3
                      have hf20_4 : w13.frozen? ⟨go20, ((ji17) : Int).toNat * 6 + 4, none⟩ = false := hfr20 4
                      have hf20_5 : w13.frozen? ⟨go20, ((ji17) : Int).toNat * 6 + 5, none⟩ = false := hfr20 5
                      clear hcl20 hcc20 hfr20 hM20
                      replace p20 := eq_true p20
                      replace q20 := eq_true q20
                      have HX25 := Aside0.mk (show Kd.R k39 39 w13 w.heap.size (fun _ => True) (.slice (some ⟨go20, 0, none⟩) t173.length co14) t173 from (by (with_reducible repeat (first | apply Kd.R_alloc | apply Kd.R_drewN | apply Kd.R_drew)); exact HO175.out))
                      obtain ⟨ce25, hcl25, hM25, hcc25, hfr25⟩ := Kd.R_elem HX25.out z39 ((ji17) : Int) (of_decide_eq_true (by first | (with_reducible assumption) | assumption)) (by have h_ : ((ji17) : Int) < ((t173.length : Int) : Int) := of_decide_eq_true (by first | (with_reducible assumption) | assumption); first | exact h_ | (have e_ := (Kd.R_reads' HO175.out).1; omega) | simpa using h_)
                      obtain rfl := k39_openM hM25
                      have HP25 := Kd.R_seg HX25.out ((ji17) : Int) (of_decide_eq_true (by first | (with_reducible assumption) | assumption)) (by have h_ : ((ji17) : Int) < ((t173.length : Int) : Int) := of_decide_eq_true (by first | (with_reducible assumption) | assumption); first | exact h_ | (have e_ := (Kd.R_reads' HO175.out).1; omega) | simpa using h_) (seg := [.int .i64 0]) (j := 0) hcl25 hcc25 (show 1 ≤ 6 from by decide) (x' := (⟨0, (rd_T39 t173 (ji17)).f1, (rd_T39 t173 (ji17)).f2, (rd_T39 t173 (ji17)).f3, (rd_T39 t173 (ji17)).f4, (rd_T39 t173 (ji17)).f5⟩ : S39)) (k39_mkM _ _ _ (⟨0, (rd_T39 t173 (ji17)).f1, (rd_T39 t173 (ji17)).f2, (rd_T39 t173 (ji17)).f3, (rd_T39 t173 (ji17)).f4, (rd_T39 t173 (ji17)).f5⟩ : S39) ) (fun _ hk => hk)
                      have hx25_0 := hcc25 0 _ rfl
                      (try simp only [show (k39).sz = 6 from rfl, Nat.mul_one, Nat.add_zero] at hx25_0)
                      have hf25_0 := hfr25 0
                      (try simp only [show (k39).sz = 6 from rfl, Nat.mul_one, Nat.add_zero] at hf25_0)
                      clear hcl25 hcc25 hfr25 hM25
                      go_wp2_with (first | ((with_reducible refine gate_store (t := 3) (p := 45) rfl ?_); refine store_event (t := 3) (p := 45) (v := ?vo_w26) (w1 := (w13.setCell ⟨go20, ((ji17) : Int).toNat * 6, none⟩ (.int .i64 0))) ?hg ?ho ?hn ?hr ?_; (case ho => rfl); (case hg => rfl); (case hn => rfl); (case hr => first | (go_simp; done) | (go_simp; rfl)); intro w26 hw; have hg : w13.grownBy w26 (some go20) := (by rw [hw]; exact HP25.2); have hp_ : Kd.R k39 39 w26 w.heap.size (fun _ => True) (.slice (some ⟨go20, 0, none⟩) t173.length co14) y177 := (by rw [hw, Ny177.out]; exact HP25.1); clear HP25; have n0_ := Aside0.mk (hp_); have n1_ := Aside0.mk ((by rw [hw]; exact below_set (HB.out) GB20.out : Below w.heap.size w w26)); clear HO175; clear HB; have HO175 := n0_; have HB := n1_; clear n0_ n1_; clear hg hw hp_))
                      go_meet
                      case rel => exact ⟨_, _, H', ⟨by have := HJ5.out; first | omega | exact Nat.le_refl _⟩, ⟨by first | rfl | (rw [Ny177.out, List.length_set])⟩, ⟨by (with_reducible repeat (first | apply Kd.R_alloc | apply Kd.R_drewN | apply Kd.R_drew)); exact HO175.out⟩, ⟨by repeat (first | (with_reducible first | exact HB.out | apply below_alloc | apply pw_below_drewN | apply below_drew1) | exact HB.out)⟩⟩
                    · rw [if_neg c24] at H
                      have c24b0 : ((Int.tmod a4 8) == 1) = false := beq_eq_false_iff_ne.mpr c24
                      have c24b1 : ((Int.tmod a4 8) != 1) = true := bne_iff_ne.mpr c24
                      by_cases c27 : (Int.tmod a4 8) = 2
                      · rw [if_pos c27] at H
                        have c27b0 : ((Int.tmod a4 8) == 2) = true := beq_iff_eq.mpr c27
                        have c27b1 : ((Int.tmod a4 8) != 2) = false := bne_eq_false_iff_eq.mpr c27
                        clear c27
                        obtain ⟨y178, hy178⟩ : ∃ y_ : List (S39), y_ = (t173.set ((ji17) : Int).toNat (⟨(rd_T39 t173 (ji17)).f0, 4, (rd_T39 t173 (ji17)).f2, (rd_T39 t173 (ji17)).f3, (rd_T39 t173 (ji17)).f4, (rd_T39 t173 (ji17)).f5⟩ : S39)) := ⟨_, rfl⟩
                        replace H : (insolvencylaw25_HistoryCheck.j1 kj5 a0 l1 y178) = some r := by first | (rw [hy178]; with_reducible exact H) | (have H2_ := (Option.bind_some _ _).symm.trans H; rw [hy178]; with_reducible exact H2_) | (have H2_ := (Option.bind_some _ _).symm.trans H; with_reducible exact H2_) | with_reducible exact H | (rw [hy178]; exact H) | exact H
                        have Ny178 := Aside0.mk hy178
                        clear hy178
                        have H' := Aside0.mk H
                        clear H
                        have p20 : 0 ≤ ((ji17) : Int) := of_decide_eq_true (by first | (with_reducible assumption) | assumption)
                        have q20 : ((ji17) : Int) < ((t173.length : Int) : Int) := of_decide_eq_true (by first | (with_reducible assumption) | assumption)
                        obtain ⟨go20, co20, eo20, gb20, gl20, cl20, HG20⟩ := Kd.R_form HO175.out (by omega)
                        (first | cases eo20 | (injection eo20 with ea_ en_ ec_; (first | subst ea_ | (injection ea_ with ea_; subst ea_)); subst ec_; clear en_))
                        have GB20 := Aside0.mk gb20
                        have GG20 := Aside0.mk HG20
                        clear gb20 gl20 HG20
                        obtain ⟨ce20, hcl20, hM20, hcc20, hfr20⟩ := Kd.R_elem HO175.out z39 ((ji17) : Int) p20 q20
                        obtain rfl := k39_openM hM20
                        have hx20_0 : w13.cell? ⟨go20, ((ji17) : Int).toNat * 6, none⟩ = some (.int .i64 ((rd_T39 t173 (ji17)).f0)) := hcc20 0 _ rfl
                        have hx20_1 : w13.cell? ⟨go20, ((ji17) : Int).toNat * 6 + 1, none⟩ = some (.int .i64 ((rd_T39 t173 (ji17)).f1)) := hcc20 1 _ rfl
                        have hx20_2 : w13.cell? ⟨go20, ((ji17) : Int).toNat * 6 + 2, none⟩ = some (.int .i64 ((rd_T39 t173 (ji17)).f2)) := hcc20 2 _ rfl
                        have hx20_3 : w13.cell? ⟨go20, ((ji17) : Int).toNat * 6 + 3, none⟩ = some (.int .i64 ((rd_T39 t173 (ji17)).f3)) := hcc20 3 _ rfl
                        have hx20_4 : w13.cell? ⟨go20, ((ji17) : Int).toNat * 6 + 4, none⟩ = some (.int .i64 ((rd_T39 t173 (ji17)).f4)) := hcc20 4 _ rfl
                        have hx20_5 : w13.cell? ⟨go20, ((ji17) : Int).toNat * 6 + 5, none⟩ = some (.int .i64 ((rd_T39 t173 (ji17)).f5)) := hcc20 5 _ rfl
                        have hf20_0 : w13.frozen? ⟨go20, ((ji17) : Int).toNat * 6, none⟩ = false := hfr20 0
                        have hf20_1 : w13.frozen? ⟨go20, ((ji17) : Int).toNat * 6 + 1, none⟩ = false := hfr20 1
                        have hf20_2 : w13.frozen? ⟨go20, ((ji17) : Int).toNat * 6 + 2, none⟩ = false := hfr20 2
                        have hf20_3 : w13.frozen? ⟨go20, ((ji17) : Int).toNat * 6 + 3, none⟩ = false := hfr20 3
                        have hf20_4 : w13.frozen? ⟨go20, ((ji17) : Int).toNat * 6 + 4, none⟩ = false := hfr20 4
                        have hf20_5 : w13.frozen? ⟨go20, ((ji17) : Int).toNat * 6 + 5, none⟩ = false := hfr20 5
                        clear hcl20 hcc20 hfr20 hM20
                        replace p20 := eq_true p20
                        replace q20 := eq_true q20
                        have HX28 := Aside0.mk (show Kd.R k39 39 w13 w.heap.size (fun _ => True) (.slice (some ⟨go20, 0, none⟩) t173.length co14) t173 from (by (with_reducible repeat (first | apply Kd.R_alloc | apply Kd.R_drewN | apply Kd.R_drew)); exact HO175.out))
                        obtain ⟨ce28, hcl28, hM28, hcc28, hfr28⟩ := Kd.R_elem HX28.out z39 ((ji17) : Int) (of_decide_eq_true (by first | (with_reducible assumption) | assumption)) (by have h_ : ((ji17) : Int) < ((t173.length : Int) : Int) := of_decide_eq_true (by first | (with_reducible assumption) | assumption); first | exact h_ | (have e_ := (Kd.R_reads' HO175.out).1; omega) | simpa using h_)
                        obtain rfl := k39_openM hM28
                        have HP28 := Kd.R_seg HX28.out ((ji17) : Int) (of_decide_eq_true (by first | (with_reducible assumption) | assumption)) (by have h_ : ((ji17) : Int) < ((t173.length : Int) : Int) := of_decide_eq_true (by first | (with_reducible assumption) | assumption); first | exact h_ | (have e_ := (Kd.R_reads' HO175.out).1; omega) | simpa using h_) (seg := [.int .i64 4]) (j := 1) hcl28 hcc28 (show 2 ≤ 6 from by decide) (x' := (⟨(rd_T39 t173 (ji17)).f0, 4, (rd_T39 t173 (ji17)).f2, (rd_T39 t173 (ji17)).f3, (rd_T39 t173 (ji17)).f4, (rd_T39 t173 (ji17)).f5⟩ : S39)) (k39_mkM _ _ _ (⟨(rd_T39 t173 (ji17)).f0, 4, (rd_T39 t173 (ji17)).f2, (rd_T39 t173 (ji17)).f3, (rd_T39 t173 (ji17)).f4, (rd_T39 t173 (ji17)).f5⟩ : S39) ) (fun _ hk => hk)
                        have hx28_1 := hcc28 1 _ rfl
                        (try simp only [show (k39).sz = 6 from rfl, Nat.mul_one, Nat.add_zero] at hx28_1)
                        have hf28_1 := hfr28 1
                        (try simp only [show (k39).sz = 6 from rfl, Nat.mul_one, Nat.add_zero] at hf28_1)
                        clear hcl28 hcc28 hfr28 hM28
                        go_wp2_with (first | ((with_reducible refine gate_store (t := 3) (p := 50) rfl ?_); refine store_event (t := 3) (p := 50) (v := ?vo_w29) (w1 := (w13.setCell ⟨go20, ((ji17) : Int).toNat * 6 + 1, none⟩ (.int .i64 4))) ?hg ?ho ?hn ?hr ?_; (case ho => rfl); (case hg => rfl); (case hn => rfl); (case hr => first | (go_simp; done) | (go_simp; rfl)); intro w29 hw; have hg : w13.grownBy w29 (some go20) := (by rw [hw]; exact HP28.2); have hp_ : Kd.R k39 39 w29 w.heap.size (fun _ => True) (.slice (some ⟨go20, 0, none⟩) t173.length co14) y178 := (by rw [hw, Ny178.out]; exact HP28.1); clear HP28; have n0_ := Aside0.mk (hp_); have n1_ := Aside0.mk ((by rw [hw]; exact below_set (HB.out) GB20.out : Below w.heap.size w w29)); clear HO175; clear HB; have HO175 := n0_; have HB := n1_; clear n0_ n1_; clear hg hw hp_))
                        go_meet
                        case rel => exact ⟨_, _, H', ⟨by have := HJ5.out; first | omega | exact Nat.le_refl _⟩, ⟨by first | rfl | (rw [Ny178.out, List.length_set])⟩, ⟨by (with_reducible repeat (first | apply Kd.R_alloc | apply Kd.R_drewN | apply Kd.R_drew)); exact HO175.out⟩, ⟨by repeat (first | (with_reducible first | exact HB.out | apply below_alloc | apply pw_below_drewN | apply below_drew1) | exact HB.out)⟩⟩
                      · rw [if_neg c27] at H
                        have c27b0 : ((Int.tmod a4 8) == 2) = false := beq_eq_false_iff_ne.mpr c27
                        have c27b1 : ((Int.tmod a4 8) != 2) = true := bne_iff_ne.mpr c27
                        by_cases c30 : (Int.tmod a4 8) = 3
                        · rw [if_pos c30] at H
                          have c30b0 : ((Int.tmod a4 8) == 3) = true := beq_iff_eq.mpr c30
                          have c30b1 : ((Int.tmod a4 8) != 3) = false := bne_eq_false_iff_eq.mpr c30
                          clear c30
                          obtain ⟨y179, hy179⟩ : ∃ y_ : List (S39), y_ = (t173.set ((ji17) : Int).toNat (⟨(rd_T39 t173 (ji17)).f0, (rd_T39 t173 (ji17)).f1, (rd_T39 t173 (ji17)).f2, (rd_T39 t173 (ji17)).f2, (rd_T39 t173 (ji17)).f4, (rd_T39 t173 (ji17)).f5⟩ : S39)) := ⟨_, rfl⟩
                          replace H : (insolvencylaw25_HistoryCheck.j1 kj5 a0 l1 y179) = some r := by first | (rw [hy179]; with_reducible exact H) | (have H2_ := (Option.bind_some _ _).symm.trans H; rw [hy179]; with_reducible exact H2_) | (have H2_ := (Option.bind_some _ _).symm.trans H; with_reducible exact H2_) | with_reducible exact H | (rw [hy179]; exact H) | exact H
                          have Ny179 := Aside0.mk hy179
                          clear hy179
                          have H' := Aside0.mk H
                          clear H
                          have p20 : 0 ≤ ((ji17) : Int) := of_decide_eq_true (by first | (with_reducible assumption) | assumption)
                          have q20 : ((ji17) : Int) < ((t173.length : Int) : Int) := of_decide_eq_true (by first | (with_reducible assumption) | assumption)
                          obtain ⟨go20, co20, eo20, gb20, gl20, cl20, HG20⟩ := Kd.R_form HO175.out (by omega)
                          (first | cases eo20 | (injection eo20 with ea_ en_ ec_; (first | subst ea_ | (injection ea_ with ea_; subst ea_)); subst ec_; clear en_))
                          have GB20 := Aside0.mk gb20
                          have GG20 := Aside0.mk HG20
                          clear gb20 gl20 HG20
                          obtain ⟨ce20, hcl20, hM20, hcc20, hfr20⟩ := Kd.R_elem HO175.out z39 ((ji17) : Int) p20 q20
                          obtain rfl := k39_openM hM20
                          have hx20_0 : w13.cell? ⟨go20, ((ji17) : Int).toNat * 6, none⟩ = some (.int .i64 ((rd_T39 t173 (ji17)).f0)) := hcc20 0 _ rfl
                          have hx20_1 : w13.cell? ⟨go20, ((ji17) : Int).toNat * 6 + 1, none⟩ = some (.int .i64 ((rd_T39 t173 (ji17)).f1)) := hcc20 1 _ rfl
                          have hx20_2 : w13.cell? ⟨go20, ((ji17) : Int).toNat * 6 + 2, none⟩ = some (.int .i64 ((rd_T39 t173 (ji17)).f2)) := hcc20 2 _ rfl
                          have hx20_3 : w13.cell? ⟨go20, ((ji17) : Int).toNat * 6 + 3, none⟩ = some (.int .i64 ((rd_T39 t173 (ji17)).f3)) := hcc20 3 _ rfl
                          have hx20_4 : w13.cell? ⟨go20, ((ji17) : Int).toNat * 6 + 4, none⟩ = some (.int .i64 ((rd_T39 t173 (ji17)).f4)) := hcc20 4 _ rfl
                          have hx20_5 : w13.cell? ⟨go20, ((ji17) : Int).toNat * 6 + 5, none⟩ = some (.int .i64 ((rd_T39 t173 (ji17)).f5)) := hcc20 5 _ rfl
                          have hf20_0 : w13.frozen? ⟨go20, ((ji17) : Int).toNat * 6, none⟩ = false := hfr20 0
                          have hf20_1 : w13.frozen? ⟨go20, ((ji17) : Int).toNat * 6 + 1, none⟩ = false := hfr20 1
                          have hf20_2 : w13.frozen? ⟨go20, ((ji17) : Int).toNat * 6 + 2, none⟩ = false := hfr20 2
                          have hf20_3 : w13.frozen? ⟨go20, ((ji17) : Int).toNat * 6 + 3, none⟩ = false := hfr20 3
                          have hf20_4 : w13.frozen? ⟨go20, ((ji17) : Int).toNat * 6 + 4, none⟩ = false := hfr20 4
                          have hf20_5 : w13.frozen? ⟨go20, ((ji17) : Int).toNat * 6 + 5, none⟩ = false := hfr20 5
                          clear hcl20 hcc20 hfr20 hM20
                          replace p20 := eq_true p20
                          replace q20 := eq_true q20
                          have HX31 := Aside0.mk (show Kd.R k39 39 w13 w.heap.size (fun _ => True) (.slice (some ⟨go20, 0, none⟩) t173.length co14) t173 from (by (with_reducible repeat (first | apply Kd.R_alloc | apply Kd.R_drewN | apply Kd.R_drew)); exact HO175.out))
                          obtain ⟨ce31, hcl31, hM31, hcc31, hfr31⟩ := Kd.R_elem HX31.out z39 ((ji17) : Int) (of_decide_eq_true (by first | (with_reducible assumption) | assumption)) (by have h_ : ((ji17) : Int) < ((t173.length : Int) : Int) := of_decide_eq_true (by first | (with_reducible assumption) | assumption); first | exact h_ | (have e_ := (Kd.R_reads' HO175.out).1; omega) | simpa using h_)
                          obtain rfl := k39_openM hM31
                          have HP31 := Kd.R_seg HX31.out ((ji17) : Int) (of_decide_eq_true (by first | (with_reducible assumption) | assumption)) (by have h_ : ((ji17) : Int) < ((t173.length : Int) : Int) := of_decide_eq_true (by first | (with_reducible assumption) | assumption); first | exact h_ | (have e_ := (Kd.R_reads' HO175.out).1; omega) | simpa using h_) (seg := [.int .i64 ((rd_T39 t173 (ji17)).f2)]) (j := 3) hcl31 hcc31 (show 4 ≤ 6 from by decide) (x' := (⟨(rd_T39 t173 (ji17)).f0, (rd_T39 t173 (ji17)).f1, (rd_T39 t173 (ji17)).f2, (rd_T39 t173 (ji17)).f2, (rd_T39 t173 (ji17)).f4, (rd_T39 t173 (ji17)).f5⟩ : S39)) (k39_mkM _ _ _ (⟨(rd_T39 t173 (ji17)).f0, (rd_T39 t173 (ji17)).f1, (rd_T39 t173 (ji17)).f2, (rd_T39 t173 (ji17)).f2, (rd_T39 t173 (ji17)).f4, (rd_T39 t173 (ji17)).f5⟩ : S39) ) (fun _ hk => hk)
                          have hx31_3 := hcc31 3 _ rfl
                          (try simp only [show (k39).sz = 6 from rfl, Nat.mul_one, Nat.add_zero] at hx31_3)
                          have hf31_3 := hfr31 3
                          (try simp only [show (k39).sz = 6 from rfl, Nat.mul_one, Nat.add_zero] at hf31_3)
                          clear hcl31 hcc31 hfr31 hM31
                          go_wp2_with (first | ((with_reducible refine gate_store (t := 3) (p := 59) rfl ?_); refine store_event (t := 3) (p := 59) (v := ?vo_w32) (w1 := (w13.setCell ⟨go20, ((ji17) : Int).toNat * 6 + 3, none⟩ (.int .i64 ((rd_T39 t173 (ji17)).f2)))) ?hg ?ho ?hn ?hr ?_; (case ho => rfl); (case hg => rfl); (case hn => rfl); (case hr => first | (go_simp; done) | (go_simp; rfl)); intro w32 hw; have hg : w13.grownBy w32 (some go20) := (by rw [hw]; exact HP31.2); have hp_ : Kd.R k39 39 w32 w.heap.size (fun _ => True) (.slice (some ⟨go20, 0, none⟩) t173.length co14) y179 := (by rw [hw, Ny179.out]; exact HP31.1); clear HP31; have n0_ := Aside0.mk (hp_); have n1_ := Aside0.mk ((by rw [hw]; exact below_set (HB.out) GB20.out : Below w.heap.size w w32)); clear HO175; clear HB; have HO175 := n0_; have HB := n1_; clear n0_ n1_; clear hg hw hp_))
                          go_meet
                          case rel => exact ⟨_, _, H', ⟨by have := HJ5.out; first | omega | exact Nat.le_refl _⟩, ⟨by first | rfl | (rw [Ny179.out, List.length_set])⟩, ⟨by (with_reducible repeat (first | apply Kd.R_alloc | apply Kd.R_drewN | apply Kd.R_drew)); exact HO175.out⟩, ⟨by repeat (first | (with_reducible first | exact HB.out | apply below_alloc | apply pw_below_drewN | apply below_drew1) | exact HB.out)⟩⟩
                        · rw [if_neg c30] at H
                          have c30b0 : ((Int.tmod a4 8) == 3) = false := beq_eq_false_iff_ne.mpr c30
                          have c30b1 : ((Int.tmod a4 8) != 3) = true := bne_iff_ne.mpr c30
                          by_cases c33 : (Int.tmod a4 8) = 4
                          · rw [if_pos c33] at H
                            have c33b0 : ((Int.tmod a4 8) == 4) = true := beq_iff_eq.mpr c33
                            have c33b1 : ((Int.tmod a4 8) != 4) = false := bne_eq_false_iff_eq.mpr c33
                            clear c33
                            obtain ⟨y180, hy180⟩ : ∃ y_ : List (S39), y_ = (t173.set ((ji17) : Int).toNat (⟨(rd_T39 t173 (ji17)).f0, (rd_T39 t173 (ji17)).f1, (rd_T39 t173 (ji17)).f2, (rd_T39 t173 (ji17)).f3, (rd_T39 t173 (ji17)).f4, 1125899906842625⟩ : S39)) := ⟨_, rfl⟩
                            replace H : (insolvencylaw25_HistoryCheck.j1 kj5 a0 l1 y180) = some r := by first | (rw [hy180]; with_reducible exact H) | (have H2_ := (Option.bind_some _ _).symm.trans H; rw [hy180]; with_reducible exact H2_) | (have H2_ := (Option.bind_some _ _).symm.trans H; with_reducible exact H2_) | with_reducible exact H | (rw [hy180]; exact H) | exact H
                            have Ny180 := Aside0.mk hy180
                            clear hy180
                            have H' := Aside0.mk H
                            clear H
                            have p20 : 0 ≤ ((ji17) : Int) := of_decide_eq_true (by first | (with_reducible assumption) | assumption)
                            have q20 : ((ji17) : Int) < ((t173.length : Int) : Int) := of_decide_eq_true (by first | (with_reducible assumption) | assumption)
                            obtain ⟨go20, co20, eo20, gb20, gl20, cl20, HG20⟩ := Kd.R_form HO175.out (by omega)
                            (first | cases eo20 | (injection eo20 with ea_ en_ ec_; (first | subst ea_ | (injection ea_ with ea_; subst ea_)); subst ec_; clear en_))
                            have GB20 := Aside0.mk gb20
                            have GG20 := Aside0.mk HG20
                            clear gb20 gl20 HG20
                            obtain ⟨ce20, hcl20, hM20, hcc20, hfr20⟩ := Kd.R_elem HO175.out z39 ((ji17) : Int) p20 q20
                            obtain rfl := k39_openM hM20
                            have hx20_0 : w13.cell? ⟨go20, ((ji17) : Int).toNat * 6, none⟩ = some (.int .i64 ((rd_T39 t173 (ji17)).f0)) := hcc20 0 _ rfl
                            have hx20_1 : w13.cell? ⟨go20, ((ji17) : Int).toNat * 6 + 1, none⟩ = some (.int .i64 ((rd_T39 t173 (ji17)).f1)) := hcc20 1 _ rfl
                            have hx20_2 : w13.cell? ⟨go20, ((ji17) : Int).toNat * 6 + 2, none⟩ = some (.int .i64 ((rd_T39 t173 (ji17)).f2)) := hcc20 2 _ rfl
                            have hx20_3 : w13.cell? ⟨go20, ((ji17) : Int).toNat * 6 + 3, none⟩ = some (.int .i64 ((rd_T39 t173 (ji17)).f3)) := hcc20 3 _ rfl
                            have hx20_4 : w13.cell? ⟨go20, ((ji17) : Int).toNat * 6 + 4, none⟩ = some (.int .i64 ((rd_T39 t173 (ji17)).f4)) := hcc20 4 _ rfl
                            have hx20_5 : w13.cell? ⟨go20, ((ji17) : Int).toNat * 6 + 5, none⟩ = some (.int .i64 ((rd_T39 t173 (ji17)).f5)) := hcc20 5 _ rfl
                            have hf20_0 : w13.frozen? ⟨go20, ((ji17) : Int).toNat * 6, none⟩ = false := hfr20 0
                            have hf20_1 : w13.frozen? ⟨go20, ((ji17) : Int).toNat * 6 + 1, none⟩ = false := hfr20 1
                            have hf20_2 : w13.frozen? ⟨go20, ((ji17) : Int).toNat * 6 + 2, none⟩ = false := hfr20 2
                            have hf20_3 : w13.frozen? ⟨go20, ((ji17) : Int).toNat * 6 + 3, none⟩ = false := hfr20 3
                            have hf20_4 : w13.frozen? ⟨go20, ((ji17) : Int).toNat * 6 + 4, none⟩ = false := hfr20 4
                            have hf20_5 : w13.frozen? ⟨go20, ((ji17) : Int).toNat * 6 + 5, none⟩ = false := hfr20 5
                            clear hcl20 hcc20 hfr20 hM20
                            replace p20 := eq_true p20
                            replace q20 := eq_true q20
                            have HX34 := Aside0.mk (show Kd.R k39 39 w13 w.heap.size (fun _ => True) (.slice (some ⟨go20, 0, none⟩) t173.length co14) t173 from (by (with_reducible repeat (first | apply Kd.R_alloc | apply Kd.R_drewN | apply Kd.R_drew)); exact HO175.out))
                            obtain ⟨ce34, hcl34, hM34, hcc34, hfr34⟩ := Kd.R_elem HX34.out z39 ((ji17) : Int) (of_decide_eq_true (by first | (with_reducible assumption) | assumption)) (by have h_ : ((ji17) : Int) < ((t173.length : Int) : Int) := of_decide_eq_true (by first | (with_reducible assumption) | assumption); first | exact h_ | (have e_ := (Kd.R_reads' HO175.out).1; omega) | simpa using h_)
                            obtain rfl := k39_openM hM34
                            have HP34 := Kd.R_seg HX34.out ((ji17) : Int) (of_decide_eq_true (by first | (with_reducible assumption) | assumption)) (by have h_ : ((ji17) : Int) < ((t173.length : Int) : Int) := of_decide_eq_true (by first | (with_reducible assumption) | assumption); first | exact h_ | (have e_ := (Kd.R_reads' HO175.out).1; omega) | simpa using h_) (seg := [.int .i64 1125899906842625]) (j := 5) hcl34 hcc34 (show 6 ≤ 6 from by decide) (x' := (⟨(rd_T39 t173 (ji17)).f0, (rd_T39 t173 (ji17)).f1, (rd_T39 t173 (ji17)).f2, (rd_T39 t173 (ji17)).f3, (rd_T39 t173 (ji17)).f4, 1125899906842625⟩ : S39)) (k39_mkM _ _ _ (⟨(rd_T39 t173 (ji17)).f0, (rd_T39 t173 (ji17)).f1, (rd_T39 t173 (ji17)).f2, (rd_T39 t173 (ji17)).f3, (rd_T39 t173 (ji17)).f4, 1125899906842625⟩ : S39) ) (fun _ hk => hk)
                            have hx34_5 := hcc34 5 _ rfl
                            (try simp only [show (k39).sz = 6 from rfl, Nat.mul_one, Nat.add_zero] at hx34_5)
                            have hf34_5 := hfr34 5
                            (try simp only [show (k39).sz = 6 from rfl, Nat.mul_one, Nat.add_zero] at hf34_5)
                            clear hcl34 hcc34 hfr34 hM34
                            go_wp2_with (first | ((with_reducible refine gate_store (t := 2) (p := 64) rfl ?_); refine store_event (t := 2) (p := 64) (v := ?vo_w35) (w1 := (w13.setCell ⟨go20, ((ji17) : Int).toNat * 6 + 5, none⟩ (.int .i64 1125899906842625))) ?hg ?ho ?hn ?hr ?_; (case ho => rfl); (case hg => rfl); (case hn => rfl); (case hr => first | (go_simp; done) | (go_simp; rfl)); intro w35 hw; have hg : w13.grownBy w35 (some go20) := (by rw [hw]; exact HP34.2); have hp_ : Kd.R k39 39 w35 w.heap.size (fun _ => True) (.slice (some ⟨go20, 0, none⟩) t173.length co14) y180 := (by rw [hw, Ny180.out]; exact HP34.1); clear HP34; have n0_ := Aside0.mk (hp_); have n1_ := Aside0.mk ((by rw [hw]; exact below_set (HB.out) GB20.out : Below w.heap.size w w35)); clear HO175; clear HB; have HO175 := n0_; have HB := n1_; clear n0_ n1_; clear hg hw hp_))
                            go_meet
                            case rel => exact ⟨_, _, H', ⟨by have := HJ5.out; first | omega | exact Nat.le_refl _⟩, ⟨by first | rfl | (rw [Ny180.out, List.length_set])⟩, ⟨by (with_reducible repeat (first | apply Kd.R_alloc | apply Kd.R_drewN | apply Kd.R_drew)); exact HO175.out⟩, ⟨by repeat (first | (with_reducible first | exact HB.out | apply below_alloc | apply pw_below_drewN | apply below_drew1) | exact HB.out)⟩⟩
                          · rw [if_neg c33] at H
                            have c33b0 : ((Int.tmod a4 8) == 4) = false := beq_eq_false_iff_ne.mpr c33
                            have c33b1 : ((Int.tmod a4 8) != 4) = true := bne_iff_ne.mpr c33
                            by_cases c36 : (Int.tmod a4 8) = 5
                            · rw [if_pos c36] at H
                              have c36b0 : ((Int.tmod a4 8) == 5) = true := beq_iff_eq.mpr c36
                              have c36b1 : ((Int.tmod a4 8) != 5) = false := bne_eq_false_iff_eq.mpr c36
                              clear c36
                              obtain ⟨y181, hy181⟩ : ∃ y_ : List (S39), y_ = (t173.set ((ji17) : Int).toNat (⟨(rd_T39 t173 (ji17)).f0, (rd_T39 t173 (ji17)).f1, (rd_T39 t173 (ji17)).f2, (rd_T39 t173 (ji17)).f3, (-1), (rd_T39 t173 (ji17)).f5⟩ : S39)) := ⟨_, rfl⟩
                              replace H : (insolvencylaw25_HistoryCheck.j1 kj5 a0 l1 y181) = some r := by first | (rw [hy181]; with_reducible exact H) | (have H2_ := (Option.bind_some _ _).symm.trans H; rw [hy181]; with_reducible exact H2_) | (have H2_ := (Option.bind_some _ _).symm.trans H; with_reducible exact H2_) | with_reducible exact H | (rw [hy181]; exact H) | exact H
                              have Ny181 := Aside0.mk hy181
                              clear hy181
                              have H' := Aside0.mk H
                              clear H
                              have p20 : 0 ≤ ((ji17) : Int) := of_decide_eq_true (by first | (with_reducible assumption) | assumption)
                              have q20 : ((ji17) : Int) < ((t173.length : Int) : Int) := of_decide_eq_true (by first | (with_reducible assumption) | assumption)
                              obtain ⟨go20, co20, eo20, gb20, gl20, cl20, HG20⟩ := Kd.R_form HO175.out (by omega)
                              (first | cases eo20 | (injection eo20 with ea_ en_ ec_; (first | subst ea_ | (injection ea_ with ea_; subst ea_)); subst ec_; clear en_))
                              have GB20 := Aside0.mk gb20
                              have GG20 := Aside0.mk HG20
                              clear gb20 gl20 HG20
                              obtain ⟨ce20, hcl20, hM20, hcc20, hfr20⟩ := Kd.R_elem HO175.out z39 ((ji17) : Int) p20 q20
                              obtain rfl := k39_openM hM20
                              have hx20_0 : w13.cell? ⟨go20, ((ji17) : Int).toNat * 6, none⟩ = some (.int .i64 ((rd_T39 t173 (ji17)).f0)) := hcc20 0 _ rfl
                              have hx20_1 : w13.cell? ⟨go20, ((ji17) : Int).toNat * 6 + 1, none⟩ = some (.int .i64 ((rd_T39 t173 (ji17)).f1)) := hcc20 1 _ rfl
                              have hx20_2 : w13.cell? ⟨go20, ((ji17) : Int).toNat * 6 + 2, none⟩ = some (.int .i64 ((rd_T39 t173 (ji17)).f2)) := hcc20 2 _ rfl
                              have hx20_3 : w13.cell? ⟨go20, ((ji17) : Int).toNat * 6 + 3, none⟩ = some (.int .i64 ((rd_T39 t173 (ji17)).f3)) := hcc20 3 _ rfl
                              have hx20_4 : w13.cell? ⟨go20, ((ji17) : Int).toNat * 6 + 4, none⟩ = some (.int .i64 ((rd_T39 t173 (ji17)).f4)) := hcc20 4 _ rfl
                              have hx20_5 : w13.cell? ⟨go20, ((ji17) : Int).toNat * 6 + 5, none⟩ = some (.int .i64 ((rd_T39 t173 (ji17)).f5)) := hcc20 5 _ rfl
                              have hf20_0 : w13.frozen? ⟨go20, ((ji17) : Int).toNat * 6, none⟩ = false := hfr20 0
                              have hf20_1 : w13.frozen? ⟨go20, ((ji17) : Int).toNat * 6 + 1, none⟩ = false := hfr20 1
                              have hf20_2 : w13.frozen? ⟨go20, ((ji17) : Int).toNat * 6 + 2, none⟩ = false := hfr20 2
                              have hf20_3 : w13.frozen? ⟨go20, ((ji17) : Int).toNat * 6 + 3, none⟩ = false := hfr20 3
                              have hf20_4 : w13.frozen? ⟨go20, ((ji17) : Int).toNat * 6 + 4, none⟩ = false := hfr20 4
                              have hf20_5 : w13.frozen? ⟨go20, ((ji17) : Int).toNat * 6 + 5, none⟩ = false := hfr20 5
                              clear hcl20 hcc20 hfr20 hM20
                              replace p20 := eq_true p20
                              replace q20 := eq_true q20
                              have HX37 := Aside0.mk (show Kd.R k39 39 w13 w.heap.size (fun _ => True) (.slice (some ⟨go20, 0, none⟩) t173.length co14) t173 from (by (with_reducible repeat (first | apply Kd.R_alloc | apply Kd.R_drewN | apply Kd.R_drew)); exact HO175.out))
                              obtain ⟨ce37, hcl37, hM37, hcc37, hfr37⟩ := Kd.R_elem HX37.out z39 ((ji17) : Int) (of_decide_eq_true (by first | (with_reducible assumption) | assumption)) (by have h_ : ((ji17) : Int) < ((t173.length : Int) : Int) := of_decide_eq_true (by first | (with_reducible assumption) | assumption); first | exact h_ | (have e_ := (Kd.R_reads' HO175.out).1; omega) | simpa using h_)
                              obtain rfl := k39_openM hM37
                              have HP37 := Kd.R_seg HX37.out ((ji17) : Int) (of_decide_eq_true (by first | (with_reducible assumption) | assumption)) (by have h_ : ((ji17) : Int) < ((t173.length : Int) : Int) := of_decide_eq_true (by first | (with_reducible assumption) | assumption); first | exact h_ | (have e_ := (Kd.R_reads' HO175.out).1; omega) | simpa using h_) (seg := [.int .i64 (-1)]) (j := 4) hcl37 hcc37 (show 5 ≤ 6 from by decide) (x' := (⟨(rd_T39 t173 (ji17)).f0, (rd_T39 t173 (ji17)).f1, (rd_T39 t173 (ji17)).f2, (rd_T39 t173 (ji17)).f3, (-1), (rd_T39 t173 (ji17)).f5⟩ : S39)) (k39_mkM _ _ _ (⟨(rd_T39 t173 (ji17)).f0, (rd_T39 t173 (ji17)).f1, (rd_T39 t173 (ji17)).f2, (rd_T39 t173 (ji17)).f3, (-1), (rd_T39 t173 (ji17)).f5⟩ : S39) ) (fun _ hk => hk)
                              have hx37_4 := hcc37 4 _ rfl
                              (try simp only [show (k39).sz = 6 from rfl, Nat.mul_one, Nat.add_zero] at hx37_4)
                              have hf37_4 := hfr37 4
                              (try simp only [show (k39).sz = 6 from rfl, Nat.mul_one, Nat.add_zero] at hf37_4)
                              clear hcl37 hcc37 hfr37 hM37
                              go_wp2_with (first | ((with_reducible refine gate_store (t := 2) (p := 69) rfl ?_); refine store_event (t := 2) (p := 69) (v := ?vo_w38) (w1 := (w13.setCell ⟨go20, ((ji17) : Int).toNat * 6 + 4, none⟩ (.int .i64 (-1)))) ?hg ?ho ?hn ?hr ?_; (case ho => rfl); (case hg => rfl); (case hn => rfl); (case hr => first | (go_simp; done) | (go_simp; rfl)); intro w38 hw; have hg : w13.grownBy w38 (some go20) := (by rw [hw]; exact HP37.2); have hp_ : Kd.R k39 39 w38 w.heap.size (fun _ => True) (.slice (some ⟨go20, 0, none⟩) t173.length co14) y181 := (by rw [hw, Ny181.out]; exact HP37.1); clear HP37; have n0_ := Aside0.mk (hp_); have n1_ := Aside0.mk ((by rw [hw]; exact below_set (HB.out) GB20.out : Below w.heap.size w w38)); clear HO175; clear HB; have HO175 := n0_; have HB := n1_; clear n0_ n1_; clear hg hw hp_))
                              go_meet
                              case rel => exact ⟨_, _, H', ⟨by have := HJ5.out; first | omega | exact Nat.le_refl _⟩, ⟨by first | rfl | (rw [Ny181.out, List.length_set])⟩, ⟨by (with_reducible repeat (first | apply Kd.R_alloc | apply Kd.R_drewN | apply Kd.R_drew)); exact HO175.out⟩, ⟨by repeat (first | (with_reducible first | exact HB.out | apply below_alloc | apply pw_below_drewN | apply below_drew1) | exact HB.out)⟩⟩
                            · rw [if_neg c36] at H
                              have c36b0 : ((Int.tmod a4 8) == 5) = false := beq_eq_false_iff_ne.mpr c36
                              have c36b1 : ((Int.tmod a4 8) != 5) = true := bne_iff_ne.mpr c36
                              by_cases c39 : (Int.tmod a4 8) = 6
                              · rw [if_pos c39] at H
                                have c39b0 : ((Int.tmod a4 8) == 6) = true := beq_iff_eq.mpr c39
                                have c39b1 : ((Int.tmod a4 8) != 6) = false := bne_eq_false_iff_eq.mpr c39
                                clear c39
                                obtain ⟨y182, hy182⟩ : ∃ y_ : List (S39), y_ = (t173.set ((ji17) : Int).toNat (⟨(rd_T39 t173 (ji17)).f0, (rd_T39 t173 (ji17)).f1, 4, (rd_T39 t173 (ji17)).f3, (rd_T39 t173 (ji17)).f4, (rd_T39 t173 (ji17)).f5⟩ : S39)) := ⟨_, rfl⟩
                                replace H : (insolvencylaw25_HistoryCheck.j1 kj5 a0 l1 y182) = some r := by first | (rw [hy182]; with_reducible exact H) | (have H2_ := (Option.bind_some _ _).symm.trans H; rw [hy182]; with_reducible exact H2_) | (have H2_ := (Option.bind_some _ _).symm.trans H; with_reducible exact H2_) | with_reducible exact H | (rw [hy182]; exact H) | exact H
                                have Ny182 := Aside0.mk hy182
                                clear hy182
                                have H' := Aside0.mk H
                                clear H
                                have p20 : 0 ≤ ((ji17) : Int) := of_decide_eq_true (by first | (with_reducible assumption) | assumption)
                                have q20 : ((ji17) : Int) < ((t173.length : Int) : Int) := of_decide_eq_true (by first | (with_reducible assumption) | assumption)
                                obtain ⟨go20, co20, eo20, gb20, gl20, cl20, HG20⟩ := Kd.R_form HO175.out (by omega)
                                (first | cases eo20 | (injection eo20 with ea_ en_ ec_; (first | subst ea_ | (injection ea_ with ea_; subst ea_)); subst ec_; clear en_))
                                have GB20 := Aside0.mk gb20
                                have GG20 := Aside0.mk HG20
                                clear gb20 gl20 HG20
                                obtain ⟨ce20, hcl20, hM20, hcc20, hfr20⟩ := Kd.R_elem HO175.out z39 ((ji17) : Int) p20 q20
                                obtain rfl := k39_openM hM20
                                have hx20_0 : w13.cell? ⟨go20, ((ji17) : Int).toNat * 6, none⟩ = some (.int .i64 ((rd_T39 t173 (ji17)).f0)) := hcc20 0 _ rfl
                                have hx20_1 : w13.cell? ⟨go20, ((ji17) : Int).toNat * 6 + 1, none⟩ = some (.int .i64 ((rd_T39 t173 (ji17)).f1)) := hcc20 1 _ rfl
                                have hx20_2 : w13.cell? ⟨go20, ((ji17) : Int).toNat * 6 + 2, none⟩ = some (.int .i64 ((rd_T39 t173 (ji17)).f2)) := hcc20 2 _ rfl
                                have hx20_3 : w13.cell? ⟨go20, ((ji17) : Int).toNat * 6 + 3, none⟩ = some (.int .i64 ((rd_T39 t173 (ji17)).f3)) := hcc20 3 _ rfl
                                have hx20_4 : w13.cell? ⟨go20, ((ji17) : Int).toNat * 6 + 4, none⟩ = some (.int .i64 ((rd_T39 t173 (ji17)).f4)) := hcc20 4 _ rfl
                                have hx20_5 : w13.cell? ⟨go20, ((ji17) : Int).toNat * 6 + 5, none⟩ = some (.int .i64 ((rd_T39 t173 (ji17)).f5)) := hcc20 5 _ rfl
                                have hf20_0 : w13.frozen? ⟨go20, ((ji17) : Int).toNat * 6, none⟩ = false := hfr20 0
                                have hf20_1 : w13.frozen? ⟨go20, ((ji17) : Int).toNat * 6 + 1, none⟩ = false := hfr20 1
                                have hf20_2 : w13.frozen? ⟨go20, ((ji17) : Int).toNat * 6 + 2, none⟩ = false := hfr20 2
                                have hf20_3 : w13.frozen? ⟨go20, ((ji17) : Int).toNat * 6 + 3, none⟩ = false := hfr20 3
                                have hf20_4 : w13.frozen? ⟨go20, ((ji17) : Int).toNat * 6 + 4, none⟩ = false := hfr20 4
                                have hf20_5 : w13.frozen? ⟨go20, ((ji17) : Int).toNat * 6 + 5, none⟩ = false := hfr20 5
                                clear hcl20 hcc20 hfr20 hM20
                                replace p20 := eq_true p20
                                replace q20 := eq_true q20
                                have HX40 := Aside0.mk (show Kd.R k39 39 w13 w.heap.size (fun _ => True) (.slice (some ⟨go20, 0, none⟩) t173.length co14) t173 from (by (with_reducible repeat (first | apply Kd.R_alloc | apply Kd.R_drewN | apply Kd.R_drew)); exact HO175.out))
                                obtain ⟨ce40, hcl40, hM40, hcc40, hfr40⟩ := Kd.R_elem HX40.out z39 ((ji17) : Int) (of_decide_eq_true (by first | (with_reducible assumption) | assumption)) (by have h_ : ((ji17) : Int) < ((t173.length : Int) : Int) := of_decide_eq_true (by first | (with_reducible assumption) | assumption); first | exact h_ | (have e_ := (Kd.R_reads' HO175.out).1; omega) | simpa using h_)
                                obtain rfl := k39_openM hM40
                                have HP40 := Kd.R_seg HX40.out ((ji17) : Int) (of_decide_eq_true (by first | (with_reducible assumption) | assumption)) (by have h_ : ((ji17) : Int) < ((t173.length : Int) : Int) := of_decide_eq_true (by first | (with_reducible assumption) | assumption); first | exact h_ | (have e_ := (Kd.R_reads' HO175.out).1; omega) | simpa using h_) (seg := [.int .i64 4]) (j := 2) hcl40 hcc40 (show 3 ≤ 6 from by decide) (x' := (⟨(rd_T39 t173 (ji17)).f0, (rd_T39 t173 (ji17)).f1, 4, (rd_T39 t173 (ji17)).f3, (rd_T39 t173 (ji17)).f4, (rd_T39 t173 (ji17)).f5⟩ : S39)) (k39_mkM _ _ _ (⟨(rd_T39 t173 (ji17)).f0, (rd_T39 t173 (ji17)).f1, 4, (rd_T39 t173 (ji17)).f3, (rd_T39 t173 (ji17)).f4, (rd_T39 t173 (ji17)).f5⟩ : S39) ) (fun _ hk => hk)
                                have hx40_2 := hcc40 2 _ rfl
                                (try simp only [show (k39).sz = 6 from rfl, Nat.mul_one, Nat.add_zero] at hx40_2)
                                have hf40_2 := hfr40 2
                                (try simp only [show (k39).sz = 6 from rfl, Nat.mul_one, Nat.add_zero] at hf40_2)
                                clear hcl40 hcc40 hfr40 hM40
                                go_wp2_with (first | ((with_reducible refine gate_store (t := 3) (p := 74) rfl ?_); refine store_event (t := 3) (p := 74) (v := ?vo_w41) (w1 := (w13.setCell ⟨go20, ((ji17) : Int).toNat * 6 + 2, none⟩ (.int .i64 4))) ?hg ?ho ?hn ?hr ?_; (case ho => rfl); (case hg => rfl); (case hn => rfl); (case hr => first | (go_simp; done) | (go_simp; rfl)); intro w41 hw; have hg : w13.grownBy w41 (some go20) := (by rw [hw]; exact HP40.2); have hp_ : Kd.R k39 39 w41 w.heap.size (fun _ => True) (.slice (some ⟨go20, 0, none⟩) t173.length co14) y182 := (by rw [hw, Ny182.out]; exact HP40.1); clear HP40; have n0_ := Aside0.mk (hp_); have n1_ := Aside0.mk ((by rw [hw]; exact below_set (HB.out) GB20.out : Below w.heap.size w w41)); clear HO175; clear HB; have HO175 := n0_; have HB := n1_; clear n0_ n1_; clear hg hw hp_))
                                go_meet
                                case rel => exact ⟨_, _, H', ⟨by have := HJ5.out; first | omega | exact Nat.le_refl _⟩, ⟨by first | rfl | (rw [Ny182.out, List.length_set])⟩, ⟨by (with_reducible repeat (first | apply Kd.R_alloc | apply Kd.R_drewN | apply Kd.R_drew)); exact HO175.out⟩, ⟨by repeat (first | (with_reducible first | exact HB.out | apply below_alloc | apply pw_below_drewN | apply below_drew1) | exact HB.out)⟩⟩
                              · rw [if_neg c39] at H
                                have c39b0 : ((Int.tmod a4 8) == 6) = false := beq_eq_false_iff_ne.mpr c39
                                have c39b1 : ((Int.tmod a4 8) != 6) = true := bne_iff_ne.mpr c39
                                have H' := Aside0.mk H
                                clear H
                                have p20 : 0 ≤ ((ji17) : Int) := of_decide_eq_true (by first | (with_reducible assumption) | assumption)
                                have q20 : ((ji17) : Int) < ((t173.length : Int) : Int) := of_decide_eq_true (by first | (with_reducible assumption) | assumption)
                                obtain ⟨go20, co20, eo20, gb20, gl20, cl20, HG20⟩ := Kd.R_form HO175.out (by omega)
                                (first | cases eo20 | (injection eo20 with ea_ en_ ec_; (first | subst ea_ | (injection ea_ with ea_; subst ea_)); subst ec_; clear en_))
                                have GB20 := Aside0.mk gb20
                                have GG20 := Aside0.mk HG20
                                clear gb20 gl20 HG20
                                obtain ⟨ce20, hcl20, hM20, hcc20, hfr20⟩ := Kd.R_elem HO175.out z39 ((ji17) : Int) p20 q20
                                obtain rfl := k39_openM hM20
                                have hx20_0 : w13.cell? ⟨go20, ((ji17) : Int).toNat * 6, none⟩ = some (.int .i64 ((rd_T39 t173 (ji17)).f0)) := hcc20 0 _ rfl
                                have hx20_1 : w13.cell? ⟨go20, ((ji17) : Int).toNat * 6 + 1, none⟩ = some (.int .i64 ((rd_T39 t173 (ji17)).f1)) := hcc20 1 _ rfl
                                have hx20_2 : w13.cell? ⟨go20, ((ji17) : Int).toNat * 6 + 2, none⟩ = some (.int .i64 ((rd_T39 t173 (ji17)).f2)) := hcc20 2 _ rfl
                                have hx20_3 : w13.cell? ⟨go20, ((ji17) : Int).toNat * 6 + 3, none⟩ = some (.int .i64 ((rd_T39 t173 (ji17)).f3)) := hcc20 3 _ rfl
                                have hx20_4 : w13.cell? ⟨go20, ((ji17) : Int).toNat * 6 + 4, none⟩ = some (.int .i64 ((rd_T39 t173 (ji17)).f4)) := hcc20 4 _ rfl
                                have hx20_5 : w13.cell? ⟨go20, ((ji17) : Int).toNat * 6 + 5, none⟩ = some (.int .i64 ((rd_T39 t173 (ji17)).f5)) := hcc20 5 _ rfl
                                have hf20_0 : w13.frozen? ⟨go20, ((ji17) : Int).toNat * 6, none⟩ = false := hfr20 0
                                have hf20_1 : w13.frozen? ⟨go20, ((ji17) : Int).toNat * 6 + 1, none⟩ = false := hfr20 1
                                have hf20_2 : w13.frozen? ⟨go20, ((ji17) : Int).toNat * 6 + 2, none⟩ = false := hfr20 2
                                have hf20_3 : w13.frozen? ⟨go20, ((ji17) : Int).toNat * 6 + 3, none⟩ = false := hfr20 3
                                have hf20_4 : w13.frozen? ⟨go20, ((ji17) : Int).toNat * 6 + 4, none⟩ = false := hfr20 4
                                have hf20_5 : w13.frozen? ⟨go20, ((ji17) : Int).toNat * 6 + 5, none⟩ = false := hfr20 5
                                clear hcl20 hcc20 hfr20 hM20
                                replace p20 := eq_true p20
                                replace q20 := eq_true q20
                                go_wp2
                                go_meet
                                case rel => exact ⟨_, _, H', ⟨by have := HJ5.out; first | omega | exact Nat.le_refl _⟩, ⟨by first | rfl | (rw [Ny182.out, List.length_set])⟩, ⟨by (with_reducible repeat (first | apply Kd.R_alloc | apply Kd.R_drewN | apply Kd.R_drew)); exact HO175.out⟩, ⟨by repeat (first | (with_reducible first | exact HB.out | apply below_alloc | apply pw_below_drewN | apply below_drew1) | exact HB.out)⟩⟩
                · rw [if_neg c19] at H
                  exact absurd H (by simp)
              · rw [if_neg c18] at H
                exact absurd H (by simp)
          · rw [if_neg c15] at H
            have c15b0 : decide (0 < (t173.length : Int)) = false := decide_eq_false c15
            have c15b1 : decide (0 < t173.length) = false := decide_eq_false (by omega)
            clear c15
            (first | rw [c15b0] | rw [c15b1] | (simp only [i64_w, i32_w]; rw [c15b0]) | skip)
            have H' := Aside0.mk H
            clear H
            go_wp2
            go_meet
            case rel => exact ⟨_, _, H', ⟨by have := HJ5.out; first | omega | exact Nat.le_refl _⟩, ⟨by first | rfl | (rw [Ny182.out, List.length_set])⟩, ⟨by (with_reducible repeat (first | apply Kd.R_alloc | apply Kd.R_drewN | apply Kd.R_drew)); exact HO175.out⟩, ⟨by repeat (first | (with_reducible first | exact HB.out | apply below_alloc | apply pw_below_drewN | apply below_drew1) | exact HB.out)⟩⟩
        case rest =>
          clear HC12
          try clear c1
          try clear c2
          try clear p2
          try clear q2
          try clear hx2
          try clear c3
          try clear hx3
          try clear c4
          try clear hx4
          try clear p6
          try clear c7
          try clear c7b0
          try clear c7b1
          try clear c8
          try clear c10
          try clear c13
          try clear c14
          try clear c15
          try clear c15b0
          try clear c15b1
          try clear c16
          try clear c16b0
          try clear c16b1
          try clear c16b2
          try clear c18
          try clear c18b0
          try clear c19
          try clear c19b0
          try clear c20
          try clear p20
          try clear q20
          try clear hx20
          try clear hf20
          try clear c21
          try clear c21b0
          try clear c21b1
          try clear c22
          try clear hx22
          try clear hf22
          try clear c24
          try clear c24b0
          try clear c24b1
          try clear c25
          try clear hx25
          try clear hf25
          try clear c27
          try clear c27b0
          try clear c27b1
          try clear c28
          try clear hx28
          try clear hf28
          try clear c30
          try clear c30b0
          try clear c30b1
          try clear c31
          try clear hx31
          try clear hf31
          try clear c33
          try clear c33b0
          try clear c33b1
          try clear c34
          try clear hx34
          try clear hf34
          try clear c36
          try clear c36b0
          try clear c36b1
          try clear c37
          try clear hx37
          try clear hf37
          try clear c39
          try clear c39b0
          try clear c39b1
          try clear c40
          try clear hx40
          try clear hf40
          try clear hx20_0
          try clear hx20_1
          try clear hx20_2
          try clear hx20_3
          try clear hx20_4
          try clear hx20_5
          try clear hx22_0
          try clear hx25_0
          try clear hx28_1
          try clear hx31_3
          try clear hx34_5
          try clear hx37_4
          try clear hx40_2
          try clear p2
          try clear p20
          try clear q20
          obtain ⟨kq, lq, HA, HJ11, HLq, HO_11, HB⟩ := hcut
          have hlq_ := HLq.out
          clear HLq
          rw [← hlq_] at HO_11 ⊢
          clear hlq_
          cases kq with
          | zero => exact absurd HA.out (by simp [insolvencylaw25_HistoryCheck.j1])
          | succ kj11 =>
            have H := HA.out
            clear HA
            simp only [insolvencylaw25_HistoryCheck.j1] at H
            replace H := Option.bind_eq_some_iff.mp H
            obtain ⟨t183, A420, H⟩ := H
            replace H : (if t183 = true then ((history_Check.f kj11 a0 l1).bind fun t184 => ((insolvencyref25_Check.f kj11 a0 l1).bind fun t185 => (if t184 = t185 then ((history_Check.f kj11 4 lq).bind fun t186 => ((insolvencyref25_Check.f kj11 4 lq).bind fun t187 => (some (t186 == t187)))) else (some false)))) else (some false)) = some r := H
            have A42 := Aside0.mk A420
            clear A420
            by_cases c43 : t183 = true
            · subst c43
              have H1 : ((history_Check.f kj11 a0 l1).bind fun t184 => ((insolvencyref25_Check.f kj11 a0 l1).bind fun t185 => (if t184 = t185 then ((history_Check.f kj11 4 lq).bind fun t186 => ((insolvencyref25_Check.f kj11 4 lq).bind fun t187 => (some (t186 == t187)))) else (some false)))) = some r := by rw [if_pos rfl] at H; exact H
              clear H
              have H := H1
              clear H1
              replace H := Option.bind_eq_some_iff.mp H
              obtain ⟨t184, A440, H⟩ := H
              replace H : ((insolvencyref25_Check.f kj11 a0 l1).bind fun t185 => (if t184 = t185 then ((history_Check.f kj11 4 lq).bind fun t186 => ((insolvencyref25_Check.f kj11 4 lq).bind fun t187 => (some (t186 == t187)))) else (some false))) = some r := H
              have A44 := Aside0.mk A440
              clear A440
              replace H := Option.bind_eq_some_iff.mp H
              obtain ⟨t185, A450, H⟩ := H
              replace H : (if t184 = t185 then ((history_Check.f kj11 4 lq).bind fun t186 => ((insolvencyref25_Check.f kj11 4 lq).bind fun t187 => (some (t186 == t187)))) else (some false)) = some r := H
              have A45 := Aside0.mk A450
              clear A450
              by_cases c46 : t184 = t185
              · rw [if_pos c46] at H
                have c46b0 : (t184 == t185) = true := beq_iff_eq.mpr c46
                have c46b1 : (t184 != t185) = false := bne_eq_false_iff_eq.mpr c46
                clear c46
                replace H := Option.bind_eq_some_iff.mp H
                obtain ⟨t186, A470, H⟩ := H
                replace H : ((insolvencyref25_Check.f kj11 4 lq).bind fun t187 => (some (t186 == t187))) = some r := H
                have A47 := Aside0.mk A470
                clear A470
                replace H := Option.bind_eq_some_iff.mp H
                obtain ⟨t187, A480, H⟩ := H
                replace H : (some (t186 == t187)) = some r := H
                have A48 := Aside0.mk A480
                clear A480
                obtain rfl := Option.some.inj H
                go_wp2_with (first | ((with_reducible refine gate_callee (f := 13) rfl ?_); refine goesL_ (some 75) rfl rfl Tryd.func13 (by kernel_rfl) rfl #[] rfl (by (try simp only [List.map_toArray, List.map_cons, List.map_nil]); first | done | rfl | (simp only [List.length_drop, List.length_take]; rfl)) ?_; (with_reducible refine (insolvencylaw25_awake.calls kj11  true _ ?side1 A42.out).mono ?_); (case side1 => exact LaidW.below HLd.out (by repeat (first | (with_reducible first | exact HB.out | apply below_alloc | apply pw_below_drewN | apply below_drew1) | exact HB.out))); rintro e w49 ⟨rfl, hb⟩; refine ⟨_, rfl, ?_⟩; have n0_ := Aside0.mk (Kd.R_below (by (with_reducible repeat (first | apply Kd.R_alloc | apply Kd.R_drewN | apply Kd.R_drew)); exact HO_11.out) hb); have n1_ := Aside0.mk (below_step (by repeat (first | (with_reducible first | exact HB.out | apply below_alloc | apply pw_below_drewN | apply below_drew1) | exact HB.out)) hb); clear HO_11; clear HB; have HO_11 := n0_; have HB := n1_; clear n0_ n1_; (try clear hb); (try clear hb2); (try clear hk); (try clear hi)) | (go_at_call 26; (with_reducible refine (history_Check.calls kj11 a0 _ _ l1 t184 _ ?side1 ?side2 A44.out).mono ?_); (case side1 => repeat (first | exact (Kd.C_below HR1.out HB.out) | (with_reducible refine Kd.C_alloc ?_ _) | (with_reducible refine Kd.C_drewN ?_ _) | (with_reducible refine Kd.C_drew ?_))); (case side2 => exact HC1.out); rintro e w50 ⟨rfl, hb⟩; have n0_ := Aside0.mk (Kd.R_below (by (with_reducible repeat (first | apply Kd.R_alloc | apply Kd.R_drewN | apply Kd.R_drew)); exact HO_11.out) hb); have n1_ := Aside0.mk (below_step (by repeat (first | (with_reducible first | exact HB.out | apply below_alloc | apply pw_below_drewN | apply below_drew1) | exact HB.out)) hb); clear HO_11; clear HB; have HO_11 := n0_; have HB := n1_; clear n0_ n1_; (try clear hb); (try clear hb2); (try clear hk); (try clear hi)) | (go_at_call 27; (with_reducible refine (insolvencyref25_Check.calls kj11 a0 _ _ l1 t185 _ ?side1 ?side2 A45.out).mono ?_); (case side1 => repeat (first | exact (Kd.C_below HR1.out HB.out) | (with_reducible refine Kd.C_alloc ?_ _) | (with_reducible refine Kd.C_drewN ?_ _) | (with_reducible refine Kd.C_drew ?_))); (case side2 => exact HC1.out); rintro e w51 ⟨rfl, hb⟩; have n0_ := Aside0.mk (Kd.R_below (by (with_reducible repeat (first | apply Kd.R_alloc | apply Kd.R_drewN | apply Kd.R_drew)); exact HO_11.out) hb); have n1_ := Aside0.mk (below_step (by repeat (first | (with_reducible first | exact HB.out | apply below_alloc | apply pw_below_drewN | apply below_drew1) | exact HB.out)) hb); clear HO_11; clear HB; have HO_11 := n0_; have HB := n1_; clear n0_ n1_; (try clear hb); (try clear hb2); (try clear hk); (try clear hi)) | (go_at_call 26; (with_reducible refine (history_Check.calls kj11 4 _ _ lq t186 _ ?side1 ?side2 A47.out).mono ?_); (case side1 => repeat (first | exact (Kd.R_reads' HO_11.out).2.2 | (with_reducible refine Kd.C_alloc ?_ _) | (with_reducible refine Kd.C_drewN ?_ _) | (with_reducible refine Kd.C_drew ?_))); (case side2 => exact (Kd.R_reads' HO_11.out).2.1); rintro e w52 ⟨rfl, hb⟩; have n0_ := Aside0.mk (Kd.R_below (by (with_reducible repeat (first | apply Kd.R_alloc | apply Kd.R_drewN | apply Kd.R_drew)); exact HO_11.out) hb); have n1_ := Aside0.mk (below_step (by repeat (first | (with_reducible first | exact HB.out | apply below_alloc | apply pw_below_drewN | apply below_drew1) | exact HB.out)) hb); clear HO_11; clear HB; have HO_11 := n0_; have HB := n1_; clear n0_ n1_; (try clear hb); (try clear hb2); (try clear hk); (try clear hi)) | (go_at_call 27; (with_reducible refine (insolvencyref25_Check.calls kj11 4 _ _ lq t187 _ ?side1 ?side2 A48.out).mono ?_); (case side1 => repeat (first | exact (Kd.R_reads' HO_11.out).2.2 | (with_reducible refine Kd.C_alloc ?_ _) | (with_reducible refine Kd.C_drewN ?_ _) | (with_reducible refine Kd.C_drew ?_))); (case side2 => exact (Kd.R_reads' HO_11.out).2.1); rintro e w53 ⟨rfl, hb⟩; have n0_ := Aside0.mk (Kd.R_below (by (with_reducible repeat (first | apply Kd.R_alloc | apply Kd.R_drewN | apply Kd.R_drew)); exact HO_11.out) hb); have n1_ := Aside0.mk (below_step (by repeat (first | (with_reducible first | exact HB.out | apply below_alloc | apply pw_below_drewN | apply below_drew1) | exact HB.out)) hb); clear HO_11; clear HB; have HO_11 := n0_; have HB := n1_; clear n0_ n1_; (try clear hb); (try clear hb2); (try clear hk); (try clear hi)))
                go_ret
                exact ⟨by first | rfl | (simp [errW_none, errW_some] <;> rfl) | (simp [*, errW_none, errW_some] <;> rfl), by repeat (first | (with_reducible first | exact HB.out | apply below_alloc | apply pw_below_drewN | apply below_drew1) | exact HB.out)⟩
              · rw [if_neg c46] at H
                have c46b0 : (t184 == t185) = false := beq_eq_false_iff_ne.mpr c46
                have c46b1 : (t184 != t185) = true := bne_iff_ne.mpr c46
                obtain rfl := Option.some.inj H
                go_wp2_with (first | ((with_reducible refine gate_callee (f := 13) rfl ?_); refine goesL_ (some 75) rfl rfl Tryd.func13 (by kernel_rfl) rfl #[] rfl (by (try simp only [List.map_toArray, List.map_cons, List.map_nil]); first | done | rfl | (simp only [List.length_drop, List.length_take]; rfl)) ?_; (with_reducible refine (insolvencylaw25_awake.calls kj11  true _ ?side1 A42.out).mono ?_); (case side1 => exact LaidW.below HLd.out (by repeat (first | (with_reducible first | exact HB.out | apply below_alloc | apply pw_below_drewN | apply below_drew1) | exact HB.out))); rintro e w54 ⟨rfl, hb⟩; refine ⟨_, rfl, ?_⟩; have n0_ := Aside0.mk (Kd.R_below (by (with_reducible repeat (first | apply Kd.R_alloc | apply Kd.R_drewN | apply Kd.R_drew)); exact HO_11.out) hb); have n1_ := Aside0.mk (below_step (by repeat (first | (with_reducible first | exact HB.out | apply below_alloc | apply pw_below_drewN | apply below_drew1) | exact HB.out)) hb); clear HO_11; clear HB; have HO_11 := n0_; have HB := n1_; clear n0_ n1_; (try clear hb); (try clear hb2); (try clear hk); (try clear hi)) | (go_at_call 26; (with_reducible refine (history_Check.calls kj11 a0 _ _ l1 t184 _ ?side1 ?side2 A44.out).mono ?_); (case side1 => repeat (first | exact (Kd.C_below HR1.out HB.out) | (with_reducible refine Kd.C_alloc ?_ _) | (with_reducible refine Kd.C_drewN ?_ _) | (with_reducible refine Kd.C_drew ?_))); (case side2 => exact HC1.out); rintro e w55 ⟨rfl, hb⟩; have n0_ := Aside0.mk (Kd.R_below (by (with_reducible repeat (first | apply Kd.R_alloc | apply Kd.R_drewN | apply Kd.R_drew)); exact HO_11.out) hb); have n1_ := Aside0.mk (below_step (by repeat (first | (with_reducible first | exact HB.out | apply below_alloc | apply pw_below_drewN | apply below_drew1) | exact HB.out)) hb); clear HO_11; clear HB; have HO_11 := n0_; have HB := n1_; clear n0_ n1_; (try clear hb); (try clear hb2); (try clear hk); (try clear hi)) | (go_at_call 27; (with_reducible refine (insolvencyref25_Check.calls kj11 a0 _ _ l1 t185 _ ?side1 ?side2 A45.out).mono ?_); (case side1 => repeat (first | exact (Kd.C_below HR1.out HB.out) | (with_reducible refine Kd.C_alloc ?_ _) | (with_reducible refine Kd.C_drewN ?_ _) | (with_reducible refine Kd.C_drew ?_))); (case side2 => exact HC1.out); rintro e w56 ⟨rfl, hb⟩; have n0_ := Aside0.mk (Kd.R_below (by (with_reducible repeat (first | apply Kd.R_alloc | apply Kd.R_drewN | apply Kd.R_drew)); exact HO_11.out) hb); have n1_ := Aside0.mk (below_step (by repeat (first | (with_reducible first | exact HB.out | apply below_alloc | apply pw_below_drewN | apply below_drew1) | exact HB.out)) hb); clear HO_11; clear HB; have HO_11 := n0_; have HB := n1_; clear n0_ n1_; (try clear hb); (try clear hb2); (try clear hk); (try clear hi)))
                go_ret
                exact ⟨by first | rfl | (simp [errW_none, errW_some] <;> rfl) | (simp [*, errW_none, errW_some] <;> rfl), by repeat (first | (with_reducible first | exact HB.out | apply below_alloc | apply pw_below_drewN | apply below_drew1) | exact HB.out)⟩
            · replace c43 := Bool.eq_false_iff.mpr c43
              subst c43
              have H1 : (some false) = some r := by rw [if_neg (show ¬ (false = true) by decide)] at H; exact H
              clear H
              have H := H1
              clear H1
              obtain rfl := Option.some.inj H
              go_wp2_with (first | ((with_reducible refine gate_callee (f := 13) rfl ?_); refine goesL_ (some 75) rfl rfl Tryd.func13 (by kernel_rfl) rfl #[] rfl (by (try simp only [List.map_toArray, List.map_cons, List.map_nil]); first | done | rfl | (simp only [List.length_drop, List.length_take]; rfl)) ?_; (with_reducible refine (insolvencylaw25_awake.calls kj11  false _ ?side1 A42.out).mono ?_); (case side1 => exact LaidW.below HLd.out (by repeat (first | (with_reducible first | exact HB.out | apply below_alloc | apply pw_below_drewN | apply below_drew1) | exact HB.out))); rintro e w57 ⟨rfl, hb⟩; refine ⟨_, rfl, ?_⟩; have n0_ := Aside0.mk (Kd.R_below (by (with_reducible repeat (first | apply Kd.R_alloc | apply Kd.R_drewN | apply Kd.R_drew)); exact HO_11.out) hb); have n1_ := Aside0.mk (below_step (by repeat (first | (with_reducible first | exact HB.out | apply below_alloc | apply pw_below_drewN | apply below_drew1) | exact HB.out)) hb); clear HO_11; clear HB; have HO_11 := n0_; have HB := n1_; clear n0_ n1_; (try clear hb); (try clear hb2); (try clear hk); (try clear hi)))
              go_ret
              exact ⟨by first | rfl | (simp [errW_none, errW_some] <;> rfl) | (simp [*, errW_none, errW_some] <;> rfl), by repeat (first | (with_reducible first | exact HB.out | apply below_alloc | apply pw_below_drewN | apply below_drew1) | exact HB.out)⟩

end Go.Proofs.YtcehmgmhlmbhnaaDoor.Pr
