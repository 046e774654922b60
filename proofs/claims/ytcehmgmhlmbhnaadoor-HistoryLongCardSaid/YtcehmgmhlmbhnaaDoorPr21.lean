-- Written by a program of this session (wip/tools/drive.py over the kit's print.py) out of the translation.
import Derived.Test.YtcehmgmhlmbhnaaDoorPr0
import Derived.Test.YtcehmgmhlmbhnaaDoorPr11
import Derived.Test.YtcehmgmhlmbhnaaDoorPr20
namespace Go.Proofs.YtcehmgmhlmbhnaaDoor.Pr
open Go.RowKit Go.Proofs.YtcehmgmhlmbhnaaDoorW.PrintWords Go.Proofs.YtcehmgmhlmbhnaaDoorW.PrintLast Go.Proofs.YtcehmgmhlmbhnaaDoorW.PrintMore
attribute [local go_sem] max2_int min2_int max_two min_two max_three min_three max_four min_four   -- for this text's walks alone
set_option linter.unusedVariables false
set_option linter.unusedSimpArgs false

/-! ### insolvencylaw25_HistoryLong: function 5 -/
mutual
def insolvencylaw25_HistoryLong.l0 : Nat → Int → Bool → Int → ByteArray → Int → Option (Bool)
  | 0, _, _, _, _, _ => none
  | k + 1, x1, x2, x7, x8, x9 => if x9 < x7 then (if x8.size + 15 ≤ 9223372036854775807 then (insolvencylaw25_HistoryLong.l0 k x1 x2 x7 (x8 ++ (⟨#[49, 32, 115, 117, 112, 112, 108, 121, 32, 48, 32, 49, 32, 50, 10]⟩ : ByteArray)) (wrap64 (x9 + 1))) else (none)) else (insolvencylaw25_HistoryLong.l1 k x1 x2 x8 0)
def insolvencylaw25_HistoryLong.l1 : Nat → Int → Bool → ByteArray → Int → Option (Bool)
  | 0, _, _, _, _ => none
  | k + 1, x1, x2, x8, x10 => if x10 < (Int.tmod (wrap64 (x1)) 3) then (if x8.size + 61 ≤ 9223372036854775807 then (insolvencylaw25_HistoryLong.l1 k x1 x2 (x8 ++ (⟨#[55, 32, 116, 114, 97, 110, 115, 102, 101, 114, 32, 49, 50, 51, 52, 53, 54, 55, 56, 57, 32, 50, 32, 57, 57, 57, 57, 57, 57, 57, 57, 57, 57, 57, 57, 57, 57, 57, 57, 57, 57, 32, 49, 50, 51, 52, 53, 54, 55, 56, 57, 48, 49, 50, 51, 52, 53, 54, 55, 56, 10]⟩ : ByteArray)) (wrap64 (x10 + 1))) else (none)) else (if x2 = true then (if x8.size + 2 ≤ 9223372036854775807 then (insolvencylaw25_HistoryLong.j2 k (x8 ++ (⟨#[120, 10]⟩ : ByteArray))) else (none)) else (insolvencylaw25_HistoryLong.j2 k x8))
def insolvencylaw25_HistoryLong.j2 : Nat → ByteArray → Option (Bool)
  | 0, _ => none
  | k + 1, x8 => insolvencylaw25_HistoryLong.l2 k x8 x8
def insolvencylaw25_HistoryLong.l2 : Nat → ByteArray → ByteArray → Option (Bool)
  | 0, _, _ => none
  | k + 1, x8, x11 => if (x11.size : Int) ≤ 8192 then (if x11.size + 2 ≤ 9223372036854775807 then (insolvencylaw25_HistoryLong.l2 k x8 (x11 ++ (⟨#[35, 32]⟩ : ByteArray))) else (none)) else ((insolvencylaw25_awake.f k).bind fun t226 => (if t226 = true then ((insolvencylaw25_same.f k x8).bind fun t227 => (if t227 = true then ((insolvencylaw25_same.f k x11).bind fun t228 => (some t228)) else (some false))) else (some false)))
end
def insolvencylaw25_HistoryLong.f (k : Nat) (a0 : Int) (a1 : Int) (a2 : Bool) : Option (Bool) := insolvencylaw25_HistoryLong.l0 k a1 a2 (wrap64 (240 + (wrap64 (Int.tmod a0 30)))) (⟨#[]⟩ : ByteArray) 0
theorem insolvencylaw25_HistoryLong.mono_l : ∀ k, (∀ y0 y1 y2 y3 y4, LeO (insolvencylaw25_HistoryLong.l0 k y0 y1 y2 y3 y4) (insolvencylaw25_HistoryLong.l0 (k + 1) y0 y1 y2 y3 y4)) ∧ (∀ y0 y1 y2 y3, LeO (insolvencylaw25_HistoryLong.l1 k y0 y1 y2 y3) (insolvencylaw25_HistoryLong.l1 (k + 1) y0 y1 y2 y3)) ∧ (∀ y0, LeO (insolvencylaw25_HistoryLong.j2 k y0) (insolvencylaw25_HistoryLong.j2 (k + 1) y0)) ∧ (∀ y0 y1, LeO (insolvencylaw25_HistoryLong.l2 k y0 y1) (insolvencylaw25_HistoryLong.l2 (k + 1) y0 y1))
  | 0 => ⟨fun _ _ _ _ _ r h => by simp [insolvencylaw25_HistoryLong.l0] at h, fun _ _ _ _ r h => by simp [insolvencylaw25_HistoryLong.l1] at h, fun _ r h => by simp [insolvencylaw25_HistoryLong.j2] at h, fun _ _ r h => by simp [insolvencylaw25_HistoryLong.l2] at h⟩
  | k + 1 => by
    obtain ⟨ih0, ih1, ih2, ih3⟩ := insolvencylaw25_HistoryLong.mono_l k
    refine ⟨?_, ?_, ?_, ?_⟩
    · intro y0 y1 y2 y3 y4
      unfold insolvencylaw25_HistoryLong.l0
      repeat' first
      | (with_reducible exact ih0 _ _ _ _ _)
      | (with_reducible exact ih1 _ _ _ _)
      | (with_reducible exact ih2 _)
      | (with_reducible exact ih3 _ _)
      | (with_reducible exact insolvencylaw25_awake.mono _)
      | (with_reducible exact insolvencylaw25_same.mono _ _)
      | (with_reducible exact LeO.refl _)
      | (with_reducible exact LeO.none _)
      | (with_reducible refine LeO.ite ?_ ?_)
      | (with_reducible refine LeO.bind ?_ (fun _ => ?_))
      | exact ih0 _ _ _ _ _
      | exact ih1 _ _ _ _
      | exact ih2 _
      | exact ih3 _ _
      | exact insolvencylaw25_awake.mono _
      | exact insolvencylaw25_same.mono _ _
      | exact LeO.none _
      | refine LeO.ite ?_ ?_
      | refine LeO.bind ?_ (fun _ => ?_)
    · intro y0 y1 y2 y3
      unfold insolvencylaw25_HistoryLong.l1
      repeat' first
      | (with_reducible exact ih0 _ _ _ _ _)
      | (with_reducible exact ih1 _ _ _ _)
      | (with_reducible exact ih2 _)
      | (with_reducible exact ih3 _ _)
      | (with_reducible exact insolvencylaw25_awake.mono _)
      | (with_reducible exact insolvencylaw25_same.mono _ _)
      | (with_reducible exact LeO.refl _)
      | (with_reducible exact LeO.none _)
      | (with_reducible refine LeO.ite ?_ ?_)
      | (with_reducible refine LeO.bind ?_ (fun _ => ?_))
      | exact ih0 _ _ _ _ _
      | exact ih1 _ _ _ _
      | exact ih2 _
      | exact ih3 _ _
      | exact insolvencylaw25_awake.mono _
      | exact insolvencylaw25_same.mono _ _
      | exact LeO.none _
      | refine LeO.ite ?_ ?_
      | refine LeO.bind ?_ (fun _ => ?_)
    · intro y0
      unfold insolvencylaw25_HistoryLong.j2
      repeat' first
      | (with_reducible exact ih0 _ _ _ _ _)
      | (with_reducible exact ih1 _ _ _ _)
      | (with_reducible exact ih2 _)
      | (with_reducible exact ih3 _ _)
      | (with_reducible exact insolvencylaw25_awake.mono _)
      | (with_reducible exact insolvencylaw25_same.mono _ _)
      | (with_reducible exact LeO.refl _)
      | (with_reducible exact LeO.none _)
      | (with_reducible refine LeO.ite ?_ ?_)
      | (with_reducible refine LeO.bind ?_ (fun _ => ?_))
      | exact ih0 _ _ _ _ _
      | exact ih1 _ _ _ _
      | exact ih2 _
      | exact ih3 _ _
      | exact insolvencylaw25_awake.mono _
      | exact insolvencylaw25_same.mono _ _
      | exact LeO.none _
      | refine LeO.ite ?_ ?_
      | refine LeO.bind ?_ (fun _ => ?_)
    · intro y0 y1
      unfold insolvencylaw25_HistoryLong.l2
      repeat' first
      | (with_reducible exact ih0 _ _ _ _ _)
      | (with_reducible exact ih1 _ _ _ _)
      | (with_reducible exact ih2 _)
      | (with_reducible exact ih3 _ _)
      | (with_reducible exact insolvencylaw25_awake.mono _)
      | (with_reducible exact insolvencylaw25_same.mono _ _)
      | (with_reducible exact LeO.refl _)
      | (with_reducible exact LeO.none _)
      | (with_reducible refine LeO.ite ?_ ?_)
      | (with_reducible refine LeO.bind ?_ (fun _ => ?_))
      | exact ih0 _ _ _ _ _
      | exact ih1 _ _ _ _
      | exact ih2 _
      | exact ih3 _ _
      | exact insolvencylaw25_awake.mono _
      | exact insolvencylaw25_same.mono _ _
      | exact LeO.none _
      | refine LeO.ite ?_ ?_
      | refine LeO.bind ?_ (fun _ => ?_)
theorem insolvencylaw25_HistoryLong.mono : ∀ a0 a1 a2 k, LeO (insolvencylaw25_HistoryLong.f k a0 a1 a2) (insolvencylaw25_HistoryLong.f (k + 1) a0 a1 a2) := by
  intro a0 a1 a2 k
  obtain ⟨ih0, ih1, ih2, ih3⟩ := insolvencylaw25_HistoryLong.mono_l k
  unfold insolvencylaw25_HistoryLong.f
  repeat' first
      | (with_reducible exact ih0 _ _ _ _ _)
      | (with_reducible exact ih1 _ _ _ _)
      | (with_reducible exact ih2 _)
      | (with_reducible exact ih3 _ _)
      | (with_reducible exact insolvencylaw25_awake.mono _)
      | (with_reducible exact insolvencylaw25_same.mono _ _)
      | (with_reducible exact LeO.refl _)
      | (with_reducible exact LeO.none _)
      | (with_reducible refine LeO.ite ?_ ?_)
      | (with_reducible refine LeO.bind ?_ (fun _ => ?_))
      | exact ih0 _ _ _ _ _
      | exact ih1 _ _ _ _
      | exact ih2 _
      | exact ih3 _ _
      | exact insolvencylaw25_awake.mono _
      | exact insolvencylaw25_same.mono _ _
      | exact LeO.none _
      | refine LeO.ite ?_ ?_
      | refine LeO.bind ?_ (fun _ => ?_)
set_option maxHeartbeats 8000000 in
set_option maxRecDepth 100000 in
theorem insolvencylaw25_HistoryLong.calls (k : Nat) (a0 : Int) (a1 : Int) (a2 : Bool) (r : Bool) (w : World) (hLd : LaidW w) (h : insolvencylaw25_HistoryLong.f k a0 a1 a2 = some r) :
    Calls Tryd.prog 5 #[.int .u16 a0, .int .u8 a1, .bool a2] w fun e w' => e = .returned (.bool r) ∧ Below w.heap.size w w' := by
  have HB := Aside0.mk (Below.refl w.heap.size w)
  have HLd := Aside0.mk hLd
  clear hLd
  have H : (insolvencylaw25_HistoryLong.l0 k a1 a2 (wrap64 (240 + (wrap64 (Int.tmod a0 30)))) (⟨#[]⟩ : ByteArray) 0) = some r := h
  clear h
  have H' := Aside0.mk H
  clear H
  go_enter Tryd.func5, Tryd.ntmps5
  go_wp2
  go_loopg [8, 9] k (fun kq v8 v9 w' => ∃ (x8_1 : ByteArray) (x9_1 : Int), v8 = .string x8_1 ∧ v9 = .int .i64 x9_1 ∧ Aside0 (insolvencylaw25_HistoryLong.l0 kq a1 a2 (wrap64 (240 + (wrap64 (Int.tmod a0 30)))) x8_1 x9_1 = some r) ∧ Aside0 (kq ≤ k) ∧ Aside0 (Below w.heap.size w w'))
  case atStart => exact ⟨((⟨#[]⟩ : ByteArray)), (0), (by first | rfl | (simp; done) | (simp [*]; done)), (by first | rfl | (simp; done) | (simp [*]; done)), H', ⟨Nat.le_refl _⟩, ⟨by repeat (first | (with_reducible first | exact HB.out | apply below_alloc | apply pw_below_drewN | apply below_drew1) | exact HB.out)⟩⟩
  case round =>
    clear H'
    try clear p2
    obtain ⟨x8_1, x9_1, rfl, rfl, HA, HK1, HB⟩ := hrel
    cases gk with
    | zero => exact absurd HA.out (by simp [insolvencylaw25_HistoryLong.l0])
    | succ k1 =>
      have H := HA.out
      clear HA
      simp only [insolvencylaw25_HistoryLong.l0] at H
      by_cases c4 : x9_1 < (wrap64 (240 + (wrap64 (Int.tmod a0 30))))
      · rw [if_pos c4] at H
        have c4b0 : decide (x9_1 < (wrap64 (240 + (wrap64 (Int.tmod a0 30))))) = true := decide_eq_true c4
        clear c4
        by_cases c5 : x8_1.size + 15 ≤ 9223372036854775807
        · rw [if_pos c5] at H
          have c5b0 := eq_true c5
          have c5b1 : decide (x8_1.size + 15 ≤ 9223372036854775807) = true := decide_eq_true c5
          try have c5b2 : (9223372036854775807 < x8_1.size + 15) = False := eq_false (Nat.not_lt.2 c5)
          have H' := Aside0.mk H
          clear H
          go_wp2
          go_roundg k1
          case measure => have := HK1.out; omega
          case rel => exact ⟨(x8_1 ++ (⟨#[49, 32, 115, 117, 112, 112, 108, 121, 32, 48, 32, 49, 32, 50, 10]⟩ : ByteArray)), (wrap64 (x9_1 + 1)), (by first | rfl | (simp; done) | (simp [*]; done)), (by first | rfl | (simp; done) | (simp [*]; done)), H', ⟨by have := HK1.out; omega⟩, ⟨by repeat (first | (with_reducible first | exact HB.out | apply below_alloc | apply pw_below_drewN | apply below_drew1) | exact HB.out)⟩⟩
        · rw [if_neg c5] at H
          exact absurd H (by simp)
      · rw [if_neg c4] at H
        have c4b0 : decide (x9_1 < (wrap64 (240 + (wrap64 (Int.tmod a0 30))))) = false := decide_eq_false c4
        clear c4
        have H' := Aside0.mk H
        clear H
        go_wp2
        go_loopg [8, 10] k1 (fun kq v8 v10 w' => ∃ (x8_2 : ByteArray) (x10_2 : Int), v8 = .string x8_2 ∧ v10 = .int .i64 x10_2 ∧ Aside0 (insolvencylaw25_HistoryLong.l1 kq a1 a2 x8_2 x10_2 = some r) ∧ Aside0 (kq ≤ k1) ∧ Aside0 (Below w.heap.size w w'))
        case atStart => exact ⟨(x8_1), (0), (by first | rfl | (simp; done) | (simp [*]; done)), (by first | rfl | (simp; done) | (simp [*]; done)), H', ⟨Nat.le_refl _⟩, ⟨by repeat (first | (with_reducible first | exact HB.out | apply below_alloc | apply pw_below_drewN | apply below_drew1) | exact HB.out)⟩⟩
        case round =>
          clear H'
          try clear p2
          try clear c4
          try clear c4b0
          try clear c5
          try clear c5b0
          try clear c5b1
          try clear c5b2
          try clear p2
          obtain ⟨x8_2, x10_2, rfl, rfl, HA, HK2, HB⟩ := hrel
          cases gk with
          | zero => exact absurd HA.out (by simp [insolvencylaw25_HistoryLong.l1])
          | succ k2 =>
            have H := HA.out
            clear HA
            simp only [insolvencylaw25_HistoryLong.l1] at H
            by_cases c6 : x10_2 < (Int.tmod (wrap64 (a1)) 3)
            · rw [if_pos c6] at H
              have c6b0 : decide (x10_2 < (Int.tmod (wrap64 (a1)) 3)) = true := decide_eq_true c6
              clear c6
              by_cases c7 : x8_2.size + 61 ≤ 9223372036854775807
              · rw [if_pos c7] at H
                have c7b0 := eq_true c7
                have c7b1 : decide (x8_2.size + 61 ≤ 9223372036854775807) = true := decide_eq_true c7
                try have c7b2 : (9223372036854775807 < x8_2.size + 61) = False := eq_false (Nat.not_lt.2 c7)
                have H' := Aside0.mk H
                clear H
                go_wp2
                go_roundg k2
                case measure => have := HK1.out; have := HK2.out; omega
                case rel => exact ⟨(x8_2 ++ (⟨#[55, 32, 116, 114, 97, 110, 115, 102, 101, 114, 32, 49, 50, 51, 52, 53, 54, 55, 56, 57, 32, 50, 32, 57, 57, 57, 57, 57, 57, 57, 57, 57, 57, 57, 57, 57, 57, 57, 57, 57, 57, 32, 49, 50, 51, 52, 53, 54, 55, 56, 57, 48, 49, 50, 51, 52, 53, 54, 55, 56, 10]⟩ : ByteArray)), (wrap64 (x10_2 + 1)), (by first | rfl | (simp; done) | (simp [*]; done)), (by first | rfl | (simp; done) | (simp [*]; done)), H', ⟨by have := HK1.out; have := HK2.out; omega⟩, ⟨by repeat (first | (with_reducible first | exact HB.out | apply below_alloc | apply pw_below_drewN | apply below_drew1) | exact HB.out)⟩⟩
              · rw [if_neg c7] at H
                exact absurd H (by simp)
            · rw [if_neg c6] at H
              have c6b0 : decide (x10_2 < (Int.tmod (wrap64 (a1)) 3)) = false := decide_eq_false c6
              clear c6
              have HC8 := Aside0.mk H
              clear H
              go_upto_if 32 with (fail)
              go_cut [8] (fun v8 wc => ∃ (kq : Nat) (x8_7 : ByteArray), v8 = .string x8_7 ∧ Aside0 (insolvencylaw25_HistoryLong.j2 kq x8_7 = some r) ∧ Aside0 (kq ≤ k2) ∧ Aside0 (Below w.heap.size w wc))
              case first =>
                have H := HC8.out
                clear HC8
                by_cases c9 : a2 = true
                · subst c9
                  have H1 : (if x8_2.size + 2 ≤ 9223372036854775807 then (insolvencylaw25_HistoryLong.j2 k2 (x8_2 ++ (⟨#[120, 10]⟩ : ByteArray))) else (none)) = some r := by rw [if_pos rfl] at H; exact H
                  clear H
                  have H := H1
                  clear H1
                  by_cases c10 : x8_2.size + 2 ≤ 9223372036854775807
                  · rw [if_pos c10] at H
                    have c10b0 := eq_true c10
                    have c10b1 : decide (x8_2.size + 2 ≤ 9223372036854775807) = true := decide_eq_true c10
                    try have c10b2 : (9223372036854775807 < x8_2.size + 2) = False := eq_false (Nat.not_lt.2 c10)
                    have H' := Aside0.mk H
                    clear H
                    go_wp2
                    go_meet
                    case rel => exact ⟨_, (x8_2 ++ (⟨#[120, 10]⟩ : ByteArray)), (by first | rfl | (simp; done) | (simp [*]; done)), H', ⟨by have := HK1.out; have := HK2.out; first | omega | exact Nat.le_refl _⟩, ⟨by repeat (first | (with_reducible first | exact HB.out | apply below_alloc | apply pw_below_drewN | apply below_drew1) | exact HB.out)⟩⟩
                  · rw [if_neg c10] at H
                    exact absurd H (by simp)
                · replace c9 := Bool.eq_false_iff.mpr c9
                  subst c9
                  have H1 : (insolvencylaw25_HistoryLong.j2 k2 x8_2) = some r := by rw [if_neg (show ¬ (false = true) by decide)] at H; exact H
                  clear H
                  have H := H1
                  clear H1
                  have H' := Aside0.mk H
                  clear H
                  go_wp2
                  go_meet
                  case rel => exact ⟨_, (x8_2), (by first | rfl | (simp; done) | (simp [*]; done)), H', ⟨by have := HK1.out; have := HK2.out; first | omega | exact Nat.le_refl _⟩, ⟨by repeat (first | (with_reducible first | exact HB.out | apply below_alloc | apply pw_below_drewN | apply below_drew1) | exact HB.out)⟩⟩
              case rest =>
                clear HC8
                try clear c1
                try clear p2
                try clear c4
                try clear c4b0
                try clear c5
                try clear c5b0
                try clear c5b1
                try clear c5b2
                try clear c6
                try clear c6b0
                try clear p6
                try clear c7
                try clear c7b0
                try clear c7b1
                try clear c7b2
                try clear c9
                try clear c10
                try clear c10b0
                try clear c10b1
                try clear c10b2
                try clear p2
                obtain ⟨kq, x8_7, rfl, HA, HJ7, HB⟩ := hcut
                cases kq with
                | zero => exact absurd HA.out (by simp [insolvencylaw25_HistoryLong.j2])
                | succ kj7 =>
                  have H := HA.out
                  clear HA
                  simp only [insolvencylaw25_HistoryLong.j2] at H
                  have H' := Aside0.mk H
                  clear H
                  go_wp2
                  go_loopg [11] kj7 (fun kq v11 w' => ∃ (x11_4 : ByteArray), v11 = .string x11_4 ∧ Aside0 (insolvencylaw25_HistoryLong.l2 kq x8_7 x11_4 = some r) ∧ Aside0 (kq ≤ kj7) ∧ Aside0 (Below w.heap.size w w'))
                  case atStart => exact ⟨(x8_7), (by first | rfl | (simp; done) | (simp [*]; done)), H', ⟨Nat.le_refl _⟩, ⟨by repeat (first | (with_reducible first | exact HB.out | apply below_alloc | apply pw_below_drewN | apply below_drew1) | exact HB.out)⟩⟩
                  case round =>
                    clear H'
                    try clear c1
                    try clear p2
                    try clear c4
                    try clear c4b0
                    try clear c5
                    try clear c5b0
                    try clear c5b1
                    try clear c5b2
                    try clear c6
                    try clear c6b0
                    try clear p6
                    try clear c7
                    try clear c7b0
                    try clear c7b1
                    try clear c7b2
                    try clear c9
                    try clear c10
                    try clear c10b0
                    try clear c10b1
                    try clear c10b2
                    try clear p2
                    try clear p6
                    obtain ⟨x11_4, rfl, HA, HK4, HB⟩ := hrel
                    cases gk with
                    | zero => exact absurd HA.out (by simp [insolvencylaw25_HistoryLong.l2])
                    | succ k4 =>
                      have H := HA.out
                      clear HA
                      simp only [insolvencylaw25_HistoryLong.l2] at H
                      by_cases c11 : (x11_4.size : Int) ≤ 8192
                      · rw [if_pos c11] at H
                        have c11b0 : decide ((x11_4.size : Int) ≤ 8192) = true := decide_eq_true c11
                        have c11b1 : decide (x11_4.size ≤ 8192) = true := decide_eq_true (by omega)
                        clear c11
                        by_cases c12 : x11_4.size + 2 ≤ 9223372036854775807
                        · rw [if_pos c12] at H
                          have c12b0 := eq_true c12
                          have c12b1 : decide (x11_4.size + 2 ≤ 9223372036854775807) = true := decide_eq_true c12
                          try have c12b2 : (9223372036854775807 < x11_4.size + 2) = False := eq_false (Nat.not_lt.2 c12)
                          have H' := Aside0.mk H
                          clear H
                          go_wp2
                          go_roundg k4
                          case measure => have := HK1.out; have := HK2.out; have := HJ7.out; have := HK4.out; omega
                          case rel => exact ⟨(x11_4 ++ (⟨#[35, 32]⟩ : ByteArray)), (by first | rfl | (simp; done) | (simp [*]; done)), H', ⟨by have := HK1.out; have := HK2.out; have := HJ7.out; have := HK4.out; omega⟩, ⟨by repeat (first | (with_reducible first | exact HB.out | apply below_alloc | apply pw_below_drewN | apply below_drew1) | exact HB.out)⟩⟩
                        · rw [if_neg c12] at H
                          exact absurd H (by simp)
                      · rw [if_neg c11] at H
                        have c11b0 : decide ((x11_4.size : Int) ≤ 8192) = false := decide_eq_false c11
                        have c11b1 : decide (x11_4.size ≤ 8192) = false := decide_eq_false (by omega)
                        clear c11
                        replace H := Option.bind_eq_some_iff.mp H
                        obtain ⟨t226, A130, H⟩ := H
                        replace H : (if t226 = true then ((insolvencylaw25_same.f k4 x8_7).bind fun t227 => (if t227 = true then ((insolvencylaw25_same.f k4 x11_4).bind fun t228 => (some t228)) else (some false))) else (some false)) = some r := H
                        have A13 := Aside0.mk A130
                        clear A130
                        by_cases c14 : t226 = true
                        · subst c14
                          have H1 : ((insolvencylaw25_same.f k4 x8_7).bind fun t227 => (if t227 = true then ((insolvencylaw25_same.f k4 x11_4).bind fun t228 => (some t228)) else (some false))) = some r := by rw [if_pos rfl] at H; exact H
                          clear H
                          have H := H1
                          clear H1
                          replace H := Option.bind_eq_some_iff.mp H
                          obtain ⟨t227, A150, H⟩ := H
                          replace H : (if t227 = true then ((insolvencylaw25_same.f k4 x11_4).bind fun t228 => (some t228)) else (some false)) = some r := H
                          have A15 := Aside0.mk A150
                          clear A150
                          by_cases c16 : t227 = true
                          · subst c16
                            have H1 : ((insolvencylaw25_same.f k4 x11_4).bind fun t228 => (some t228)) = some r := by rw [if_pos rfl] at H; exact H
                            clear H
                            have H := H1
                            clear H1
                            replace H := Option.bind_eq_some_iff.mp H
                            obtain ⟨t228, A170, H⟩ := H
                            replace H : (some t228) = some r := H
                            have A17 := Aside0.mk A170
                            clear A170
                            obtain rfl := Option.some.inj H
                            go_wp2_with (first | ((with_reducible refine gate_callee (f := 13) rfl ?_); refine goesL_ (some 41) rfl rfl Tryd.func13 (by kernel_rfl) rfl #[] rfl (by (try simp only [List.map_toArray, List.map_cons, List.map_nil]); first | done | rfl | (simp only [List.length_drop, List.length_take]; rfl)) ?_; (with_reducible refine (insolvencylaw25_awake.calls k4  true _ ?side1 A13.out).mono ?_); (case side1 => exact LaidW.below HLd.out (by repeat (first | (with_reducible first | exact HB.out | apply below_alloc | apply pw_below_drewN | apply below_drew1) | exact HB.out))); rintro e w18 ⟨rfl, hb⟩; refine ⟨_, rfl, ?_⟩; have n0_ := Aside0.mk (below_step (by repeat (first | (with_reducible first | exact HB.out | apply below_alloc | apply pw_below_drewN | apply below_drew1) | exact HB.out)) hb); clear HB; have HB := n0_; clear n0_; (try clear hb); (try clear hb2); (try clear hk); (try clear hi)) | (go_at_call 17; (with_reducible refine (insolvencylaw25_same.calls k4 x8_7 true _ ?side1 A15.out).mono ?_); (case side1 => exact LaidW.below HLd.out (by repeat (first | (with_reducible first | exact HB.out | apply below_alloc | apply pw_below_drewN | apply below_drew1) | exact HB.out))); rintro e w19 ⟨rfl, hb⟩; have n0_ := Aside0.mk (below_step (by repeat (first | (with_reducible first | exact HB.out | apply below_alloc | apply pw_below_drewN | apply below_drew1) | exact HB.out)) hb); clear HB; have HB := n0_; clear n0_; (try clear hb); (try clear hb2); (try clear hk); (try clear hi)) | (go_at_call 17; (with_reducible refine (insolvencylaw25_same.calls k4 x11_4 t228 _ ?side1 A17.out).mono ?_); (case side1 => exact LaidW.below HLd.out (by repeat (first | (with_reducible first | exact HB.out | apply below_alloc | apply pw_below_drewN | apply below_drew1) | exact HB.out))); rintro e w20 ⟨rfl, hb⟩; have n0_ := Aside0.mk (below_step (by repeat (first | (with_reducible first | exact HB.out | apply below_alloc | apply pw_below_drewN | apply below_drew1) | exact HB.out)) hb); clear HB; have HB := n0_; clear n0_; (try clear hb); (try clear hb2); (try clear hk); (try clear hi)))
                            go_ret
                            exact ⟨by first | rfl | (simp [errW_none, errW_some] <;> rfl) | (simp [*, errW_none, errW_some] <;> rfl), by repeat (first | (with_reducible first | exact HB.out | apply below_alloc | apply pw_below_drewN | apply below_drew1) | exact HB.out)⟩
                          · replace c16 := Bool.eq_false_iff.mpr c16
                            subst c16
                            have H1 : (some false) = some r := by rw [if_neg (show ¬ (false = true) by decide)] at H; exact H
                            clear H
                            have H := H1
                            clear H1
                            obtain rfl := Option.some.inj H
                            go_wp2_with (first | ((with_reducible refine gate_callee (f := 13) rfl ?_); refine goesL_ (some 41) rfl rfl Tryd.func13 (by kernel_rfl) rfl #[] rfl (by (try simp only [List.map_toArray, List.map_cons, List.map_nil]); first | done | rfl | (simp only [List.length_drop, List.length_take]; rfl)) ?_; (with_reducible refine (insolvencylaw25_awake.calls k4  true _ ?side1 A13.out).mono ?_); (case side1 => exact LaidW.below HLd.out (by repeat (first | (with_reducible first | exact HB.out | apply below_alloc | apply pw_below_drewN | apply below_drew1) | exact HB.out))); rintro e w21 ⟨rfl, hb⟩; refine ⟨_, rfl, ?_⟩; have n0_ := Aside0.mk (below_step (by repeat (first | (with_reducible first | exact HB.out | apply below_alloc | apply pw_below_drewN | apply below_drew1) | exact HB.out)) hb); clear HB; have HB := n0_; clear n0_; (try clear hb); (try clear hb2); (try clear hk); (try clear hi)) | (go_at_call 17; (with_reducible refine (insolvencylaw25_same.calls k4 x8_7 false _ ?side1 A15.out).mono ?_); (case side1 => exact LaidW.below HLd.out (by repeat (first | (with_reducible first | exact HB.out | apply below_alloc | apply pw_below_drewN | apply below_drew1) | exact HB.out))); rintro e w22 ⟨rfl, hb⟩; have n0_ := Aside0.mk (below_step (by repeat (first | (with_reducible first | exact HB.out | apply below_alloc | apply pw_below_drewN | apply below_drew1) | exact HB.out)) hb); clear HB; have HB := n0_; clear n0_; (try clear hb); (try clear hb2); (try clear hk); (try clear hi)))
                            go_ret
                            exact ⟨by first | rfl | (simp [errW_none, errW_some] <;> rfl) | (simp [*, errW_none, errW_some] <;> rfl), by repeat (first | (with_reducible first | exact HB.out | apply below_alloc | apply pw_below_drewN | apply below_drew1) | exact HB.out)⟩
                        · replace c14 := Bool.eq_false_iff.mpr c14
                          subst c14
                          have H1 : (some false) = some r := by rw [if_neg (show ¬ (false = true) by decide)] at H; exact H
                          clear H
                          have H := H1
                          clear H1
                          obtain rfl := Option.some.inj H
                          go_wp2_with (first | ((with_reducible refine gate_callee (f := 13) rfl ?_); refine goesL_ (some 41) rfl rfl Tryd.func13 (by kernel_rfl) rfl #[] rfl (by (try simp only [List.map_toArray, List.map_cons, List.map_nil]); first | done | rfl | (simp only [List.length_drop, List.length_take]; rfl)) ?_; (with_reducible refine (insolvencylaw25_awake.calls k4  false _ ?side1 A13.out).mono ?_); (case side1 => exact LaidW.below HLd.out (by repeat (first | (with_reducible first | exact HB.out | apply below_alloc | apply pw_below_drewN | apply below_drew1) | exact HB.out))); rintro e w23 ⟨rfl, hb⟩; refine ⟨_, rfl, ?_⟩; have n0_ := Aside0.mk (below_step (by repeat (first | (with_reducible first | exact HB.out | apply below_alloc | apply pw_below_drewN | apply below_drew1) | exact HB.out)) hb); clear HB; have HB := n0_; clear n0_; (try clear hb); (try clear hb2); (try clear hk); (try clear hi)))
                          go_ret
                          exact ⟨by first | rfl | (simp [errW_none, errW_some] <;> rfl) | (simp [*, errW_none, errW_some] <;> rfl), by repeat (first | (with_reducible first | exact HB.out | apply below_alloc | apply pw_below_drewN | apply below_drew1) | exact HB.out)⟩

end Go.Proofs.YtcehmgmhlmbhnaaDoor.Pr
