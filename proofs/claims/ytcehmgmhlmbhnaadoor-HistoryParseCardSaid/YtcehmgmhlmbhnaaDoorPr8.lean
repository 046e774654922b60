-- Written by a program of this session (wip/tools/drive.py over the kit's print.py) out of the translation.
import Derived.Test.YtcehmgmhlmbhnaaDoorPr0
import Derived.Test.YtcehmgmhlmbhnaaDoorPr4
namespace Go.Proofs.YtcehmgmhlmbhnaaDoor.Pr
open Go.RowKit Go.Proofs.YtcehmgmhlmbhnaaDoorW.PrintWords Go.Proofs.YtcehmgmhlmbhnaaDoorW.PrintLast Go.Proofs.YtcehmgmhlmbhnaaDoorW.PrintMore
attribute [local go_sem] max2_int min2_int max_two min_two max_three min_three max_four min_four   -- for this text's walks alone
set_option linter.unusedVariables false
set_option linter.unusedSimpArgs false

/-! ### history_parseLine: function 41 -/
mutual
def history_parseLine.j0 : Nat → List ByteArray → Int → Int → Option (Int × Int × Int × Int × Int × Int × Bool)
  | 0, _, _, _ => none
  | k + 1, x4, x5, x6 => if x5 = 0 then (history_parseLine.j1 k x4 x5 x6 true) else (history_parseLine.j1 k x4 x5 x6 ((x4.length : Int) != x6))
def history_parseLine.j1 : Nat → List ByteArray → Int → Int → Bool → Option (Int × Int × Int × Int × Int × Int × Bool)
  | 0, _, _, _, _ => none
  | k + 1, x4, x5, x6, x35 => if x35 = true then (some (0, 0, 0, 0, 0, 0, false)) else (history_parseLine.l0 k x5 x6 ([] : List Int) x4 (x4.length : Int) 0)
def history_parseLine.l0 : Nat → Int → Int → List Int → List ByteArray → Int → Int → Option (Int × Int × Int × Int × Int × Int × Bool)
  | 0, _, _, _, _, _, _ => none
  | k + 1, x5, x6, x7, x37, x38, x39 => if x39 < x38 then (if 0 ≤ x39 then (if x39 < (x37.length : Int) then (if x39 = 1 then (history_parseLine.l0 k x5 x6 x7 x37 x38 (wrap64 (x39 + 1))) else ((history_number.f k (rdOf ByteArray.empty x37 x39)).bind fun bt143 => (if bt143.2 = true then (if x7.length < 17592186044416 then (history_parseLine.l0 k x5 x6 (x7 ++ [bt143.1]) x37 x38 (wrap64 (x39 + 1))) else (none)) else (some (0, 0, 0, 0, 0, 0, false))))) else (none)) else (none)) else (if 0 < (x7.length : Int) then (if 1 < (x7.length : Int) then (if 2 < (x7.length : Int) then (if 3 < (x7.length : Int) then (if x6 = 6 then (if 4 < (x7.length : Int) then (some (rd x7 0, x5, rd x7 1, rd x7 2, rd x7 3, rd x7 4, true)) else (none)) else (some (rd x7 0, x5, rd x7 1, rd x7 2, rd x7 3, 0, true))) else (none)) else (none)) else (none)) else (none))
end
def history_parseLine.f (k : Nat) (a0 : ByteArray) : Option (Int × Int × Int × Int × Int × Int × Bool) := (strings_Split.f a0 (⟨#[32]⟩ : ByteArray)).bind fun t132 => (if (t132.length : Int) < 5 then (some (0, 0, 0, 0, 0, 0, false)) else (if 1 < (t132.length : Int) then (if (rdOf ByteArray.empty t132 1).toList = ([112, 97, 121, 109, 101, 110, 116] : List UInt8) then (history_parseLine.j0 k t132 1 5) else (if (rdOf ByteArray.empty t132 1).toList = ([115, 117, 112, 112, 108, 121] : List UInt8) then (history_parseLine.j0 k t132 2 5) else (if (rdOf ByteArray.empty t132 1).toList = ([116, 114, 97, 110, 115, 102, 101, 114] : List UInt8) then (history_parseLine.j0 k t132 3 6) else (history_parseLine.j0 k t132 0 5)))) else (none)))
theorem history_parseLine.mono_l : ∀ k, (∀ y0 y1 y2, LeO (history_parseLine.j0 k y0 y1 y2) (history_parseLine.j0 (k + 1) y0 y1 y2)) ∧ (∀ y0 y1 y2 y3, LeO (history_parseLine.j1 k y0 y1 y2 y3) (history_parseLine.j1 (k + 1) y0 y1 y2 y3)) ∧ (∀ y0 y1 y2 y3 y4 y5, LeO (history_parseLine.l0 k y0 y1 y2 y3 y4 y5) (history_parseLine.l0 (k + 1) y0 y1 y2 y3 y4 y5))
  | 0 => ⟨fun _ _ _ r h => by simp [history_parseLine.j0] at h, fun _ _ _ _ r h => by simp [history_parseLine.j1] at h, fun _ _ _ _ _ _ r h => by simp [history_parseLine.l0] at h⟩
  | k + 1 => by
    obtain ⟨ih0, ih1, ih2⟩ := history_parseLine.mono_l k
    refine ⟨?_, ?_, ?_⟩
    · intro y0 y1 y2
      unfold history_parseLine.j0
      repeat' first
      | (with_reducible exact ih0 _ _ _)
      | (with_reducible exact ih1 _ _ _ _)
      | (with_reducible exact ih2 _ _ _ _ _ _)
      | (with_reducible exact history_number.mono _ _)
      | (with_reducible exact LeO.refl _)
      | (with_reducible exact LeO.none _)
      | (with_reducible refine LeO.ite ?_ ?_)
      | (with_reducible refine LeO.bind ?_ (fun _ => ?_))
      | exact ih0 _ _ _
      | exact ih1 _ _ _ _
      | exact ih2 _ _ _ _ _ _
      | exact history_number.mono _ _
      | exact LeO.none _
      | refine LeO.ite ?_ ?_
      | refine LeO.bind ?_ (fun _ => ?_)
    · intro y0 y1 y2 y3
      unfold history_parseLine.j1
      repeat' first
      | (with_reducible exact ih0 _ _ _)
      | (with_reducible exact ih1 _ _ _ _)
      | (with_reducible exact ih2 _ _ _ _ _ _)
      | (with_reducible exact history_number.mono _ _)
      | (with_reducible exact LeO.refl _)
      | (with_reducible exact LeO.none _)
      | (with_reducible refine LeO.ite ?_ ?_)
      | (with_reducible refine LeO.bind ?_ (fun _ => ?_))
      | exact ih0 _ _ _
      | exact ih1 _ _ _ _
      | exact ih2 _ _ _ _ _ _
      | exact history_number.mono _ _
      | exact LeO.none _
      | refine LeO.ite ?_ ?_
      | refine LeO.bind ?_ (fun _ => ?_)
    · intro y0 y1 y2 y3 y4 y5
      unfold history_parseLine.l0
      repeat' first
      | (with_reducible exact ih0 _ _ _)
      | (with_reducible exact ih1 _ _ _ _)
      | (with_reducible exact ih2 _ _ _ _ _ _)
      | (with_reducible exact history_number.mono _ _)
      | (with_reducible exact LeO.refl _)
      | (with_reducible exact LeO.none _)
      | (with_reducible refine LeO.ite ?_ ?_)
      | (with_reducible refine LeO.bind ?_ (fun _ => ?_))
      | exact ih0 _ _ _
      | exact ih1 _ _ _ _
      | exact ih2 _ _ _ _ _ _
      | exact history_number.mono _ _
      | exact LeO.none _
      | refine LeO.ite ?_ ?_
      | refine LeO.bind ?_ (fun _ => ?_)
theorem history_parseLine.mono : ∀ a0 k, LeO (history_parseLine.f k a0) (history_parseLine.f (k + 1) a0) := by
  intro a0 k
  obtain ⟨ih0, ih1, ih2⟩ := history_parseLine.mono_l k
  unfold history_parseLine.f
  repeat' first
      | (with_reducible exact ih0 _ _ _)
      | (with_reducible exact ih1 _ _ _ _)
      | (with_reducible exact ih2 _ _ _ _ _ _)
      | (with_reducible exact history_number.mono _ _)
      | (with_reducible exact LeO.refl _)
      | (with_reducible exact LeO.none _)
      | (with_reducible refine LeO.ite ?_ ?_)
      | (with_reducible refine LeO.bind ?_ (fun _ => ?_))
      | exact ih0 _ _ _
      | exact ih1 _ _ _ _
      | exact ih2 _ _ _ _ _ _
      | exact history_number.mono _ _
      | exact LeO.none _
      | refine LeO.ite ?_ ?_
      | refine LeO.bind ?_ (fun _ => ?_)
def history_parseLine.T24 : Bool × List (List Nat × List Nat) := (true, [([], []), ([0], [0]), ([1], [1]), ([], []), ([], []), ([4], [4]), ([5], [5]), ([], []), ([7], [7]), ([8], [8]), ([], []), ([10], [10]), ([11], [11]), ([2, 3, 6, 9, 12], [2, 3, 6, 9, 12]), ([], []), ([14, 13, 0, 1, 2, 3, 4, 5, 6, 7, 8, 9, 10, 11, 12, 13, 14], [13, 14])])
def history_parseLine.B24 : List Nat := [0, 1, 3, 0, 0, 16, 48, 0, 128, 384, 0, 1024, 3072, 8191, 0, 32767]
theorem history_parseLine.tab24 : rtab .any (opsOf Tryd.f41 24) = history_parseLine.T24 := by kernel_rfl
theorem history_parseLine.bits24 : waitsOk history_parseLine.T24.2 history_parseLine.B24 = true := by kernel_rfl
set_option maxHeartbeats 8000000 in
set_option maxRecDepth 100000 in
theorem history_parseLine.calls (k : Nat) (a0 : ByteArray) (r1 : Int) (r2 : Int) (r3 : Int) (r4 : Int) (r5 : Int) (r6 : Int) (r7 : Bool) (w : World) (hLd : LaidW w) (h : history_parseLine.f k a0 = some (r1, r2, r3, r4, r5, r6, r7)) :
    Calls Tryd.prog 41 #[.string a0] w fun e w' => e = .returned (.tuple #[.agg #[.int .i64 r1, .int .i64 r2, .int .i64 r3, .int .i64 r4, .int .i64 r5, .int .i64 r6], .bool r7]) ∧ Below w.heap.size w w' := by
  have hu39 := Tryd.underlying39
  have HB := Aside0.mk (Below.refl w.heap.size w)
  have HLd := Aside0.mk hLd
  clear hLd
  have H : ((strings_Split.f a0 (⟨#[32]⟩ : ByteArray)).bind fun t132 => (if (t132.length : Int) < 5 then (some (0, 0, 0, 0, 0, 0, false)) else (if 1 < (t132.length : Int) then (if (rdOf ByteArray.empty t132 1).toList = ([112, 97, 121, 109, 101, 110, 116] : List UInt8) then (history_parseLine.j0 k t132 1 5) else (if (rdOf ByteArray.empty t132 1).toList = ([115, 117, 112, 112, 108, 121] : List UInt8) then (history_parseLine.j0 k t132 2 5) else (if (rdOf ByteArray.empty t132 1).toList = ([116, 114, 97, 110, 115, 102, 101, 114] : List UInt8) then (history_parseLine.j0 k t132 3 6) else (history_parseLine.j0 k t132 0 5)))) else (none)))) = some (r1, r2, r3, r4, r5, r6, r7) := h
  clear h
  replace H := Option.bind_eq_some_iff.mp H
  obtain ⟨t132, A20, H⟩ := H
  replace H : (if (t132.length : Int) < 5 then (some (0, 0, 0, 0, 0, 0, false)) else (if 1 < (t132.length : Int) then (if (rdOf ByteArray.empty t132 1).toList = ([112, 97, 121, 109, 101, 110, 116] : List UInt8) then (history_parseLine.j0 k t132 1 5) else (if (rdOf ByteArray.empty t132 1).toList = ([115, 117, 112, 112, 108, 121] : List UInt8) then (history_parseLine.j0 k t132 2 5) else (if (rdOf ByteArray.empty t132 1).toList = ([116, 114, 97, 110, 115, 102, 101, 114] : List UInt8) then (history_parseLine.j0 k t132 3 6) else (history_parseLine.j0 k t132 0 5)))) else (none))) = some (r1, r2, r3, r4, r5, r6, r7) := H
  have A2 := Aside0.mk A20
  clear A20
  by_cases c3 : (t132.length : Int) < 5
  · rw [if_pos c3] at H
    have c3b0 : decide ((t132.length : Int) < 5) = true := decide_eq_true c3
    have c3b1 : decide (t132.length < 5) = true := decide_eq_true (by omega)
    clear c3
    simp only [Option.some.injEq, Prod.mk.injEq] at H
    obtain ⟨rfl, rfl, rfl, rfl, rfl, rfl, rfl⟩ := H
    go_enter Tryd.func41, Tryd.ntmps41
    go_wp2_with (first | ((with_reducible refine gate_dst (N := 2) rfl ?_); (try (refine gate_guard (by rfl) ?_; dsimp only)); refine box_event ?hg (N := 2) ?hd (cs := #[.int .i64 0, .int .i64 0, .int .i64 0, .int .i64 0, .int .i64 0, .int .i64 0]) (t := 39) ?hr ?_; (case hd => rfl); (case hg => rfl); (case hr => first | (go_simp; done) | (go_simp; rfl)); intro gb131 hg w4 hbox hb; have n0_ := Aside0.mk (below_step (by repeat (first | (with_reducible first | exact HB.out | apply below_alloc | apply pw_below_drewN | apply below_drew1) | exact HB.out)) hb); have n1_ := Aside0.mk (hbox); have n2_ := Aside0.mk ((by rw [hg]; exact (below_size (by repeat (first | (with_reducible first | exact HB.out | apply below_alloc | apply pw_below_drewN | apply below_drew1) | exact HB.out))) : w.heap.size ≤ gb131)); have n3_ := Aside0.mk ((by rw [hg]; exact (below_size (by repeat (first | (with_reducible first | exact HB.out | apply below_alloc | apply pw_below_drewN | apply below_drew1) | exact HB.out))) : w.heap.size ≤ gb131)); clear HB; have HB := n0_; have BK131 := n1_; have GW131 := n2_; have GE131 := n3_; clear n0_ n1_ n2_ n3_; clear hb hbox hg) | ((with_reducible refine gate_callee (f := 57) rfl ?_); refine goesL_ (some 14) rfl rfl Tryd.func57 (by kernel_rfl) rfl #[.string a0, .string (⟨#[32]⟩ : ByteArray)] rfl (by (try simp only [List.map_toArray, List.map_cons, List.map_nil]); first | done | rfl | (simp only [List.length_drop, List.length_take]; rfl)) ?_; (with_reducible refine (strings_Split.calls a0 (⟨#[32]⟩ : ByteArray) t132 _ ?side1 A2.out).mono ?_); (case side1 => exact LaidW.below HLd.out (by repeat (first | (with_reducible first | exact HB.out | apply below_alloc | apply pw_below_drewN | apply below_drew1 | refine below_set ?_ GE131.out) | exact HB.out))); rintro e w5 ⟨v133, rfl, ho0, hb⟩; refine ⟨_, rfl, ?_⟩; have n0_ := Aside0.mk (Kd.R_lower ho0 (below_size (by repeat (first | (with_reducible first | exact HB.out | apply below_alloc | apply pw_below_drewN | apply below_drew1 | refine below_set ?_ GE131.out) | exact HB.out)))); have n1_ := Aside0.mk (blk_below (g := gb131) (o := .cells #[.int .i64 0, .int .i64 0, .int .i64 0, .int .i64 0, .int .i64 0, .int .i64 0] 39 (0, 0)) (by (with_reducible repeat (first | refine blk_drewN ?_ _ | refine blk_drew ?_ | refine blk_alloc ?_ _)); exact BK131.out) hb); have n2_ := Aside0.mk (below_step (by repeat (first | (with_reducible first | exact HB.out | apply below_alloc | apply pw_below_drewN | apply below_drew1 | refine below_set ?_ GE131.out) | exact HB.out)) hb); clear BK131; clear HB; have HO134 := n0_; have BK131 := n1_; have HB := n2_; clear n0_ n1_ n2_; (try clear hb); (try clear hb2); (try clear hk); (try clear hi); (try clear ho0); obtain ⟨Ao6, co6, eo6⟩ := Kd.R_slice HO134.out; subst eo6; have hcz7_0 : w5.cell? ⟨gb131, 0, none⟩ = some (.int .i64 0) := (blk_cell BK131.out 0).trans rfl; have hcz7_1 : w5.cell? ⟨gb131, 1, none⟩ = some (.int .i64 0) := (blk_cell BK131.out 1).trans rfl; have hcz7_2 : w5.cell? ⟨gb131, 2, none⟩ = some (.int .i64 0) := (blk_cell BK131.out 2).trans rfl; have hcz7_3 : w5.cell? ⟨gb131, 3, none⟩ = some (.int .i64 0) := (blk_cell BK131.out 3).trans rfl; have hcz7_4 : w5.cell? ⟨gb131, 4, none⟩ = some (.int .i64 0) := (blk_cell BK131.out 4).trans rfl; have hcz7_5 : w5.cell? ⟨gb131, 5, none⟩ = some (.int .i64 0) := (blk_cell BK131.out 5).trans rfl; have hfz7_0 := blk_frozen BK131.out 0; have hfz7_1 := blk_frozen BK131.out 1; have hfz7_2 := blk_frozen BK131.out 2; have hfz7_3 := blk_frozen BK131.out 3; have hfz7_4 := blk_frozen BK131.out 4; have hfz7_5 := blk_frozen BK131.out 5))
    refine bodyPost_ret (results_ct rfl _ _ gb131 39 #[.int .i64 0, .int .i64 0, .int .i64 0, .int .i64 0, .int .i64 0, .int .i64 0] (0, 0) _ rfl (by (with_reducible repeat (first | refine blk_drewN ?_ _ | refine blk_drew ?_ | refine blk_alloc ?_ _)); refine blk_put (cs := #[.int .i64 0, .int .i64 0, .int .i64 0, .int .i64 0, .int .i64 0, .int .i64 0]) ?_ 5 _ rfl; (with_reducible repeat (first | refine blk_drewN ?_ _ | refine blk_drew ?_ | refine blk_alloc ?_ _)); refine blk_put (cs := #[.int .i64 0, .int .i64 0, .int .i64 0, .int .i64 0, .int .i64 0, .int .i64 0]) ?_ 4 _ rfl; (with_reducible repeat (first | refine blk_drewN ?_ _ | refine blk_drew ?_ | refine blk_alloc ?_ _)); refine blk_put (cs := #[.int .i64 0, .int .i64 0, .int .i64 0, .int .i64 0, .int .i64 0, .int .i64 0]) ?_ 3 _ rfl; (with_reducible repeat (first | refine blk_drewN ?_ _ | refine blk_drew ?_ | refine blk_alloc ?_ _)); refine blk_put (cs := #[.int .i64 0, .int .i64 0, .int .i64 0, .int .i64 0, .int .i64 0, .int .i64 0]) ?_ 2 _ rfl; (with_reducible repeat (first | refine blk_drewN ?_ _ | refine blk_drew ?_ | refine blk_alloc ?_ _)); refine blk_put (cs := #[.int .i64 0, .int .i64 0, .int .i64 0, .int .i64 0, .int .i64 0, .int .i64 0]) ?_ 1 _ rfl; (with_reducible repeat (first | refine blk_drewN ?_ _ | refine blk_drew ?_ | refine blk_alloc ?_ _)); refine blk_put (cs := #[.int .i64 0, .int .i64 0, .int .i64 0, .int .i64 0, .int .i64 0, .int .i64 0]) ?_ 0 _ rfl; (with_reducible repeat (first | refine blk_drewN ?_ _ | refine blk_drew ?_ | refine blk_alloc ?_ _)); exact BK131.out) Tryd.underlying39 rfl (by kernel_rfl)) rfl ?_
    exact ⟨by first | rfl | (simp [errW_none, errW_some] <;> rfl) | (simp [*, errW_none, errW_some] <;> rfl), by repeat (first | (with_reducible first | exact HB.out | apply below_alloc | apply pw_below_drewN | apply below_drew1 | refine below_set ?_ GE131.out) | exact HB.out)⟩
  · rw [if_neg c3] at H
    have c3b0 : decide ((t132.length : Int) < 5) = false := decide_eq_false c3
    have c3b1 : decide (t132.length < 5) = false := decide_eq_false (by omega)
    clear c3
    by_cases c8 : 1 < (t132.length : Int)
    · rw [if_pos c8] at H
      have c8b0 : decide (1 < (t132.length : Int)) = true := decide_eq_true c8
      have c8b1 : decide (1 < t132.length) = true := decide_eq_true (by omega)
      clear c8
      have HC9 := Aside0.mk H
      clear H
      go_enter Tryd.func41, Tryd.ntmps41
      go_upto_block 0 with (first | ((with_reducible refine gate_dst (N := 2) rfl ?_); (try (refine gate_guard (by rfl) ?_; dsimp only)); refine box_event ?hg (N := 2) ?hd (cs := #[.int .i64 0, .int .i64 0, .int .i64 0, .int .i64 0, .int .i64 0, .int .i64 0]) (t := 39) ?hr ?_; (case hd => rfl); (case hg => rfl); (case hr => first | (go_simp; done) | (go_simp; rfl)); intro gb131 hg w10 hbox hb; have n0_ := Aside0.mk (below_step (by repeat (first | (with_reducible first | exact HB.out | apply below_alloc | apply pw_below_drewN | apply below_drew1) | exact HB.out)) hb); have n1_ := Aside0.mk (hbox); have n2_ := Aside0.mk ((by rw [hg]; exact (below_size (by repeat (first | (with_reducible first | exact HB.out | apply below_alloc | apply pw_below_drewN | apply below_drew1) | exact HB.out))) : w.heap.size ≤ gb131)); have n3_ := Aside0.mk ((by rw [hg]; exact (below_size (by repeat (first | (with_reducible first | exact HB.out | apply below_alloc | apply pw_below_drewN | apply below_drew1) | exact HB.out))) : w.heap.size ≤ gb131)); clear HB; have HB := n0_; have BK131 := n1_; have GW131 := n2_; have GE131 := n3_; clear n0_ n1_ n2_ n3_; clear hb hbox hg) | ((with_reducible refine gate_callee (f := 57) rfl ?_); refine goesL_ (some 14) rfl rfl Tryd.func57 (by kernel_rfl) rfl #[.string a0, .string (⟨#[32]⟩ : ByteArray)] rfl (by (try simp only [List.map_toArray, List.map_cons, List.map_nil]); first | done | rfl | (simp only [List.length_drop, List.length_take]; rfl)) ?_; (with_reducible refine (strings_Split.calls a0 (⟨#[32]⟩ : ByteArray) t132 _ ?side1 A2.out).mono ?_); (case side1 => exact LaidW.below HLd.out (by repeat (first | (with_reducible first | exact HB.out | apply below_alloc | apply pw_below_drewN | apply below_drew1 | refine below_set ?_ GE131.out) | exact HB.out))); rintro e w11 ⟨v133, rfl, ho0, hb⟩; refine ⟨_, rfl, ?_⟩; have n0_ := Aside0.mk (Kd.R_lower ho0 (below_size (by repeat (first | (with_reducible first | exact HB.out | apply below_alloc | apply pw_below_drewN | apply below_drew1 | refine below_set ?_ GE131.out) | exact HB.out)))); have n1_ := Aside0.mk (blk_below (g := gb131) (o := .cells #[.int .i64 0, .int .i64 0, .int .i64 0, .int .i64 0, .int .i64 0, .int .i64 0] 39 (0, 0)) (by (with_reducible repeat (first | refine blk_drewN ?_ _ | refine blk_drew ?_ | refine blk_alloc ?_ _)); exact BK131.out) hb); have n2_ := Aside0.mk (below_step (by repeat (first | (with_reducible first | exact HB.out | apply below_alloc | apply pw_below_drewN | apply below_drew1 | refine below_set ?_ GE131.out) | exact HB.out)) hb); clear BK131; clear HB; have HO134 := n0_; have BK131 := n1_; have HB := n2_; clear n0_ n1_ n2_; (try clear hb); (try clear hb2); (try clear hk); (try clear hi); (try clear ho0); obtain ⟨Ao12, co12, eo12⟩ := Kd.R_slice HO134.out; subst eo12; have p135 : 0 ≤ (1 : Int) := (by omega); have q135 : 1 < (t132.length : Int) := of_decide_eq_true (by first | (with_reducible assumption) | assumption); obtain ⟨ad135, e135, hx135_0⟩ := Kd.at_string (Kd.R_reads' HO134.out).2.2 1 p135 q135; cases e135; (try simp only [show (1 : Int).toNat = 1 from rfl, Nat.reduceMul, Nat.reduceEqDiff, Go.Addr.add, ↓reduceIte] at hx135_0); have qi135 : (1 < t132.length) = True := eq_true (by omega); (try rw [show ((1 : Int)).toNat = 1 from rfl] at hx135_0); replace p135 := eq_true p135; replace q135 := eq_true q135))
      (try simp only [Act.put, List.setIfInBounds_toArray, List.set_cons_zero, List.set_cons_succ])
      go_cut [5, 6] (fun v5 v6 wc => ∃ (kq : Nat) (x5_8 : Int) (x6_8 : Int), v5 = .int .i64 x5_8 ∧ v6 = .int .i64 x6_8 ∧ Aside0 (history_parseLine.j0 kq t132 x5_8 x6_8 = some (r1, r2, r3, r4, r5, r6, r7)) ∧ Aside0 (kq ≤ k) ∧ Aside0 (Kd.R Kd.string 9 wc w.heap.size (fun _ => True) (.slice (some ad135) t132.length co12) t132) ∧ Aside0 (wc.heap[gb131]? = some (.cells #[.int .i64 0, .int .i64 0, .int .i64 0, .int .i64 0, .int .i64 0, .int .i64 0] 39 (0, 0))) ∧ Aside0 (Below w.heap.size w wc))
      case first =>
        have H := HC9.out
        clear HC9
        by_cases c13 : (rdOf ByteArray.empty t132 1).toList = ([112, 97, 121, 109, 101, 110, 116] : List UInt8)
        · rw [if_pos c13] at H
          have c13b0 : ((rdOf ByteArray.empty t132 1).toList == ([112, 97, 121, 109, 101, 110, 116] : List UInt8)) = true := beq_iff_eq.mpr c13
          have c13b1 : ((rdOf ByteArray.empty t132 1).toList != ([112, 97, 121, 109, 101, 110, 116] : List UInt8)) = false := bne_eq_false_iff_eq.mpr c13
          clear c13
          (first | rw [c13b0] | (simp only [i64_w, i32_w]; rw [c13b0]) | skip)
          have H' := Aside0.mk H
          clear H
          go_wp2
          go_meet
          case rel => exact ⟨_, (1), (5), (by first | rfl | (simp; done) | (simp [*]; done)), (by first | rfl | (simp; done) | (simp [*]; done)), H', ⟨by first | omega | exact Nat.le_refl _⟩, ⟨by (with_reducible repeat (first | apply Kd.R_alloc | apply Kd.R_drewN | apply Kd.R_drew)); exact HO134.out⟩, ⟨by (with_reducible repeat (first | refine blk_drewN ?_ _ | refine blk_drew ?_ | refine blk_alloc ?_ _)); exact BK131.out⟩, ⟨by repeat (first | (with_reducible first | exact HB.out | apply below_alloc | apply pw_below_drewN | apply below_drew1 | refine below_set ?_ GE131.out) | exact HB.out)⟩⟩
        · rw [if_neg c13] at H
          have c13b0 : ((rdOf ByteArray.empty t132 1).toList == ([112, 97, 121, 109, 101, 110, 116] : List UInt8)) = false := beq_eq_false_iff_ne.mpr c13
          have c13b1 : ((rdOf ByteArray.empty t132 1).toList != ([112, 97, 121, 109, 101, 110, 116] : List UInt8)) = true := bne_iff_ne.mpr c13
          (first | rw [c13b0] | (simp only [i64_w, i32_w]; rw [c13b0]) | skip)
          by_cases c14 : (rdOf ByteArray.empty t132 1).toList = ([115, 117, 112, 112, 108, 121] : List UInt8)
          · rw [if_pos c14] at H
            have c14b0 : ((rdOf ByteArray.empty t132 1).toList == ([115, 117, 112, 112, 108, 121] : List UInt8)) = true := beq_iff_eq.mpr c14
            have c14b1 : ((rdOf ByteArray.empty t132 1).toList != ([115, 117, 112, 112, 108, 121] : List UInt8)) = false := bne_eq_false_iff_eq.mpr c14
            clear c14
            have H' := Aside0.mk H
            clear H
            go_wp2
            go_meet
            case rel => exact ⟨_, (2), (5), (by first | rfl | (simp; done) | (simp [*]; done)), (by first | rfl | (simp; done) | (simp [*]; done)), H', ⟨by first | omega | exact Nat.le_refl _⟩, ⟨by (with_reducible repeat (first | apply Kd.R_alloc | apply Kd.R_drewN | apply Kd.R_drew)); exact HO134.out⟩, ⟨by (with_reducible repeat (first | refine blk_drewN ?_ _ | refine blk_drew ?_ | refine blk_alloc ?_ _)); exact BK131.out⟩, ⟨by repeat (first | (with_reducible first | exact HB.out | apply below_alloc | apply pw_below_drewN | apply below_drew1 | refine below_set ?_ GE131.out) | exact HB.out)⟩⟩
          · rw [if_neg c14] at H
            have c14b0 : ((rdOf ByteArray.empty t132 1).toList == ([115, 117, 112, 112, 108, 121] : List UInt8)) = false := beq_eq_false_iff_ne.mpr c14
            have c14b1 : ((rdOf ByteArray.empty t132 1).toList != ([115, 117, 112, 112, 108, 121] : List UInt8)) = true := bne_iff_ne.mpr c14
            by_cases c15 : (rdOf ByteArray.empty t132 1).toList = ([116, 114, 97, 110, 115, 102, 101, 114] : List UInt8)
            · rw [if_pos c15] at H
              have c15b0 : ((rdOf ByteArray.empty t132 1).toList == ([116, 114, 97, 110, 115, 102, 101, 114] : List UInt8)) = true := beq_iff_eq.mpr c15
              have c15b1 : ((rdOf ByteArray.empty t132 1).toList != ([116, 114, 97, 110, 115, 102, 101, 114] : List UInt8)) = false := bne_eq_false_iff_eq.mpr c15
              clear c15
              have H' := Aside0.mk H
              clear H
              go_wp2
              go_meet
              case rel => exact ⟨_, (3), (6), (by first | rfl | (simp; done) | (simp [*]; done)), (by first | rfl | (simp; done) | (simp [*]; done)), H', ⟨by first | omega | exact Nat.le_refl _⟩, ⟨by (with_reducible repeat (first | apply Kd.R_alloc | apply Kd.R_drewN | apply Kd.R_drew)); exact HO134.out⟩, ⟨by (with_reducible repeat (first | refine blk_drewN ?_ _ | refine blk_drew ?_ | refine blk_alloc ?_ _)); exact BK131.out⟩, ⟨by repeat (first | (with_reducible first | exact HB.out | apply below_alloc | apply pw_below_drewN | apply below_drew1 | refine below_set ?_ GE131.out) | exact HB.out)⟩⟩
            · rw [if_neg c15] at H
              have c15b0 : ((rdOf ByteArray.empty t132 1).toList == ([116, 114, 97, 110, 115, 102, 101, 114] : List UInt8)) = false := beq_eq_false_iff_ne.mpr c15
              have c15b1 : ((rdOf ByteArray.empty t132 1).toList != ([116, 114, 97, 110, 115, 102, 101, 114] : List UInt8)) = true := bne_iff_ne.mpr c15
              have H' := Aside0.mk H
              clear H
              go_wp2
              go_meet
              case rel => exact ⟨_, (0), (5), (by first | rfl | (simp; done) | (simp [*]; done)), (by first | rfl | (simp; done) | (simp [*]; done)), H', ⟨by first | omega | exact Nat.le_refl _⟩, ⟨by (with_reducible repeat (first | apply Kd.R_alloc | apply Kd.R_drewN | apply Kd.R_drew)); exact HO134.out⟩, ⟨by (with_reducible repeat (first | refine blk_drewN ?_ _ | refine blk_drew ?_ | refine blk_alloc ?_ _)); exact BK131.out⟩, ⟨by repeat (first | (with_reducible first | exact HB.out | apply below_alloc | apply pw_below_drewN | apply below_drew1 | refine below_set ?_ GE131.out) | exact HB.out)⟩⟩
      case rest =>
        clear HC9
        try clear c1
        try clear p1
        try clear q1
        try clear hx1
        try clear qi1
        try clear p2
        try clear c3
        try clear c3b0
        try clear c3b1
        try clear c4
        try clear c5
        try clear c8
        try clear c8b0
        try clear c8b1
        try clear c13
        try clear c13b0
        try clear c13b1
        try clear p13
        try clear q13
        try clear hx13
        try clear qi13
        try clear c14
        try clear c14b0
        try clear c14b1
        try clear c15
        try clear c15b0
        try clear c15b1
        try clear hcz7_0
        try clear hcz7_1
        try clear hcz7_2
        try clear hcz7_3
        try clear hcz7_4
        try clear hcz7_5
        try clear hfz7_0
        try clear hfz7_1
        try clear hfz7_2
        try clear hfz7_3
        try clear hfz7_4
        try clear hfz7_5
        try clear hx135_0
        try clear p135
        try clear q135
        obtain ⟨kq, x5_8, x6_8, rfl, rfl, HA, HJ8, HO_4, BK131, HB⟩ := hcut
        cases kq with
        | zero => exact absurd HA.out (by simp [history_parseLine.j0])
        | succ kj8 =>
          have H := HA.out
          clear HA
          simp only [history_parseLine.j0] at H
          have HC16 := Aside0.mk H
          clear H
          go_upto_region 12 with (fail)
          go_cut [35] (fun v35 wc => ∃ (kq : Nat) (x35_15 : Bool), v35 = .bool x35_15 ∧ Aside0 (history_parseLine.j1 kq t132 x5_8 x6_8 x35_15 = some (r1, r2, r3, r4, r5, r6, r7)) ∧ Aside0 (kq ≤ kj8) ∧ Aside0 (Kd.R Kd.string 9 wc w.heap.size (fun _ => True) (.slice (some ad135) t132.length co12) t132) ∧ Aside0 (wc.heap[gb131]? = some (.cells #[.int .i64 0, .int .i64 0, .int .i64 0, .int .i64 0, .int .i64 0, .int .i64 0] 39 (0, 0))) ∧ Aside0 (Below w.heap.size w wc))
          case first =>
            have H := HC16.out
            clear HC16
            by_cases c17 : x5_8 = 0
            · rw [if_pos c17] at H
              have c17b0 : (x5_8 == 0) = true := beq_iff_eq.mpr c17
              have c17b1 : (x5_8 != 0) = false := bne_eq_false_iff_eq.mpr c17
              clear c17
              (first | rw [c17b0] | (simp only [i64_w, i32_w]; rw [c17b0]) | skip)
              have H' := Aside0.mk H
              clear H
              go_wp2
              go_meet
              case rel => exact ⟨_, (true), (by first | rfl | (simp; done) | (simp [*]; done)), H', ⟨by have := HJ8.out; first | omega | exact Nat.le_refl _⟩, ⟨by (with_reducible repeat (first | apply Kd.R_alloc | apply Kd.R_drewN | apply Kd.R_drew)); exact HO_4.out⟩, ⟨by (with_reducible repeat (first | refine blk_drewN ?_ _ | refine blk_drew ?_ | refine blk_alloc ?_ _)); exact BK131.out⟩, ⟨by repeat (first | (with_reducible first | exact HB.out | apply below_alloc | apply pw_below_drewN | apply below_drew1 | refine below_set ?_ GE131.out) | exact HB.out)⟩⟩
            · rw [if_neg c17] at H
              have c17b0 : (x5_8 == 0) = false := beq_eq_false_iff_ne.mpr c17
              have c17b1 : (x5_8 != 0) = true := bne_iff_ne.mpr c17
              (first | rw [c17b0] | (simp only [i64_w, i32_w]; rw [c17b0]) | skip)
              have H' := Aside0.mk H
              clear H
              go_wp2
              go_meet
              case rel => exact ⟨_, (((t132.length : Int) != x6_8)), (by first | rfl | (simp; done) | (simp [*]; done)), H', ⟨by have := HJ8.out; first | omega | exact Nat.le_refl _⟩, ⟨by (with_reducible repeat (first | apply Kd.R_alloc | apply Kd.R_drewN | apply Kd.R_drew)); exact HO_4.out⟩, ⟨by (with_reducible repeat (first | refine blk_drewN ?_ _ | refine blk_drew ?_ | refine blk_alloc ?_ _)); exact BK131.out⟩, ⟨by repeat (first | (with_reducible first | exact HB.out | apply below_alloc | apply pw_below_drewN | apply below_drew1 | refine below_set ?_ GE131.out) | exact HB.out)⟩⟩
          case rest =>
            clear HC16
            try clear c1
            try clear p1
            try clear q1
            try clear hx1
            try clear qi1
            try clear p2
            try clear c3
            try clear c3b0
            try clear c3b1
            try clear c4
            try clear c5
            try clear c8
            try clear c8b0
            try clear c8b1
            try clear c13
            try clear c13b0
            try clear c13b1
            try clear p13
            try clear q13
            try clear hx13
            try clear qi13
            try clear c14
            try clear c14b0
            try clear c14b1
            try clear c15
            try clear c15b0
            try clear c15b1
            try clear c17
            try clear c17b0
            try clear c17b1
            try clear hcz7_0
            try clear hcz7_1
            try clear hcz7_2
            try clear hcz7_3
            try clear hcz7_4
            try clear hcz7_5
            try clear hfz7_0
            try clear hfz7_1
            try clear hfz7_2
            try clear hfz7_3
            try clear hfz7_4
            try clear hfz7_5
            try clear hx135_0
            try clear p1
            try clear p13
            try clear p135
            try clear p2
            try clear q1
            try clear q13
            try clear q135
            obtain ⟨kq, x35_15, rfl, HA, HJ15, HO_4, BK131, HB⟩ := hcut
            cases kq with
            | zero => exact absurd HA.out (by simp [history_parseLine.j1])
            | succ kj15 =>
              have H := HA.out
              clear HA
              simp only [history_parseLine.j1] at H
              by_cases c18 : x35_15 = true
              · subst c18
                have H1 : (some (0, 0, 0, 0, 0, 0, false)) = some (r1, r2, r3, r4, r5, r6, r7) := by rw [if_pos rfl] at H; exact H
                clear H
                have H := H1
                clear H1
                simp only [Option.some.injEq, Prod.mk.injEq] at H
                obtain ⟨rfl, rfl, rfl, rfl, rfl, rfl, rfl⟩ := H
                have hcz19_0 : wc.cell? ⟨gb131, 0, none⟩ = some (.int .i64 0) := (blk_cell BK131.out 0).trans rfl
                have hcz19_1 : wc.cell? ⟨gb131, 1, none⟩ = some (.int .i64 0) := (blk_cell BK131.out 1).trans rfl
                have hcz19_2 : wc.cell? ⟨gb131, 2, none⟩ = some (.int .i64 0) := (blk_cell BK131.out 2).trans rfl
                have hcz19_3 : wc.cell? ⟨gb131, 3, none⟩ = some (.int .i64 0) := (blk_cell BK131.out 3).trans rfl
                have hcz19_4 : wc.cell? ⟨gb131, 4, none⟩ = some (.int .i64 0) := (blk_cell BK131.out 4).trans rfl
                have hcz19_5 : wc.cell? ⟨gb131, 5, none⟩ = some (.int .i64 0) := (blk_cell BK131.out 5).trans rfl
                have hfz19_0 := blk_frozen BK131.out 0
                have hfz19_1 := blk_frozen BK131.out 1
                have hfz19_2 := blk_frozen BK131.out 2
                have hfz19_3 := blk_frozen BK131.out 3
                have hfz19_4 := blk_frozen BK131.out 4
                have hfz19_5 := blk_frozen BK131.out 5
                go_wp2
                refine bodyPost_ret (results_ct rfl _ _ gb131 39 #[.int .i64 0, .int .i64 0, .int .i64 0, .int .i64 0, .int .i64 0, .int .i64 0] (0, 0) _ rfl (by (with_reducible repeat (first | refine blk_drewN ?_ _ | refine blk_drew ?_ | refine blk_alloc ?_ _)); refine blk_put (cs := #[.int .i64 0, .int .i64 0, .int .i64 0, .int .i64 0, .int .i64 0, .int .i64 0]) ?_ 5 _ rfl; (with_reducible repeat (first | refine blk_drewN ?_ _ | refine blk_drew ?_ | refine blk_alloc ?_ _)); refine blk_put (cs := #[.int .i64 0, .int .i64 0, .int .i64 0, .int .i64 0, .int .i64 0, .int .i64 0]) ?_ 4 _ rfl; (with_reducible repeat (first | refine blk_drewN ?_ _ | refine blk_drew ?_ | refine blk_alloc ?_ _)); refine blk_put (cs := #[.int .i64 0, .int .i64 0, .int .i64 0, .int .i64 0, .int .i64 0, .int .i64 0]) ?_ 3 _ rfl; (with_reducible repeat (first | refine blk_drewN ?_ _ | refine blk_drew ?_ | refine blk_alloc ?_ _)); refine blk_put (cs := #[.int .i64 0, .int .i64 0, .int .i64 0, .int .i64 0, .int .i64 0, .int .i64 0]) ?_ 2 _ rfl; (with_reducible repeat (first | refine blk_drewN ?_ _ | refine blk_drew ?_ | refine blk_alloc ?_ _)); refine blk_put (cs := #[.int .i64 0, .int .i64 0, .int .i64 0, .int .i64 0, .int .i64 0, .int .i64 0]) ?_ 1 _ rfl; (with_reducible repeat (first | refine blk_drewN ?_ _ | refine blk_drew ?_ | refine blk_alloc ?_ _)); refine blk_put (cs := #[.int .i64 0, .int .i64 0, .int .i64 0, .int .i64 0, .int .i64 0, .int .i64 0]) ?_ 0 _ rfl; (with_reducible repeat (first | refine blk_drewN ?_ _ | refine blk_drew ?_ | refine blk_alloc ?_ _)); exact BK131.out) Tryd.underlying39 rfl (by kernel_rfl)) rfl ?_
                exact ⟨by first | rfl | (simp [errW_none, errW_some] <;> rfl) | (simp [*, errW_none, errW_some] <;> rfl), by repeat (first | (with_reducible first | exact HB.out | apply below_alloc | apply pw_below_drewN | apply below_drew1 | refine below_set ?_ GE131.out) | exact HB.out)⟩
              · replace c18 := Bool.eq_false_iff.mpr c18
                subst c18
                have H1 : (history_parseLine.l0 kj15 x5_8 x6_8 ([] : List Int) t132 (t132.length : Int) 0) = some (r1, r2, r3, r4, r5, r6, r7) := by rw [if_neg (show ¬ (false = true) by decide)] at H; exact H
                clear H
                have H := H1
                clear H1
                have H' := Aside0.mk H
                clear H
                go_wp2
                go_loopg [7, 39] kj15 (fun kq v7 v39 w' => ∃ (x7_3 : List Int) (x39_3 : Int) (x132000_3 : Int) (x132001_3 : Int) (x132002_3 : Int) (x132003_3 : Int) (x132004_3 : Int) (x132005_3 : Int), v39 = .int .i64 x39_3 ∧ Aside0 (history_parseLine.l0 kq x5_8 x6_8 x7_3 t132 (t132.length : Int) x39_3 = some (r1, r2, r3, r4, r5, r6, r7)) ∧ Aside0 (kq ≤ kj15) ∧ Aside0 (Kd.R (Kd.int .i64) 2 w' w.heap.size (fun _ => True) v7 x7_3) ∧ Aside0 (Kd.R Kd.string 9 w' w.heap.size (fun _ => True) (.slice (some ad135) t132.length co12) t132) ∧ Aside0 (w'.heap[gb131]? = some (.cells #[.int .i64 x132000_3, .int .i64 x132001_3, .int .i64 x132002_3, .int .i64 x132003_3, .int .i64 x132004_3, .int .i64 x132005_3] 39 (0, 0))) ∧ Aside0 (Below w.heap.size w w'))
                case atStart => exact ⟨(([] : List Int)), (0), (0), (0), (0), (0), (0), (0), (by first | rfl | (simp; done) | (simp [*]; done)), H', ⟨Nat.le_refl _⟩, ⟨by first | exact Kd.R_nil _ _ _ _ _ | exact Kd.N_nil _ _ _ _ _ | exact Kd.V_nil _ _ _ _ _ | exact Kd.Q_nil _ _ _ _ _ | exact Kd.S_nil _ _ _ _ _⟩, ⟨by (with_reducible repeat (first | apply Kd.R_alloc | apply Kd.R_drewN | apply Kd.R_drew)); exact HO_4.out⟩, ⟨by (with_reducible repeat (first | refine blk_drewN ?_ _ | refine blk_drew ?_ | refine blk_alloc ?_ _)); exact BK131.out⟩, ⟨by repeat (first | (with_reducible first | exact HB.out | apply below_alloc | apply pw_below_drewN | apply below_drew1 | refine below_set ?_ GE131.out) | exact HB.out)⟩⟩
                case round =>
                  clear H'
                  try clear c1
                  try clear p1
                  try clear q1
                  try clear hx1
                  try clear qi1
                  try clear p2
                  try clear c3
                  try clear c3b0
                  try clear c3b1
                  try clear c4
                  try clear c5
                  try clear c8
                  try clear c8b0
                  try clear c8b1
                  try clear c13
                  try clear c13b0
                  try clear c13b1
                  try clear p13
                  try clear q13
                  try clear hx13
                  try clear qi13
                  try clear c14
                  try clear c14b0
                  try clear c14b1
                  try clear c15
                  try clear c15b0
                  try clear c15b1
                  try clear c17
                  try clear c17b0
                  try clear c17b1
                  try clear c18
                  try clear hcz19_0
                  try clear hcz19_1
                  try clear hcz19_2
                  try clear hcz19_3
                  try clear hcz19_4
                  try clear hcz19_5
                  try clear hcz7_0
                  try clear hcz7_1
                  try clear hcz7_2
                  try clear hcz7_3
                  try clear hcz7_4
                  try clear hcz7_5
                  try clear hfz19_0
                  try clear hfz19_1
                  try clear hfz19_2
                  try clear hfz19_3
                  try clear hfz19_4
                  try clear hfz19_5
                  try clear hfz7_0
                  try clear hfz7_1
                  try clear hfz7_2
                  try clear hfz7_3
                  try clear hfz7_4
                  try clear hfz7_5
                  try clear hx135_0
                  try clear p1
                  try clear p13
                  try clear p135
                  try clear p2
                  try clear q1
                  try clear q13
                  try clear q135
                  obtain ⟨x7_3, x39_3, x132000_3, x132001_3, x132002_3, x132003_3, x132004_3, x132005_3, rfl, HA, HK3, HO_7, HO_37, BK131, HB⟩ := hrel
                  cases gk with
                  | zero => exact absurd HA.out (by simp [history_parseLine.l0])
                  | succ k3 =>
                    have H := HA.out
                    clear HA
                    simp only [history_parseLine.l0] at H
                    by_cases c20 : x39_3 < (t132.length : Int)
                    · rw [if_pos c20] at H
                      have c20b0 : decide (x39_3 < (t132.length : Int)) = true := decide_eq_true c20
                      clear c20
                      by_cases c21 : 0 ≤ x39_3
                      · rw [if_pos c21] at H
                        have c21b0 : decide (0 ≤ x39_3) = true := decide_eq_true c21
                        clear c21
                        by_cases c22 : x39_3 < (t132.length : Int)
                        · rw [if_pos c22] at H
                          have c22b0 : decide (x39_3 < (t132.length : Int)) = true := decide_eq_true c22
                          clear c22
                          by_cases c23 : x39_3 = 1
                          · rw [if_pos c23] at H
                            have c23b0 : (x39_3 == 1) = true := beq_iff_eq.mpr c23
                            have c23b1 : (x39_3 != 1) = false := bne_eq_false_iff_eq.mpr c23
                            clear c23
                            have H' := Aside0.mk H
                            clear H
                            have p142 : 0 ≤ (x39_3 : Int) := of_decide_eq_true (by first | (with_reducible assumption) | assumption)
                            have q142 : x39_3 < (t132.length : Int) := of_decide_eq_true (by first | (with_reducible assumption) | assumption)
                            obtain ⟨ad142, e142, hx142_0⟩ := Kd.at_string (Kd.R_reads' HO_37.out).2.2 x39_3 p142 q142
                            obtain rfl : ad135 = ad142 := (by injection e142)
                            replace p142 := eq_true p142
                            replace q142 := eq_true q142
                            go_wp2
                            go_roundg k3
                            case measure => have := HJ8.out; have := HJ15.out; have := HK3.out; omega
                            case rel => exact ⟨(x7_3), (wrap64 (x39_3 + 1)), (x132000_3), (x132001_3), (x132002_3), (x132003_3), (x132004_3), (x132005_3), (by first | rfl | (simp; done) | (simp [*]; done)), H', ⟨by have := HJ8.out; have := HJ15.out; have := HK3.out; omega⟩, ⟨by (with_reducible repeat (first | apply Kd.R_alloc | apply Kd.R_drewN | apply Kd.R_drew)); exact HO_7.out⟩, ⟨by (with_reducible repeat (first | apply Kd.R_alloc | apply Kd.R_drewN | apply Kd.R_drew)); exact HO_37.out⟩, ⟨by (with_reducible repeat (first | refine blk_drewN ?_ _ | refine blk_drew ?_ | refine blk_alloc ?_ _)); exact BK131.out⟩, ⟨by repeat (first | (with_reducible first | exact HB.out | apply below_alloc | apply pw_below_drewN | apply below_drew1 | refine below_set ?_ GE131.out) | exact HB.out)⟩⟩
                          · rw [if_neg c23] at H
                            have c23b0 : (x39_3 == 1) = false := beq_eq_false_iff_ne.mpr c23
                            have c23b1 : (x39_3 != 1) = true := bne_iff_ne.mpr c23
                            replace H := Option.bind_eq_some_iff.mp H
                            obtain ⟨⟨t143, t144⟩, A240, H⟩ := H
                            replace H : (if t144 = true then (if x7_3.length < 17592186044416 then (history_parseLine.l0 k3 x5_8 x6_8 (x7_3 ++ [t143]) t132 (t132.length : Int) (wrap64 (x39_3 + 1))) else (none)) else (some (0, 0, 0, 0, 0, 0, false))) = some (r1, r2, r3, r4, r5, r6, r7) := H
                            have A24 := Aside0.mk A240
                            clear A240
                            by_cases c25 : t144 = true
                            · subst c25
                              have H1 : (if x7_3.length < 17592186044416 then (history_parseLine.l0 k3 x5_8 x6_8 (x7_3 ++ [t143]) t132 (t132.length : Int) (wrap64 (x39_3 + 1))) else (none)) = some (r1, r2, r3, r4, r5, r6, r7) := by rw [if_pos rfl] at H; exact H
                              clear H
                              have H := H1
                              clear H1
                              by_cases c26 : x7_3.length < 17592186044416
                              · rw [if_pos c26] at H
                                have LMc26 := Aside0.mk c26
                                clear c26
                                obtain ⟨y145, hy145⟩ : ∃ y_ : List Int, y_ = (x7_3 ++ [t143]) := ⟨_, rfl⟩
                                replace H : (history_parseLine.l0 k3 x5_8 x6_8 y145 t132 (t132.length : Int) (wrap64 (x39_3 + 1))) = some (r1, r2, r3, r4, r5, r6, r7) := by first | (rw [hy145]; with_reducible exact H) | (have H2_ := (Option.bind_some _ _).symm.trans H; rw [hy145]; with_reducible exact H2_) | (have H2_ := (Option.bind_some _ _).symm.trans H; with_reducible exact H2_) | with_reducible exact H | (rw [hy145]; exact H) | exact H
                                have Ny145 := Aside0.mk hy145
                                clear hy145
                                have H' := Aside0.mk H
                                clear H
                                have p142 : 0 ≤ (x39_3 : Int) := of_decide_eq_true (by first | (with_reducible assumption) | assumption)
                                have q142 : x39_3 < (t132.length : Int) := of_decide_eq_true (by first | (with_reducible assumption) | assumption)
                                obtain ⟨ad142, e142, hx142_0⟩ := Kd.at_string (Kd.R_reads' HO_37.out).2.2 x39_3 p142 q142
                                obtain rfl : ad135 = ad142 := (by injection e142)
                                replace p142 := eq_true p142
                                replace q142 := eq_true q142
                                go_wp2_with (first | ((with_reducible refine gate_callee (f := 58) rfl ?_); refine goesL_ (some 48) rfl rfl Tryd.func58 (by kernel_rfl) rfl #[.string (rdOf ByteArray.empty t132 x39_3)] rfl (by (try simp only [List.map_toArray, List.map_cons, List.map_nil]); first | done | rfl | (simp only [List.length_drop, List.length_take]; rfl)) ?_; (with_reducible refine (history_number.calls k3 (rdOf ByteArray.empty t132 x39_3) t143 true _ A24.out).mono ?_); rintro e w' ⟨rfl, ⟨nd, rfl⟩⟩; refine ⟨_, rfl, ?_⟩) | ((with_reducible refine gate_builtin (b := .append) (xs := #[.tmp 54, .tmp 56]) rfl ?_); (try (refine gate_guard (by rfl) ?_; dsimp only)); at_builtin; refine Kd.R_append (Kd.int .i64) (w0 := w) w.heap.size rfl (.tmp 54) (.tmp 56) 91 2 (.int .i64 0) 8 rfl Tryd.underlying91 info2 rfl (by decide) (by omega) u7 x7_3 t143 [.int .i64 t143] (fun _ => True) (fun _ => False) rfl rfl ?aP (fun _ hk => hk.elim) ?aF ?aO ?aB ?aS ?aL ?_; (case aP => exact rfl); (case aB => exact (by repeat (first | (with_reducible first | exact HB.out | apply below_alloc | apply pw_below_drewN | apply below_drew1 | refine below_set ?_ GE131.out) | exact HB.out))); (case aF => exact (fun _ _ => trivial)); (case aO => exact (by (with_reducible repeat (first | apply Kd.R_alloc | apply Kd.R_drewN | apply Kd.R_drew)); exact HO_7.out)); (case aS => exact (below_size (by repeat (first | (with_reducible first | exact HB.out | apply below_alloc | apply pw_below_drewN | apply below_drew1 | refine below_set ?_ GE131.out) | exact HB.out)))); (case aL => have := LMc26.out; omega); intro v146 w27 ho hb hg hat; rw [← Ny145.out] at ho; have n0_ := Aside0.mk (Kd.R_over' (by (with_reducible repeat (first | apply Kd.R_alloc | apply Kd.R_drewN | apply Kd.R_drew)); exact HO_37.out) (Kd.R_typed (by (with_reducible repeat (first | apply Kd.R_alloc | apply Kd.R_drewN | apply Kd.R_drew)); exact HO_7.out)) (by decide) hg); have n1_ := Aside0.mk (blk_grown (g := gb131) (o := .cells #[.int .i64 x132000_3, .int .i64 x132001_3, .int .i64 x132002_3, .int .i64 x132003_3, .int .i64 x132004_3, .int .i64 x132005_3] 39 (0, 0)) (by (with_reducible repeat (first | refine blk_drewN ?_ _ | refine blk_drew ?_ | refine blk_alloc ?_ _)); exact BK131.out) hg (Kd.R_ne HO_7.out BK131.out (by decide))); have n2_ := Aside0.mk (hb); have n3_ := Aside0.mk (ho); clear HO_37; clear BK131; clear HB; clear HO_7; have HO_37 := n0_; have BK131 := n1_; have HB := n2_; have HO147 := n3_; clear n0_ n1_ n2_ n3_; clear ho hb hg hat))
                                go_roundg k3
                                case measure => have := HJ8.out; have := HJ15.out; have := HK3.out; omega
                                case rel => exact ⟨(y145), (wrap64 (x39_3 + 1)), (x132000_3), (x132001_3), (x132002_3), (x132003_3), (x132004_3), (x132005_3), (by first | rfl | (simp; done) | (simp [*]; done)), H', ⟨by have := HJ8.out; have := HJ15.out; have := HK3.out; omega⟩, ⟨by (with_reducible repeat (first | apply Kd.R_alloc | apply Kd.R_drewN | apply Kd.R_drew)); exact HO147.out⟩, ⟨by (with_reducible repeat (first | apply Kd.R_alloc | apply Kd.R_drewN | apply Kd.R_drew)); exact HO_37.out⟩, ⟨by (with_reducible repeat (first | refine blk_drewN ?_ _ | refine blk_drew ?_ | refine blk_alloc ?_ _)); exact BK131.out⟩, ⟨by repeat (first | (with_reducible first | exact HB.out | apply below_alloc | apply pw_below_drewN | apply below_drew1 | refine below_set ?_ GE131.out) | exact HB.out)⟩⟩
                              · rw [if_neg c26] at H
                                exact absurd H (by simp)
                            · replace c25 := Bool.eq_false_iff.mpr c25
                              subst c25
                              have H1 : (some (0, 0, 0, 0, 0, 0, false)) = some (r1, r2, r3, r4, r5, r6, r7) := by rw [if_neg (show ¬ (false = true) by decide)] at H; exact H
                              clear H
                              have H := H1
                              clear H1
                              simp only [Option.some.injEq, Prod.mk.injEq] at H
                              obtain ⟨rfl, rfl, rfl, rfl, rfl, rfl, rfl⟩ := H
                              have p142 : 0 ≤ (x39_3 : Int) := of_decide_eq_true (by first | (with_reducible assumption) | assumption)
                              have q142 : x39_3 < (t132.length : Int) := of_decide_eq_true (by first | (with_reducible assumption) | assumption)
                              obtain ⟨ad142, e142, hx142_0⟩ := Kd.at_string (Kd.R_reads' HO_37.out).2.2 x39_3 p142 q142
                              obtain rfl : ad135 = ad142 := (by injection e142)
                              replace p142 := eq_true p142
                              replace q142 := eq_true q142
                              go_wp2_with (first | ((with_reducible refine gate_callee (f := 58) rfl ?_); refine goesL_ (some 48) rfl rfl Tryd.func58 (by kernel_rfl) rfl #[.string (rdOf ByteArray.empty t132 x39_3)] rfl (by (try simp only [List.map_toArray, List.map_cons, List.map_nil]); first | done | rfl | (simp only [List.length_drop, List.length_take]; rfl)) ?_; (with_reducible refine (history_number.calls k3 (rdOf ByteArray.empty t132 x39_3) t143 false _ A24.out).mono ?_); rintro e w' ⟨rfl, ⟨nd, rfl⟩⟩; refine ⟨_, rfl, ?_⟩; (try (rw [drewN_self wr]; generalize hq_ : World.drewN wr _ = wr; have n0_ : Aside0 (Kd.R Kd.string 9 wr w.heap.size (fun _ => True) (.slice (some ad135) t132.length co12) t132) := ⟨by rw [← hq_]; exact (by (with_reducible repeat (first | apply Kd.R_alloc | apply Kd.R_drewN | apply Kd.R_drew)); exact HO_37.out)⟩; have n1_ : Aside0 (Kd.R (Kd.int .i64) 2 wr w.heap.size (fun _ => True) u7 x7_3) := ⟨by rw [← hq_]; exact (by (with_reducible repeat (first | apply Kd.R_alloc | apply Kd.R_drewN | apply Kd.R_drew)); exact HO_7.out)⟩; have n2_ : Aside0 (wr.heap[gb131]? = some (.cells #[.int .i64 x132000_3, .int .i64 x132001_3, .int .i64 x132002_3, .int .i64 x132003_3, .int .i64 x132004_3, .int .i64 x132005_3] 39 (0, 0))) := ⟨by rw [← hq_]; exact (by (with_reducible repeat (first | refine blk_drewN ?_ _ | refine blk_drew ?_ | refine blk_alloc ?_ _)); exact BK131.out)⟩; have n3_ : Aside0 (Below w.heap.size w wr) := ⟨by rw [← hq_]; exact (by repeat (first | (with_reducible first | exact HB.out | apply below_alloc | apply pw_below_drewN | apply below_drew1 | refine below_set ?_ GE131.out) | exact HB.out))⟩; clear HO_37 HO_7 BK131 HB hq_; have HO_37 := n0_; have HO_7 := n1_; have BK131 := n2_; have HB := n3_; clear n0_ n1_ n2_ n3_)); have hcz28_0 : wr.cell? ⟨gb131, 0, none⟩ = some (.int .i64 x132000_3) := (blk_cell BK131.out 0).trans rfl; have hcz28_1 : wr.cell? ⟨gb131, 1, none⟩ = some (.int .i64 x132001_3) := (blk_cell BK131.out 1).trans rfl; have hcz28_2 : wr.cell? ⟨gb131, 2, none⟩ = some (.int .i64 x132002_3) := (blk_cell BK131.out 2).trans rfl; have hcz28_3 : wr.cell? ⟨gb131, 3, none⟩ = some (.int .i64 x132003_3) := (blk_cell BK131.out 3).trans rfl; have hcz28_4 : wr.cell? ⟨gb131, 4, none⟩ = some (.int .i64 x132004_3) := (blk_cell BK131.out 4).trans rfl; have hcz28_5 : wr.cell? ⟨gb131, 5, none⟩ = some (.int .i64 x132005_3) := (blk_cell BK131.out 5).trans rfl; have hfz28_0 := blk_frozen BK131.out 0; have hfz28_1 := blk_frozen BK131.out 1; have hfz28_2 := blk_frozen BK131.out 2; have hfz28_3 := blk_frozen BK131.out 3; have hfz28_4 := blk_frozen BK131.out 4; have hfz28_5 := blk_frozen BK131.out 5))
                              refine bodyPost_ret (results_ct rfl _ _ gb131 39 #[.int .i64 0, .int .i64 0, .int .i64 0, .int .i64 0, .int .i64 0, .int .i64 0] (0, 0) _ rfl (by (with_reducible repeat (first | refine blk_drewN ?_ _ | refine blk_drew ?_ | refine blk_alloc ?_ _)); refine blk_put (cs := #[.int .i64 0, .int .i64 0, .int .i64 0, .int .i64 0, .int .i64 0, .int .i64 x132005_3]) ?_ 5 _ rfl; (with_reducible repeat (first | refine blk_drewN ?_ _ | refine blk_drew ?_ | refine blk_alloc ?_ _)); refine blk_put (cs := #[.int .i64 0, .int .i64 0, .int .i64 0, .int .i64 0, .int .i64 x132004_3, .int .i64 x132005_3]) ?_ 4 _ rfl; (with_reducible repeat (first | refine blk_drewN ?_ _ | refine blk_drew ?_ | refine blk_alloc ?_ _)); refine blk_put (cs := #[.int .i64 0, .int .i64 0, .int .i64 0, .int .i64 x132003_3, .int .i64 x132004_3, .int .i64 x132005_3]) ?_ 3 _ rfl; (with_reducible repeat (first | refine blk_drewN ?_ _ | refine blk_drew ?_ | refine blk_alloc ?_ _)); refine blk_put (cs := #[.int .i64 0, .int .i64 0, .int .i64 x132002_3, .int .i64 x132003_3, .int .i64 x132004_3, .int .i64 x132005_3]) ?_ 2 _ rfl; (with_reducible repeat (first | refine blk_drewN ?_ _ | refine blk_drew ?_ | refine blk_alloc ?_ _)); refine blk_put (cs := #[.int .i64 0, .int .i64 x132001_3, .int .i64 x132002_3, .int .i64 x132003_3, .int .i64 x132004_3, .int .i64 x132005_3]) ?_ 1 _ rfl; (with_reducible repeat (first | refine blk_drewN ?_ _ | refine blk_drew ?_ | refine blk_alloc ?_ _)); refine blk_put (cs := #[.int .i64 x132000_3, .int .i64 x132001_3, .int .i64 x132002_3, .int .i64 x132003_3, .int .i64 x132004_3, .int .i64 x132005_3]) ?_ 0 _ rfl; (with_reducible repeat (first | refine blk_drewN ?_ _ | refine blk_drew ?_ | refine blk_alloc ?_ _)); exact BK131.out) Tryd.underlying39 rfl (by kernel_rfl)) rfl ?_
                              exact ⟨by first | rfl | (simp [errW_none, errW_some] <;> rfl) | (simp [*, errW_none, errW_some] <;> rfl), by repeat (first | (with_reducible first | exact HB.out | apply below_alloc | apply pw_below_drewN | apply below_drew1 | refine below_set ?_ GE131.out) | exact HB.out)⟩
                        · rw [if_neg c22] at H
                          exact absurd H (by simp)
                      · rw [if_neg c21] at H
                        exact absurd H (by simp)
                    · rw [if_neg c20] at H
                      have c20b0 : decide (x39_3 < (t132.length : Int)) = false := decide_eq_false c20
                      clear c20
                      by_cases c29 : 0 < (x7_3.length : Int)
                      · rw [if_pos c29] at H
                        have c29b0 : decide (0 < (x7_3.length : Int)) = true := decide_eq_true c29
                        have c29b1 : decide (0 < x7_3.length) = true := decide_eq_true (by omega)
                        clear c29
                        by_cases c30 : 1 < (x7_3.length : Int)
                        · rw [if_pos c30] at H
                          have c30b0 : decide (1 < (x7_3.length : Int)) = true := decide_eq_true c30
                          have c30b1 : decide (1 < x7_3.length) = true := decide_eq_true (by omega)
                          clear c30
                          by_cases c31 : 2 < (x7_3.length : Int)
                          · rw [if_pos c31] at H
                            have c31b0 : decide (2 < (x7_3.length : Int)) = true := decide_eq_true c31
                            have c31b1 : decide (2 < x7_3.length) = true := decide_eq_true (by omega)
                            clear c31
                            by_cases c32 : 3 < (x7_3.length : Int)
                            · rw [if_pos c32] at H
                              have c32b0 : decide (3 < (x7_3.length : Int)) = true := decide_eq_true c32
                              have c32b1 : decide (3 < x7_3.length) = true := decide_eq_true (by omega)
                              clear c32
                              by_cases c33 : x6_8 = 6
                              · rw [if_pos c33] at H
                                have c33b0 : (x6_8 == 6) = true := beq_iff_eq.mpr c33
                                have c33b1 : (x6_8 != 6) = false := bne_eq_false_iff_eq.mpr c33
                                clear c33
                                by_cases c34 : 4 < (x7_3.length : Int)
                                · rw [if_pos c34] at H
                                  have c34b0 : decide (4 < (x7_3.length : Int)) = true := decide_eq_true c34
                                  have c34b1 : decide (4 < x7_3.length) = true := decide_eq_true (by omega)
                                  clear c34
                                  simp only [Option.some.injEq, Prod.mk.injEq] at H
                                  obtain ⟨rfl, rfl, rfl, rfl, rfl, rfl, rfl⟩ := H
                                  try go_wp2
                                  have n0_ := Aside0.mk (Kd.R_drew HO_7.out)
                                  have n1_ := Aside0.mk (Kd.R_drew HO_37.out)
                                  have n2_ := Aside0.mk (blk_drew BK131.out)
                                  have n3_ := Aside0.mk (below_drew1 HB.out)
                                  clear HO_7
                                  clear HO_37
                                  clear BK131
                                  clear HB
                                  have HO_7 := n0_
                                  have HO_37 := n1_
                                  have BK131 := n2_
                                  have HB := n3_
                                  clear n0_ n1_ n2_ n3_
                                  obtain ⟨Ao36, co36, eo36⟩ := Kd.R_slice HO_7.out
                                  (first | subst eo36 | (injection eo36 with f1_ f2_ f3_; have f4_ := f1_.symm; have f5_ := f3_.symm; clear f1_ f2_ f3_; subst f4_; subst f5_))
                                  have p136 : 0 ≤ (0 : Int) := (by omega)
                                  have q136 : 0 < (x7_3.length : Int) := of_decide_eq_true (by first | (with_reducible assumption) | assumption)
                                  obtain ⟨ad136, e136, hx136_0⟩ := Kd.at_int (Kd.R_reads' HO_7.out).2.2 0 p136 q136
                                  cases e136
                                  have qi136 : (0 < x7_3.length) = True := eq_true (by omega)
                                  (try rw [show ((0 : Int)).toNat = 0 from rfl] at hx136_0)
                                  (try rw [Addr.add_zero'] at hx136_0)
                                  replace p136 := eq_true p136
                                  replace q136 := eq_true q136
                                  have p137 : 0 ≤ (1 : Int) := (by omega)
                                  have q137 : 1 < (x7_3.length : Int) := of_decide_eq_true (by first | (with_reducible assumption) | assumption)
                                  obtain ⟨ad137, e137, hx137_0⟩ := Kd.at_int (Kd.R_reads' HO_7.out).2.2 1 p137 q137
                                  obtain rfl : ad136 = ad137 := (by injection e137)
                                  (try simp only [show (1 : Int).toNat = 1 from rfl, Nat.reduceMul, Nat.reduceEqDiff, Go.Addr.add, ↓reduceIte] at hx137_0)
                                  have qi137 : (1 < x7_3.length) = True := eq_true (by omega)
                                  (try rw [show ((1 : Int)).toNat = 1 from rfl] at hx137_0)
                                  replace p137 := eq_true p137
                                  replace q137 := eq_true q137
                                  have p138 : 0 ≤ (2 : Int) := (by omega)
                                  have q138 : 2 < (x7_3.length : Int) := of_decide_eq_true (by first | (with_reducible assumption) | assumption)
                                  obtain ⟨ad138, e138, hx138_0⟩ := Kd.at_int (Kd.R_reads' HO_7.out).2.2 2 p138 q138
                                  obtain rfl : ad136 = ad138 := (by injection e138)
                                  (try simp only [show (2 : Int).toNat = 2 from rfl, Nat.reduceMul, Nat.reduceEqDiff, Go.Addr.add, ↓reduceIte] at hx138_0)
                                  have qi138 : (2 < x7_3.length) = True := eq_true (by omega)
                                  (try rw [show ((2 : Int)).toNat = 2 from rfl] at hx138_0)
                                  replace p138 := eq_true p138
                                  replace q138 := eq_true q138
                                  have p139 : 0 ≤ (3 : Int) := (by omega)
                                  have q139 : 3 < (x7_3.length : Int) := of_decide_eq_true (by first | (with_reducible assumption) | assumption)
                                  obtain ⟨ad139, e139, hx139_0⟩ := Kd.at_int (Kd.R_reads' HO_7.out).2.2 3 p139 q139
                                  obtain rfl : ad136 = ad139 := (by injection e139)
                                  (try simp only [show (3 : Int).toNat = 3 from rfl, Nat.reduceMul, Nat.reduceEqDiff, Go.Addr.add, ↓reduceIte] at hx139_0)
                                  have qi139 : (3 < x7_3.length) = True := eq_true (by omega)
                                  (try rw [show ((3 : Int)).toNat = 3 from rfl] at hx139_0)
                                  replace p139 := eq_true p139
                                  replace q139 := eq_true q139
                                  refine start_ (n := 16) (S := fun w' => w'.cell? ad136 = some (.int .i64 (rd x7_3 0)) ∧ w'.cell? ⟨ad136.block, ad136.off + 1, none⟩ = some (.int .i64 (rd x7_3 1)) ∧ w'.cell? ⟨ad136.block, ad136.off + 2, none⟩ = some (.int .i64 (rd x7_3 2)) ∧ w'.cell? ⟨ad136.block, ad136.off + 3, none⟩ = some (.int .i64 (rd x7_3 3))) (ds := []) #[false, false, false, false, false, false, false, false, false, false, false, false, false, false, false, false] (by kernel_rfl) rfl rfl ⟨hx136_0, hx137_0, hx138_0, hx139_0⟩ (fun hHeld => ?_); refine with_tabW history_parseLine.tab24 history_parseLine.bits24 (fun HT_ HW_ => ?_)
                                  generalize wr.drew = w35 at HO_7 HO_37 BK131 HB hx136_0 hx137_0 hx138_0 hx139_0 hHeld ⊢
                                  refine pure_ (i := 0) (N := some 59) (v := ?_) (a' := ?_) #[true, false, false, false, false, false, false, false, false, false, false, false, false, false, false, false] rfl rfl (any_of HT_.out (by kernel_rfl)) (fun _ _ _ h => h) (Or.inl ⟨by rfl, ?_⟩) ?_ ?_
                                  rotate_left
                                  · intro w'
                                    go_simp
                                    with_reducible rfl
                                  rotate_left
                                  · simp only [Act.put, List.setIfInBounds_toArray, List.set_cons_zero, List.set_cons_succ, i64_w, i32_w]
                                    rfl
                                  refine pure_ (i := 1) (N := some 60) (v := ?_) (a' := ?_) #[true, true, false, false, false, false, false, false, false, false, false, false, false, false, false, false] rfl rfl (any_of HT_.out (by kernel_rfl)) (fun _ _ _ h => h) (Or.inl ⟨by rfl, ?_⟩) ?_ ?_
                                  rotate_left
                                  · intro w'
                                    go_simp
                                    with_reducible rfl
                                  rotate_left
                                  · simp only [Act.put, List.setIfInBounds_toArray, List.set_cons_zero, List.set_cons_succ, i64_w, i32_w]
                                    rfl
                                  refine pure_ (i := 3) (N := some 62) (v := ?_) (a' := ?_) #[true, true, false, true, false, false, false, false, false, false, false, false, false, false, false, false] rfl rfl (any_of HT_.out (by kernel_rfl)) (fun _ _ _ h => h) (Or.inl ⟨by rfl, ?_⟩) ?_ ?_
                                  rotate_left
                                  · intro w'
                                    go_simp
                                    with_reducible rfl
                                  rotate_left
                                  · simp only [Act.put, List.setIfInBounds_toArray, List.set_cons_zero, List.set_cons_succ, i64_w, i32_w]
                                    rfl
                                  refine pure_ (i := 4) (N := some 63) (v := ?_) (a' := ?_) #[true, true, false, true, true, false, false, false, false, false, false, false, false, false, false, false] rfl rfl (any_of HT_.out (by kernel_rfl)) (fun _ _ _ h => h) (Or.inl ⟨by rfl, ?_⟩) ?_ ?_
                                  rotate_left
                                  · intro w'
                                    go_simp
                                    with_reducible rfl
                                  rotate_left
                                  · simp only [Act.put, List.setIfInBounds_toArray, List.set_cons_zero, List.set_cons_succ, i64_w, i32_w]
                                    rfl
                                  refine pure_ (i := 5) (N := some 64) (v := ?_) (a' := ?_) #[true, true, false, true, true, true, false, false, false, false, false, false, false, false, false, false] rfl rfl (any_of HT_.out (by kernel_rfl)) (fun _ _ _ h => h) (Or.inl ⟨by rfl, ?_⟩) ?_ ?_
                                  rotate_left
                                  · intro w'
                                    go_simp
                                    with_reducible rfl
                                  rotate_left
                                  · simp only [Act.put, List.setIfInBounds_toArray, List.set_cons_zero, List.set_cons_succ, i64_w, i32_w]
                                    rfl
                                  refine pure_ (i := 7) (N := some 66) (v := ?_) (a' := ?_) #[true, true, false, true, true, true, false, true, false, false, false, false, false, false, false, false] rfl rfl (any_of HT_.out (by kernel_rfl)) (fun _ _ _ h => h) (Or.inl ⟨by rfl, ?_⟩) ?_ ?_
                                  rotate_left
                                  · intro w'
                                    go_simp
                                    with_reducible rfl
                                  rotate_left
                                  · simp only [Act.put, List.setIfInBounds_toArray, List.set_cons_zero, List.set_cons_succ, i64_w, i32_w]
                                    rfl
                                  refine pure_ (i := 8) (N := some 67) (v := ?_) (a' := ?_) #[true, true, false, true, true, true, false, true, true, false, false, false, false, false, false, false] rfl rfl (any_of HT_.out (by kernel_rfl)) (fun _ _ _ h => h) (Or.inl ⟨by rfl, ?_⟩) ?_ ?_
                                  rotate_left
                                  · intro w'
                                    go_simp
                                    with_reducible rfl
                                  rotate_left
                                  · simp only [Act.put, List.setIfInBounds_toArray, List.set_cons_zero, List.set_cons_succ, i64_w, i32_w]
                                    rfl
                                  refine pure_ (i := 10) (N := some 69) (v := ?_) (a' := ?_) #[true, true, false, true, true, true, false, true, true, false, true, false, false, false, false, false] rfl rfl (any_of HT_.out (by kernel_rfl)) (fun _ _ _ h => h) (Or.inl ⟨by rfl, ?_⟩) ?_ ?_
                                  rotate_left
                                  · intro w'
                                    go_simp
                                    with_reducible rfl
                                  rotate_left
                                  · simp only [Act.put, List.setIfInBounds_toArray, List.set_cons_zero, List.set_cons_succ, i64_w, i32_w]
                                    rfl
                                  refine pure_ (i := 11) (N := some 70) (v := ?_) (a' := ?_) #[true, true, false, true, true, true, false, true, true, false, true, true, false, false, false, false] rfl rfl (any_of HT_.out (by kernel_rfl)) (fun _ _ _ h => h) (Or.inl ⟨by rfl, ?_⟩) ?_ ?_
                                  rotate_left
                                  · intro w'
                                    go_simp
                                    with_reducible rfl
                                  rotate_left
                                  · simp only [Act.put, List.setIfInBounds_toArray, List.set_cons_zero, List.set_cons_succ, i64_w, i32_w]
                                    rfl
                                  refine take_ (i := 2) (N := some 61) (v := ?_) (a' := ?_) #[true, true, true, true, true, true, false, true, true, false, true, true, false, false, false, false] rfl rfl (take_ofW HT_.out HW_.out (by kernel_rfl)) (fun _ _ _ h => h) (Or.inl ⟨by rfl, ?_⟩) hHeld ?_ ?_
                                  rotate_left
                                  · rintro w' ⟨s0, s1, s2, s3⟩
                                    go_simp
                                    with_reducible rfl
                                  rotate_left
                                  · simp only [Act.put, List.setIfInBounds_toArray, List.set_cons_zero, List.set_cons_succ, i64_w, i32_w]
                                    rfl
                                  refine take_ (i := 6) (N := some 65) (v := ?_) (a' := ?_) #[true, true, true, true, true, true, true, true, true, false, true, true, false, false, false, false] rfl rfl (take_ofW HT_.out HW_.out (by kernel_rfl)) (fun _ _ _ h => h) (Or.inl ⟨by rfl, ?_⟩) hHeld ?_ ?_
                                  rotate_left
                                  · rintro w' ⟨s0, s1, s2, s3⟩
                                    go_simp
                                    with_reducible rfl
                                  rotate_left
                                  · simp only [Act.put, List.setIfInBounds_toArray, List.set_cons_zero, List.set_cons_succ, i64_w, i32_w]
                                    rfl
                                  refine take_ (i := 9) (N := some 68) (v := ?_) (a' := ?_) #[true, true, true, true, true, true, true, true, true, true, true, true, false, false, false, false] rfl rfl (take_ofW HT_.out HW_.out (by kernel_rfl)) (fun _ _ _ h => h) (Or.inl ⟨by rfl, ?_⟩) hHeld ?_ ?_
                                  rotate_left
                                  · rintro w' ⟨s0, s1, s2, s3⟩
                                    go_simp
                                    with_reducible rfl
                                  rotate_left
                                  · simp only [Act.put, List.setIfInBounds_toArray, List.set_cons_zero, List.set_cons_succ, i64_w, i32_w]
                                    rfl
                                  refine take_ (i := 12) (N := some 71) (v := ?_) (a' := ?_) #[true, true, true, true, true, true, true, true, true, true, true, true, true, false, false, false] rfl rfl (take_ofW HT_.out HW_.out (by kernel_rfl)) (fun _ _ _ h => h) (Or.inl ⟨by rfl, ?_⟩) hHeld ?_ ?_
                                  rotate_left
                                  · rintro w' ⟨s0, s1, s2, s3⟩
                                    go_simp
                                    with_reducible rfl
                                  rotate_left
                                  · simp only [Act.put, List.setIfInBounds_toArray, List.set_cons_zero, List.set_cons_succ, i64_w, i32_w]
                                    rfl
                                  refine pure_ (i := 13) (N := some 72) (v := ?_) (a' := ?_) #[true, true, true, true, true, true, true, true, true, true, true, true, true, true, false, false] rfl rfl (any_of HT_.out (by kernel_rfl)) (fun _ _ _ h => h) (Or.inl ⟨by rfl, ?_⟩) ?_ ?_
                                  rotate_left
                                  · intro w'
                                    go_simp
                                    with_reducible rfl
                                  rotate_left
                                  · simp only [Act.put, List.setIfInBounds_toArray, List.set_cons_zero, List.set_cons_succ, i64_w, i32_w]
                                    rfl
                                  refine one_ (i := 14) (N := some 12) #[true, true, true, true, true, true, true, true, true, true, true, true, true, true, true, false] rfl rfl (one_of HT_.out (by kernel_rfl)) (by decide) (fun K hK => ?_)
                                  refine box_step ?hg (N := 12) ?hd (cs := #[.int .i64 0, .int .i64 0, .int .i64 0, .int .i64 0, .int .i64 0, .int .i64 0]) (t := 39) ?hr ?_; (case hd => rfl); (case hg => rfl); (case hr => first | (go_simp; done) | (go_simp; rfl))
                                  intro gb140 hg w37 hbox hb
                                  have HS0_ := (hb.cell (World.block_lt_of_cell? _ _ (hHeld.1))).trans (hHeld.1)
                                  have HS1_ := (hb.cell (World.block_lt_of_cell? _ _ (hHeld.2.1))).trans (hHeld.2.1)
                                  have HS2_ := (hb.cell (World.block_lt_of_cell? _ _ (hHeld.2.2.1))).trans (hHeld.2.2.1)
                                  have HS3_ := (hb.cell (World.block_lt_of_cell? _ _ (hHeld.2.2.2))).trans (hHeld.2.2.2)
                                  have n0_ := Aside0.mk (Kd.R_below (by (with_reducible repeat (first | apply Kd.R_alloc | apply Kd.R_drewN | apply Kd.R_drew)); exact HO_7.out) hb)
                                  have n1_ := Aside0.mk (Kd.R_below (by (with_reducible repeat (first | apply Kd.R_alloc | apply Kd.R_drewN | apply Kd.R_drew)); exact HO_37.out) hb)
                                  have n2_ := Aside0.mk (blk_below (g := gb131) (o := .cells #[.int .i64 x132000_3, .int .i64 x132001_3, .int .i64 x132002_3, .int .i64 x132003_3, .int .i64 x132004_3, .int .i64 x132005_3] 39 (0, 0)) (by (with_reducible repeat (first | refine blk_drewN ?_ _ | refine blk_drew ?_ | refine blk_alloc ?_ _)); exact BK131.out) hb)
                                  have n3_ := Aside0.mk (below_step (by repeat (first | (with_reducible first | exact HB.out | apply below_alloc | apply pw_below_drewN | apply below_drew1 | refine below_set ?_ GE131.out) | exact HB.out)) hb)
                                  have n4_ := Aside0.mk (hbox)
                                  have n5_ := Aside0.mk ((by rw [hg]; exact (below_size (by repeat (first | (with_reducible first | exact HB.out | apply below_alloc | apply pw_below_drewN | apply below_drew1 | refine below_set ?_ GE131.out) | exact HB.out))) : w.heap.size ≤ gb140))
                                  have n6_ := Aside0.mk ((by rw [hg]; exact (below_size (by repeat (first | (with_reducible first | exact HB.out | apply below_alloc | apply pw_below_drewN | apply below_drew1 | refine below_set ?_ GE131.out) | exact HB.out))) : w.heap.size ≤ gb140))
                                  have n7_ := Aside0.mk ((by rw [hg]; exact Nat.ne_of_lt (blk_lt (g := gb131) (o := .cells #[.int .i64 x132000_3, .int .i64 x132001_3, .int .i64 x132002_3, .int .i64 x132003_3, .int .i64 x132004_3, .int .i64 x132005_3] 39 (0, 0)) (by (with_reducible repeat (first | refine blk_drewN ?_ _ | refine blk_drew ?_ | refine blk_alloc ?_ _)); exact BK131.out)) : gb131 ≠ gb140))
                                  have n8_ := Aside0.mk ((by rw [hg]; exact Nat.ne_of_gt (blk_lt (g := gb131) (o := .cells #[.int .i64 x132000_3, .int .i64 x132001_3, .int .i64 x132002_3, .int .i64 x132003_3, .int .i64 x132004_3, .int .i64 x132005_3] 39 (0, 0)) (by (with_reducible repeat (first | refine blk_drewN ?_ _ | refine blk_drew ?_ | refine blk_alloc ?_ _)); exact BK131.out)) : gb140 ≠ gb131))
                                  clear HO_7
                                  clear HO_37
                                  clear BK131
                                  clear HB
                                  have HO_7 := n0_
                                  have HO_37 := n1_
                                  have BK131 := n2_
                                  have HB := n3_
                                  have BK140 := n4_
                                  have GW140 := n5_
                                  have GE140 := n6_
                                  have NB131_140 := n7_
                                  have NB140_131 := n8_
                                  clear n0_ n1_ n2_ n3_ n4_ n5_ n6_ n7_ n8_
                                  clear hb hbox hg
                                  refine hK.out _ _ ⟨HS0_, HS1_, HS2_, HS3_⟩ (fun hHeld => ?_)
                                  clear hK K
                                  refine norm_ (a' := ?_) ?_ ?_
                                  rotate_left
                                  · show Act.put _ (some 12) _ = _
                                    simp only [Act.put, List.setIfInBounds_toArray, List.set_cons_zero, List.set_cons_succ, i64_w, i32_w]
                                    rfl
                                  refine one_ (i := 15) (N := none) #[true, true, true, true, true, true, true, true, true, true, true, true, true, true, true, true] rfl rfl (one_of HT_.out (by kernel_rfl)) (by decide) (fun K hK => ?_)
                                  have hs38 : w37.cell? ⟨gb140, 0, none⟩ = some (.int .i64 0) := (blk_cell BK140.out 0).trans rfl
                                  have hfs38 := blk_frozen BK140.out 0
                                  have hns38_0 := NB131_140.out
                                  have hms38_0 := NB140_131.out
                                  have hs39 : w37.cell? ⟨gb140, 1, none⟩ = some (.int .i64 0) := (blk_cell BK140.out 1).trans rfl
                                  have hfs39 := blk_frozen BK140.out 1
                                  have hns39_0 := NB131_140.out
                                  have hms39_0 := NB140_131.out
                                  have hs40 : w37.cell? ⟨gb140, 2, none⟩ = some (.int .i64 0) := (blk_cell BK140.out 2).trans rfl
                                  have hfs40 := blk_frozen BK140.out 2
                                  have hns40_0 := NB131_140.out
                                  have hms40_0 := NB140_131.out
                                  have hs41 : w37.cell? ⟨gb140, 3, none⟩ = some (.int .i64 0) := (blk_cell BK140.out 3).trans rfl
                                  have hfs41 := blk_frozen BK140.out 3
                                  have hns41_0 := NB131_140.out
                                  have hms41_0 := NB140_131.out
                                  have hs42 : w37.cell? ⟨gb140, 4, none⟩ = some (.int .i64 0) := (blk_cell BK140.out 4).trans rfl
                                  have hfs42 := blk_frozen BK140.out 4
                                  have hns42_0 := NB131_140.out
                                  have hms42_0 := NB140_131.out
                                  have hs43 : w37.cell? ⟨gb140, 5, none⟩ = some (.int .i64 0) := (blk_cell BK140.out 5).trans rfl
                                  have hfs43 := blk_frozen BK140.out 5
                                  have hns43_0 := NB131_140.out
                                  have hms43_0 := NB140_131.out
                                  refine skip_ (w1 := ?_) (by rfl) rfl ?_ ?_
                                  rotate_left
                                  · go_simp
                                    rfl
                                  refine hK.out _ _ ?held_ (fun hHeld => ?_)
                                  case held_ =>
                                    clear hK
                                    have hf0_ := Kd.own_blk (Kd.R_ne HO_7.out BK140.out (by decide))
                                    refine ⟨?_, ?_, ?_, ?_⟩
                                    · refine (cell_far (p := ⟨gb140, _, none⟩) (by first | exact hf0_ | (rw [add_block]; exact hf0_) | (show (Addr.add _ _).block ≠ _; rw [add_block]; exact hf0_) | (dsimp only; exact hf0_)) _).trans ?_
                                      refine (cell_far (p := ⟨gb140, _, none⟩) (by first | exact hf0_ | (rw [add_block]; exact hf0_) | (show (Addr.add _ _).block ≠ _; rw [add_block]; exact hf0_) | (dsimp only; exact hf0_)) _).trans ?_
                                      refine (cell_far (p := ⟨gb140, _, none⟩) (by first | exact hf0_ | (rw [add_block]; exact hf0_) | (show (Addr.add _ _).block ≠ _; rw [add_block]; exact hf0_) | (dsimp only; exact hf0_)) _).trans ?_
                                      refine (cell_far (p := ⟨gb140, _, none⟩) (by first | exact hf0_ | (rw [add_block]; exact hf0_) | (show (Addr.add _ _).block ≠ _; rw [add_block]; exact hf0_) | (dsimp only; exact hf0_)) _).trans ?_
                                      refine (cell_far (p := ⟨gb140, _, none⟩) (by first | exact hf0_ | (rw [add_block]; exact hf0_) | (show (Addr.add _ _).block ≠ _; rw [add_block]; exact hf0_) | (dsimp only; exact hf0_)) _).trans ?_
                                      refine (cell_far (p := ⟨gb140, _, none⟩) (by first | exact hf0_ | (rw [add_block]; exact hf0_) | (show (Addr.add _ _).block ≠ _; rw [add_block]; exact hf0_) | (dsimp only; exact hf0_)) _).trans ?_
                                      exact hHeld.1
                                    · refine (cell_far (p := ⟨gb140, _, none⟩) (by first | exact hf0_ | (rw [add_block]; exact hf0_) | (show (Addr.add _ _).block ≠ _; rw [add_block]; exact hf0_) | (dsimp only; exact hf0_)) _).trans ?_
                                      refine (cell_far (p := ⟨gb140, _, none⟩) (by first | exact hf0_ | (rw [add_block]; exact hf0_) | (show (Addr.add _ _).block ≠ _; rw [add_block]; exact hf0_) | (dsimp only; exact hf0_)) _).trans ?_
                                      refine (cell_far (p := ⟨gb140, _, none⟩) (by first | exact hf0_ | (rw [add_block]; exact hf0_) | (show (Addr.add _ _).block ≠ _; rw [add_block]; exact hf0_) | (dsimp only; exact hf0_)) _).trans ?_
                                      refine (cell_far (p := ⟨gb140, _, none⟩) (by first | exact hf0_ | (rw [add_block]; exact hf0_) | (show (Addr.add _ _).block ≠ _; rw [add_block]; exact hf0_) | (dsimp only; exact hf0_)) _).trans ?_
                                      refine (cell_far (p := ⟨gb140, _, none⟩) (by first | exact hf0_ | (rw [add_block]; exact hf0_) | (show (Addr.add _ _).block ≠ _; rw [add_block]; exact hf0_) | (dsimp only; exact hf0_)) _).trans ?_
                                      refine (cell_far (p := ⟨gb140, _, none⟩) (by first | exact hf0_ | (rw [add_block]; exact hf0_) | (show (Addr.add _ _).block ≠ _; rw [add_block]; exact hf0_) | (dsimp only; exact hf0_)) _).trans ?_
                                      exact hHeld.2.1
                                    · refine (cell_far (p := ⟨gb140, _, none⟩) (by first | exact hf0_ | (rw [add_block]; exact hf0_) | (show (Addr.add _ _).block ≠ _; rw [add_block]; exact hf0_) | (dsimp only; exact hf0_)) _).trans ?_
                                      refine (cell_far (p := ⟨gb140, _, none⟩) (by first | exact hf0_ | (rw [add_block]; exact hf0_) | (show (Addr.add _ _).block ≠ _; rw [add_block]; exact hf0_) | (dsimp only; exact hf0_)) _).trans ?_
                                      refine (cell_far (p := ⟨gb140, _, none⟩) (by first | exact hf0_ | (rw [add_block]; exact hf0_) | (show (Addr.add _ _).block ≠ _; rw [add_block]; exact hf0_) | (dsimp only; exact hf0_)) _).trans ?_
                                      refine (cell_far (p := ⟨gb140, _, none⟩) (by first | exact hf0_ | (rw [add_block]; exact hf0_) | (show (Addr.add _ _).block ≠ _; rw [add_block]; exact hf0_) | (dsimp only; exact hf0_)) _).trans ?_
                                      refine (cell_far (p := ⟨gb140, _, none⟩) (by first | exact hf0_ | (rw [add_block]; exact hf0_) | (show (Addr.add _ _).block ≠ _; rw [add_block]; exact hf0_) | (dsimp only; exact hf0_)) _).trans ?_
                                      refine (cell_far (p := ⟨gb140, _, none⟩) (by first | exact hf0_ | (rw [add_block]; exact hf0_) | (show (Addr.add _ _).block ≠ _; rw [add_block]; exact hf0_) | (dsimp only; exact hf0_)) _).trans ?_
                                      exact hHeld.2.2.1
                                    · refine (cell_far (p := ⟨gb140, _, none⟩) (by first | exact hf0_ | (rw [add_block]; exact hf0_) | (show (Addr.add _ _).block ≠ _; rw [add_block]; exact hf0_) | (dsimp only; exact hf0_)) _).trans ?_
                                      refine (cell_far (p := ⟨gb140, _, none⟩) (by first | exact hf0_ | (rw [add_block]; exact hf0_) | (show (Addr.add _ _).block ≠ _; rw [add_block]; exact hf0_) | (dsimp only; exact hf0_)) _).trans ?_
                                      refine (cell_far (p := ⟨gb140, _, none⟩) (by first | exact hf0_ | (rw [add_block]; exact hf0_) | (show (Addr.add _ _).block ≠ _; rw [add_block]; exact hf0_) | (dsimp only; exact hf0_)) _).trans ?_
                                      refine (cell_far (p := ⟨gb140, _, none⟩) (by first | exact hf0_ | (rw [add_block]; exact hf0_) | (show (Addr.add _ _).block ≠ _; rw [add_block]; exact hf0_) | (dsimp only; exact hf0_)) _).trans ?_
                                      refine (cell_far (p := ⟨gb140, _, none⟩) (by first | exact hf0_ | (rw [add_block]; exact hf0_) | (show (Addr.add _ _).block ≠ _; rw [add_block]; exact hf0_) | (dsimp only; exact hf0_)) _).trans ?_
                                      refine (cell_far (p := ⟨gb140, _, none⟩) (by first | exact hf0_ | (rw [add_block]; exact hf0_) | (show (Addr.add _ _).block ≠ _; rw [add_block]; exact hf0_) | (dsimp only; exact hf0_)) _).trans ?_
                                      exact hHeld.2.2.2
                                  clear hK K
                                  refine done_ (done_of HT_.out (by kernel_rfl)) ?_
                                  clear hHeld
                                  have hz_ := settle6 HB.out GE140.out BK140.out (.int .i64 (rd x7_3 0)) (.int .i64 x5_8) (.int .i64 (rd x7_3 1)) (.int .i64 (rd x7_3 2)) (.int .i64 (rd x7_3 3)) (.int .i64 0)
                                  have hn7_ := Kd.R_types HO_7.out BK140.out (by decide)
                                  try clear hns38_0
                                  try clear hms38_0
                                  try clear hs39
                                  try clear hfs39
                                  try clear hns39_0
                                  try clear hms39_0
                                  try clear hs40
                                  try clear hfs40
                                  try clear hns40_0
                                  try clear hms40_0
                                  try clear hs41
                                  try clear hfs41
                                  try clear hns41_0
                                  try clear hms41_0
                                  try clear hs42
                                  try clear hfs42
                                  try clear hns42_0
                                  try clear hms42_0
                                  try clear hs43
                                  try clear hfs43
                                  try clear hns43_0
                                  try clear hms43_0
                                  generalize hwz_ : ((((((w37.setCell ⟨gb140, 0, none⟩ (.int .i64 (rd x7_3 0))).setCell ⟨gb140, 1, none⟩ (.int .i64 x5_8)).setCell ⟨gb140, 2, none⟩ (.int .i64 (rd x7_3 1))).setCell ⟨gb140, 3, none⟩ (.int .i64 (rd x7_3 2))).setCell ⟨gb140, 4, none⟩ (.int .i64 (rd x7_3 3))).setCell ⟨gb140, 5, none⟩ (.int .i64 0)) = wz at hz_ ⊢
                                  clear hwz_
                                  obtain ⟨⟨hzb, hzbel⟩, hzk⟩ := hz_
                                  replace HO_7 := Aside0.mk (Kd.R_mono (Kd.R_step (w1 := wz) hn7_ (fun k_ hk_ _ => hzk k_ hk_.2)) (fun _ hk_ => hk_.1))
                                  replace BK131 := Aside0.mk ((hzk gb131 NB131_140.out).trans BK131.out)
                                  replace BK140 := Aside0.mk hzb
                                  replace HB := Aside0.mk hzbel
                                  clear hzb hzbel hzk hn7_ HO_37
                                  try clear hx136_0
                                  try clear hx137_0
                                  try clear hx138_0
                                  try clear hx139_0
                                  try clear HS0_ HS1_ HS2_ HS3_
                                  have p141 : 0 ≤ (4 : Int) := (by omega)
                                  have q141 : 4 < (x7_3.length : Int) := of_decide_eq_true (by first | (with_reducible assumption) | assumption)
                                  obtain ⟨ad141, e141, hx141_0⟩ := Kd.at_int (Kd.R_reads' HO_7.out).2.2 4 p141 q141
                                  obtain rfl : ad136 = ad141 := (by injection e141)
                                  (try simp only [show (4 : Int).toNat = 4 from rfl, Nat.reduceMul, Nat.reduceEqDiff, Go.Addr.add, ↓reduceIte] at hx141_0)
                                  have qi141 : (4 < x7_3.length) = True := eq_true (by omega)
                                  (try rw [show ((4 : Int)).toNat = 4 from rfl] at hx141_0)
                                  replace p141 := eq_true p141
                                  replace q141 := eq_true q141
                                  have hnb44 := NB140_131.out
                                  have hnc44 := NB131_140.out
                                  have hcz45_0 : wz.cell? ⟨gb140, 0, none⟩ = some (.int .i64 (rd x7_3 0)) := (blk_cell BK140.out 0).trans rfl
                                  have hcz45_1 : wz.cell? ⟨gb140, 1, none⟩ = some (.int .i64 x5_8) := (blk_cell BK140.out 1).trans rfl
                                  have hcz45_2 : wz.cell? ⟨gb140, 2, none⟩ = some (.int .i64 (rd x7_3 1)) := (blk_cell BK140.out 2).trans rfl
                                  have hcz45_3 : wz.cell? ⟨gb140, 3, none⟩ = some (.int .i64 (rd x7_3 2)) := (blk_cell BK140.out 3).trans rfl
                                  have hcz45_4 : wz.cell? ⟨gb140, 4, none⟩ = some (.int .i64 (rd x7_3 3)) := (blk_cell BK140.out 4).trans rfl
                                  have hcz45_5 : wz.cell? ⟨gb140, 5, none⟩ = some (.int .i64 0) := (blk_cell BK140.out 5).trans rfl
                                  have hfz45_0 := blk_frozen BK140.out 0
                                  have hfz45_1 := blk_frozen BK140.out 1
                                  have hfz45_2 := blk_frozen BK140.out 2
                                  have hfz45_3 := blk_frozen BK140.out 3
                                  have hfz45_4 := blk_frozen BK140.out 4
                                  have hfz45_5 := blk_frozen BK140.out 5
                                  have hcz46_0 : wz.cell? ⟨gb131, 0, none⟩ = some (.int .i64 x132000_3) := (blk_cell BK131.out 0).trans rfl
                                  have hcz46_1 : wz.cell? ⟨gb131, 1, none⟩ = some (.int .i64 x132001_3) := (blk_cell BK131.out 1).trans rfl
                                  have hcz46_2 : wz.cell? ⟨gb131, 2, none⟩ = some (.int .i64 x132002_3) := (blk_cell BK131.out 2).trans rfl
                                  have hcz46_3 : wz.cell? ⟨gb131, 3, none⟩ = some (.int .i64 x132003_3) := (blk_cell BK131.out 3).trans rfl
                                  have hcz46_4 : wz.cell? ⟨gb131, 4, none⟩ = some (.int .i64 x132004_3) := (blk_cell BK131.out 4).trans rfl
                                  have hcz46_5 : wz.cell? ⟨gb131, 5, none⟩ = some (.int .i64 x132005_3) := (blk_cell BK131.out 5).trans rfl
                                  have hfz46_0 := blk_frozen BK131.out 0
                                  have hfz46_1 := blk_frozen BK131.out 1
                                  have hfz46_2 := blk_frozen BK131.out 2
                                  have hfz46_3 := blk_frozen BK131.out 3
                                  have hfz46_4 := blk_frozen BK131.out 4
                                  have hfz46_5 := blk_frozen BK131.out 5
                                  try go_wp2
                                  refine bodyPost_ret (results_ct rfl _ _ gb131 39 #[.int .i64 (rd x7_3 0), .int .i64 x5_8, .int .i64 (rd x7_3 1), .int .i64 (rd x7_3 2), .int .i64 (rd x7_3 3), .int .i64 (rd x7_3 4)] (0, 0) _ rfl (by (with_reducible repeat (first | refine blk_drewN ?_ _ | refine blk_drew ?_ | refine blk_alloc ?_ _)); refine blk_put (cs := #[.int .i64 (rd x7_3 0), .int .i64 x5_8, .int .i64 (rd x7_3 1), .int .i64 (rd x7_3 2), .int .i64 (rd x7_3 3), .int .i64 x132005_3]) ?_ 5 _ rfl; (with_reducible repeat (first | refine blk_drewN ?_ _ | refine blk_drew ?_ | refine blk_alloc ?_ _)); refine blk_put (cs := #[.int .i64 (rd x7_3 0), .int .i64 x5_8, .int .i64 (rd x7_3 1), .int .i64 (rd x7_3 2), .int .i64 x132004_3, .int .i64 x132005_3]) ?_ 4 _ rfl; (with_reducible repeat (first | refine blk_drewN ?_ _ | refine blk_drew ?_ | refine blk_alloc ?_ _)); refine blk_put (cs := #[.int .i64 (rd x7_3 0), .int .i64 x5_8, .int .i64 (rd x7_3 1), .int .i64 x132003_3, .int .i64 x132004_3, .int .i64 x132005_3]) ?_ 3 _ rfl; (with_reducible repeat (first | refine blk_drewN ?_ _ | refine blk_drew ?_ | refine blk_alloc ?_ _)); refine blk_put (cs := #[.int .i64 (rd x7_3 0), .int .i64 x5_8, .int .i64 x132002_3, .int .i64 x132003_3, .int .i64 x132004_3, .int .i64 x132005_3]) ?_ 2 _ rfl; (with_reducible repeat (first | refine blk_drewN ?_ _ | refine blk_drew ?_ | refine blk_alloc ?_ _)); refine blk_put (cs := #[.int .i64 (rd x7_3 0), .int .i64 x132001_3, .int .i64 x132002_3, .int .i64 x132003_3, .int .i64 x132004_3, .int .i64 x132005_3]) ?_ 1 _ rfl; (with_reducible repeat (first | refine blk_drewN ?_ _ | refine blk_drew ?_ | refine blk_alloc ?_ _)); refine blk_put (cs := #[.int .i64 x132000_3, .int .i64 x132001_3, .int .i64 x132002_3, .int .i64 x132003_3, .int .i64 x132004_3, .int .i64 x132005_3]) ?_ 0 _ rfl; (with_reducible repeat (first | refine blk_drewN ?_ _ | refine blk_drew ?_ | refine blk_alloc ?_ _)); refine blk_far ?_ NB131_140.out _; (with_reducible repeat (first | refine blk_drewN ?_ _ | refine blk_drew ?_ | refine blk_alloc ?_ _)); exact BK131.out) Tryd.underlying39 rfl (by kernel_rfl)) rfl ?_
                                  exact ⟨by first | rfl | (simp [errW_none, errW_some] <;> rfl) | (simp [*, errW_none, errW_some] <;> rfl), by repeat (first | (with_reducible first | exact HB.out | apply below_alloc | apply pw_below_drewN | apply below_drew1 | refine below_set ?_ GE131.out | refine below_set ?_ GE140.out) | exact HB.out)⟩
                                · rw [if_neg c34] at H
                                  exact absurd H (by simp)
                              · rw [if_neg c33] at H
                                have c33b0 : (x6_8 == 6) = false := beq_eq_false_iff_ne.mpr c33
                                have c33b1 : (x6_8 != 6) = true := bne_iff_ne.mpr c33
                                simp only [Option.some.injEq, Prod.mk.injEq] at H
                                obtain ⟨rfl, rfl, rfl, rfl, rfl, rfl, rfl⟩ := H
                                try go_wp2
                                have n0_ := Aside0.mk (Kd.R_drew HO_7.out)
                                have n1_ := Aside0.mk (Kd.R_drew HO_37.out)
                                have n2_ := Aside0.mk (blk_drew BK131.out)
                                have n3_ := Aside0.mk (below_drew1 HB.out)
                                clear HO_7
                                clear HO_37
                                clear BK131
                                clear HB
                                have HO_7 := n0_
                                have HO_37 := n1_
                                have BK131 := n2_
                                have HB := n3_
                                clear n0_ n1_ n2_ n3_
                                obtain ⟨Ao48, co48, eo48⟩ := Kd.R_slice HO_7.out
                                (first | subst eo48 | (injection eo48 with f1_ f2_ f3_; have f4_ := f1_.symm; have f5_ := f3_.symm; clear f1_ f2_ f3_; subst f4_; subst f5_))
                                have p136 : 0 ≤ (0 : Int) := (by omega)
                                have q136 : 0 < (x7_3.length : Int) := of_decide_eq_true (by first | (with_reducible assumption) | assumption)
                                obtain ⟨ad136, e136, hx136_0⟩ := Kd.at_int (Kd.R_reads' HO_7.out).2.2 0 p136 q136
                                cases e136
                                have qi136 : (0 < x7_3.length) = True := eq_true (by omega)
                                (try rw [show ((0 : Int)).toNat = 0 from rfl] at hx136_0)
                                (try rw [Addr.add_zero'] at hx136_0)
                                replace p136 := eq_true p136
                                replace q136 := eq_true q136
                                have p137 : 0 ≤ (1 : Int) := (by omega)
                                have q137 : 1 < (x7_3.length : Int) := of_decide_eq_true (by first | (with_reducible assumption) | assumption)
                                obtain ⟨ad137, e137, hx137_0⟩ := Kd.at_int (Kd.R_reads' HO_7.out).2.2 1 p137 q137
                                obtain rfl : ad136 = ad137 := (by injection e137)
                                (try simp only [show (1 : Int).toNat = 1 from rfl, Nat.reduceMul, Nat.reduceEqDiff, Go.Addr.add, ↓reduceIte] at hx137_0)
                                have qi137 : (1 < x7_3.length) = True := eq_true (by omega)
                                (try rw [show ((1 : Int)).toNat = 1 from rfl] at hx137_0)
                                replace p137 := eq_true p137
                                replace q137 := eq_true q137
                                have p138 : 0 ≤ (2 : Int) := (by omega)
                                have q138 : 2 < (x7_3.length : Int) := of_decide_eq_true (by first | (with_reducible assumption) | assumption)
                                obtain ⟨ad138, e138, hx138_0⟩ := Kd.at_int (Kd.R_reads' HO_7.out).2.2 2 p138 q138
                                obtain rfl : ad136 = ad138 := (by injection e138)
                                (try simp only [show (2 : Int).toNat = 2 from rfl, Nat.reduceMul, Nat.reduceEqDiff, Go.Addr.add, ↓reduceIte] at hx138_0)
                                have qi138 : (2 < x7_3.length) = True := eq_true (by omega)
                                (try rw [show ((2 : Int)).toNat = 2 from rfl] at hx138_0)
                                replace p138 := eq_true p138
                                replace q138 := eq_true q138
                                have p139 : 0 ≤ (3 : Int) := (by omega)
                                have q139 : 3 < (x7_3.length : Int) := of_decide_eq_true (by first | (with_reducible assumption) | assumption)
                                obtain ⟨ad139, e139, hx139_0⟩ := Kd.at_int (Kd.R_reads' HO_7.out).2.2 3 p139 q139
                                obtain rfl : ad136 = ad139 := (by injection e139)
                                (try simp only [show (3 : Int).toNat = 3 from rfl, Nat.reduceMul, Nat.reduceEqDiff, Go.Addr.add, ↓reduceIte] at hx139_0)
                                have qi139 : (3 < x7_3.length) = True := eq_true (by omega)
                                (try rw [show ((3 : Int)).toNat = 3 from rfl] at hx139_0)
                                replace p139 := eq_true p139
                                replace q139 := eq_true q139
                                refine start_ (n := 16) (S := fun w' => w'.cell? ad136 = some (.int .i64 (rd x7_3 0)) ∧ w'.cell? ⟨ad136.block, ad136.off + 1, none⟩ = some (.int .i64 (rd x7_3 1)) ∧ w'.cell? ⟨ad136.block, ad136.off + 2, none⟩ = some (.int .i64 (rd x7_3 2)) ∧ w'.cell? ⟨ad136.block, ad136.off + 3, none⟩ = some (.int .i64 (rd x7_3 3))) (ds := []) #[false, false, false, false, false, false, false, false, false, false, false, false, false, false, false, false] (by kernel_rfl) rfl rfl ⟨hx136_0, hx137_0, hx138_0, hx139_0⟩ (fun hHeld => ?_); refine with_tabW history_parseLine.tab24 history_parseLine.bits24 (fun HT_ HW_ => ?_)
                                generalize wr.drew = w47 at HO_7 HO_37 BK131 HB hx136_0 hx137_0 hx138_0 hx139_0 hHeld ⊢
                                refine pure_ (i := 0) (N := some 59) (v := ?_) (a' := ?_) #[true, false, false, false, false, false, false, false, false, false, false, false, false, false, false, false] rfl rfl (any_of HT_.out (by kernel_rfl)) (fun _ _ _ h => h) (Or.inl ⟨by rfl, ?_⟩) ?_ ?_
                                rotate_left
                                · intro w'
                                  go_simp
                                  with_reducible rfl
                                rotate_left
                                · simp only [Act.put, List.setIfInBounds_toArray, List.set_cons_zero, List.set_cons_succ, i64_w, i32_w]
                                  rfl
                                refine pure_ (i := 1) (N := some 60) (v := ?_) (a' := ?_) #[true, true, false, false, false, false, false, false, false, false, false, false, false, false, false, false] rfl rfl (any_of HT_.out (by kernel_rfl)) (fun _ _ _ h => h) (Or.inl ⟨by rfl, ?_⟩) ?_ ?_
                                rotate_left
                                · intro w'
                                  go_simp
                                  with_reducible rfl
                                rotate_left
                                · simp only [Act.put, List.setIfInBounds_toArray, List.set_cons_zero, List.set_cons_succ, i64_w, i32_w]
                                  rfl
                                refine pure_ (i := 3) (N := some 62) (v := ?_) (a' := ?_) #[true, true, false, true, false, false, false, false, false, false, false, false, false, false, false, false] rfl rfl (any_of HT_.out (by kernel_rfl)) (fun _ _ _ h => h) (Or.inl ⟨by rfl, ?_⟩) ?_ ?_
                                rotate_left
                                · intro w'
                                  go_simp
                                  with_reducible rfl
                                rotate_left
                                · simp only [Act.put, List.setIfInBounds_toArray, List.set_cons_zero, List.set_cons_succ, i64_w, i32_w]
                                  rfl
                                refine pure_ (i := 4) (N := some 63) (v := ?_) (a' := ?_) #[true, true, false, true, true, false, false, false, false, false, false, false, false, false, false, false] rfl rfl (any_of HT_.out (by kernel_rfl)) (fun _ _ _ h => h) (Or.inl ⟨by rfl, ?_⟩) ?_ ?_
                                rotate_left
                                · intro w'
                                  go_simp
                                  with_reducible rfl
                                rotate_left
                                · simp only [Act.put, List.setIfInBounds_toArray, List.set_cons_zero, List.set_cons_succ, i64_w, i32_w]
                                  rfl
                                refine pure_ (i := 5) (N := some 64) (v := ?_) (a' := ?_) #[true, true, false, true, true, true, false, false, false, false, false, false, false, false, false, false] rfl rfl (any_of HT_.out (by kernel_rfl)) (fun _ _ _ h => h) (Or.inl ⟨by rfl, ?_⟩) ?_ ?_
                                rotate_left
                                · intro w'
                                  go_simp
                                  with_reducible rfl
                                rotate_left
                                · simp only [Act.put, List.setIfInBounds_toArray, List.set_cons_zero, List.set_cons_succ, i64_w, i32_w]
                                  rfl
                                refine pure_ (i := 7) (N := some 66) (v := ?_) (a' := ?_) #[true, true, false, true, true, true, false, true, false, false, false, false, false, false, false, false] rfl rfl (any_of HT_.out (by kernel_rfl)) (fun _ _ _ h => h) (Or.inl ⟨by rfl, ?_⟩) ?_ ?_
                                rotate_left
                                · intro w'
                                  go_simp
                                  with_reducible rfl
                                rotate_left
                                · simp only [Act.put, List.setIfInBounds_toArray, List.set_cons_zero, List.set_cons_succ, i64_w, i32_w]
                                  rfl
                                refine pure_ (i := 8) (N := some 67) (v := ?_) (a' := ?_) #[true, true, false, true, true, true, false, true, true, false, false, false, false, false, false, false] rfl rfl (any_of HT_.out (by kernel_rfl)) (fun _ _ _ h => h) (Or.inl ⟨by rfl, ?_⟩) ?_ ?_
                                rotate_left
                                · intro w'
                                  go_simp
                                  with_reducible rfl
                                rotate_left
                                · simp only [Act.put, List.setIfInBounds_toArray, List.set_cons_zero, List.set_cons_succ, i64_w, i32_w]
                                  rfl
                                refine pure_ (i := 10) (N := some 69) (v := ?_) (a' := ?_) #[true, true, false, true, true, true, false, true, true, false, true, false, false, false, false, false] rfl rfl (any_of HT_.out (by kernel_rfl)) (fun _ _ _ h => h) (Or.inl ⟨by rfl, ?_⟩) ?_ ?_
                                rotate_left
                                · intro w'
                                  go_simp
                                  with_reducible rfl
                                rotate_left
                                · simp only [Act.put, List.setIfInBounds_toArray, List.set_cons_zero, List.set_cons_succ, i64_w, i32_w]
                                  rfl
                                refine pure_ (i := 11) (N := some 70) (v := ?_) (a' := ?_) #[true, true, false, true, true, true, false, true, true, false, true, true, false, false, false, false] rfl rfl (any_of HT_.out (by kernel_rfl)) (fun _ _ _ h => h) (Or.inl ⟨by rfl, ?_⟩) ?_ ?_
                                rotate_left
                                · intro w'
                                  go_simp
                                  with_reducible rfl
                                rotate_left
                                · simp only [Act.put, List.setIfInBounds_toArray, List.set_cons_zero, List.set_cons_succ, i64_w, i32_w]
                                  rfl
                                refine take_ (i := 2) (N := some 61) (v := ?_) (a' := ?_) #[true, true, true, true, true, true, false, true, true, false, true, true, false, false, false, false] rfl rfl (take_ofW HT_.out HW_.out (by kernel_rfl)) (fun _ _ _ h => h) (Or.inl ⟨by rfl, ?_⟩) hHeld ?_ ?_
                                rotate_left
                                · rintro w' ⟨s0, s1, s2, s3⟩
                                  go_simp
                                  with_reducible rfl
                                rotate_left
                                · simp only [Act.put, List.setIfInBounds_toArray, List.set_cons_zero, List.set_cons_succ, i64_w, i32_w]
                                  rfl
                                refine take_ (i := 6) (N := some 65) (v := ?_) (a' := ?_) #[true, true, true, true, true, true, true, true, true, false, true, true, false, false, false, false] rfl rfl (take_ofW HT_.out HW_.out (by kernel_rfl)) (fun _ _ _ h => h) (Or.inl ⟨by rfl, ?_⟩) hHeld ?_ ?_
                                rotate_left
                                · rintro w' ⟨s0, s1, s2, s3⟩
                                  go_simp
                                  with_reducible rfl
                                rotate_left
                                · simp only [Act.put, List.setIfInBounds_toArray, List.set_cons_zero, List.set_cons_succ, i64_w, i32_w]
                                  rfl
                                refine take_ (i := 9) (N := some 68) (v := ?_) (a' := ?_) #[true, true, true, true, true, true, true, true, true, true, true, true, false, false, false, false] rfl rfl (take_ofW HT_.out HW_.out (by kernel_rfl)) (fun _ _ _ h => h) (Or.inl ⟨by rfl, ?_⟩) hHeld ?_ ?_
                                rotate_left
                                · rintro w' ⟨s0, s1, s2, s3⟩
                                  go_simp
                                  with_reducible rfl
                                rotate_left
                                · simp only [Act.put, List.setIfInBounds_toArray, List.set_cons_zero, List.set_cons_succ, i64_w, i32_w]
                                  rfl
                                refine take_ (i := 12) (N := some 71) (v := ?_) (a' := ?_) #[true, true, true, true, true, true, true, true, true, true, true, true, true, false, false, false] rfl rfl (take_ofW HT_.out HW_.out (by kernel_rfl)) (fun _ _ _ h => h) (Or.inl ⟨by rfl, ?_⟩) hHeld ?_ ?_
                                rotate_left
                                · rintro w' ⟨s0, s1, s2, s3⟩
                                  go_simp
                                  with_reducible rfl
                                rotate_left
                                · simp only [Act.put, List.setIfInBounds_toArray, List.set_cons_zero, List.set_cons_succ, i64_w, i32_w]
                                  rfl
                                refine pure_ (i := 13) (N := some 72) (v := ?_) (a' := ?_) #[true, true, true, true, true, true, true, true, true, true, true, true, true, true, false, false] rfl rfl (any_of HT_.out (by kernel_rfl)) (fun _ _ _ h => h) (Or.inl ⟨by rfl, ?_⟩) ?_ ?_
                                rotate_left
                                · intro w'
                                  go_simp
                                  with_reducible rfl
                                rotate_left
                                · simp only [Act.put, List.setIfInBounds_toArray, List.set_cons_zero, List.set_cons_succ, i64_w, i32_w]
                                  rfl
                                refine one_ (i := 14) (N := some 12) #[true, true, true, true, true, true, true, true, true, true, true, true, true, true, true, false] rfl rfl (one_of HT_.out (by kernel_rfl)) (by decide) (fun K hK => ?_)
                                refine box_step ?hg (N := 12) ?hd (cs := #[.int .i64 0, .int .i64 0, .int .i64 0, .int .i64 0, .int .i64 0, .int .i64 0]) (t := 39) ?hr ?_; (case hd => rfl); (case hg => rfl); (case hr => first | (go_simp; done) | (go_simp; rfl))
                                intro gb140 hg w49 hbox hb
                                have HS0_ := (hb.cell (World.block_lt_of_cell? _ _ (hHeld.1))).trans (hHeld.1)
                                have HS1_ := (hb.cell (World.block_lt_of_cell? _ _ (hHeld.2.1))).trans (hHeld.2.1)
                                have HS2_ := (hb.cell (World.block_lt_of_cell? _ _ (hHeld.2.2.1))).trans (hHeld.2.2.1)
                                have HS3_ := (hb.cell (World.block_lt_of_cell? _ _ (hHeld.2.2.2))).trans (hHeld.2.2.2)
                                have n0_ := Aside0.mk (Kd.R_below (by (with_reducible repeat (first | apply Kd.R_alloc | apply Kd.R_drewN | apply Kd.R_drew)); exact HO_7.out) hb)
                                have n1_ := Aside0.mk (Kd.R_below (by (with_reducible repeat (first | apply Kd.R_alloc | apply Kd.R_drewN | apply Kd.R_drew)); exact HO_37.out) hb)
                                have n2_ := Aside0.mk (blk_below (g := gb131) (o := .cells #[.int .i64 x132000_3, .int .i64 x132001_3, .int .i64 x132002_3, .int .i64 x132003_3, .int .i64 x132004_3, .int .i64 x132005_3] 39 (0, 0)) (by (with_reducible repeat (first | refine blk_drewN ?_ _ | refine blk_drew ?_ | refine blk_alloc ?_ _)); exact BK131.out) hb)
                                have n3_ := Aside0.mk (below_step (by repeat (first | (with_reducible first | exact HB.out | apply below_alloc | apply pw_below_drewN | apply below_drew1 | refine below_set ?_ GE131.out) | exact HB.out)) hb)
                                have n4_ := Aside0.mk (hbox)
                                have n5_ := Aside0.mk ((by rw [hg]; exact (below_size (by repeat (first | (with_reducible first | exact HB.out | apply below_alloc | apply pw_below_drewN | apply below_drew1 | refine below_set ?_ GE131.out) | exact HB.out))) : w.heap.size ≤ gb140))
                                have n6_ := Aside0.mk ((by rw [hg]; exact (below_size (by repeat (first | (with_reducible first | exact HB.out | apply below_alloc | apply pw_below_drewN | apply below_drew1 | refine below_set ?_ GE131.out) | exact HB.out))) : w.heap.size ≤ gb140))
                                have n7_ := Aside0.mk ((by rw [hg]; exact Nat.ne_of_lt (blk_lt (g := gb131) (o := .cells #[.int .i64 x132000_3, .int .i64 x132001_3, .int .i64 x132002_3, .int .i64 x132003_3, .int .i64 x132004_3, .int .i64 x132005_3] 39 (0, 0)) (by (with_reducible repeat (first | refine blk_drewN ?_ _ | refine blk_drew ?_ | refine blk_alloc ?_ _)); exact BK131.out)) : gb131 ≠ gb140))
                                have n8_ := Aside0.mk ((by rw [hg]; exact Nat.ne_of_gt (blk_lt (g := gb131) (o := .cells #[.int .i64 x132000_3, .int .i64 x132001_3, .int .i64 x132002_3, .int .i64 x132003_3, .int .i64 x132004_3, .int .i64 x132005_3] 39 (0, 0)) (by (with_reducible repeat (first | refine blk_drewN ?_ _ | refine blk_drew ?_ | refine blk_alloc ?_ _)); exact BK131.out)) : gb140 ≠ gb131))
                                clear HO_7
                                clear HO_37
                                clear BK131
                                clear HB
                                have HO_7 := n0_
                                have HO_37 := n1_
                                have BK131 := n2_
                                have HB := n3_
                                have BK140 := n4_
                                have GW140 := n5_
                                have GE140 := n6_
                                have NB131_140 := n7_
                                have NB140_131 := n8_
                                clear n0_ n1_ n2_ n3_ n4_ n5_ n6_ n7_ n8_
                                clear hb hbox hg
                                refine hK.out _ _ ⟨HS0_, HS1_, HS2_, HS3_⟩ (fun hHeld => ?_)
                                clear hK K
                                refine norm_ (a' := ?_) ?_ ?_
                                rotate_left
                                · show Act.put _ (some 12) _ = _
                                  simp only [Act.put, List.setIfInBounds_toArray, List.set_cons_zero, List.set_cons_succ, i64_w, i32_w]
                                  rfl
                                refine one_ (i := 15) (N := none) #[true, true, true, true, true, true, true, true, true, true, true, true, true, true, true, true] rfl rfl (one_of HT_.out (by kernel_rfl)) (by decide) (fun K hK => ?_)
                                have hs50 : w49.cell? ⟨gb140, 0, none⟩ = some (.int .i64 0) := (blk_cell BK140.out 0).trans rfl
                                have hfs50 := blk_frozen BK140.out 0
                                have hns50_0 := NB131_140.out
                                have hms50_0 := NB140_131.out
                                have hs51 : w49.cell? ⟨gb140, 1, none⟩ = some (.int .i64 0) := (blk_cell BK140.out 1).trans rfl
                                have hfs51 := blk_frozen BK140.out 1
                                have hns51_0 := NB131_140.out
                                have hms51_0 := NB140_131.out
                                have hs52 : w49.cell? ⟨gb140, 2, none⟩ = some (.int .i64 0) := (blk_cell BK140.out 2).trans rfl
                                have hfs52 := blk_frozen BK140.out 2
                                have hns52_0 := NB131_140.out
                                have hms52_0 := NB140_131.out
                                have hs53 : w49.cell? ⟨gb140, 3, none⟩ = some (.int .i64 0) := (blk_cell BK140.out 3).trans rfl
                                have hfs53 := blk_frozen BK140.out 3
                                have hns53_0 := NB131_140.out
                                have hms53_0 := NB140_131.out
                                have hs54 : w49.cell? ⟨gb140, 4, none⟩ = some (.int .i64 0) := (blk_cell BK140.out 4).trans rfl
                                have hfs54 := blk_frozen BK140.out 4
                                have hns54_0 := NB131_140.out
                                have hms54_0 := NB140_131.out
                                have hs55 : w49.cell? ⟨gb140, 5, none⟩ = some (.int .i64 0) := (blk_cell BK140.out 5).trans rfl
                                have hfs55 := blk_frozen BK140.out 5
                                have hns55_0 := NB131_140.out
                                have hms55_0 := NB140_131.out
                                refine skip_ (w1 := ?_) (by rfl) rfl ?_ ?_
                                rotate_left
                                · go_simp
                                  rfl
                                refine hK.out _ _ ?held_ (fun hHeld => ?_)
                                case held_ =>
                                  clear hK
                                  have hf0_ := Kd.own_blk (Kd.R_ne HO_7.out BK140.out (by decide))
                                  refine ⟨?_, ?_, ?_, ?_⟩
                                  · refine (cell_far (p := ⟨gb140, _, none⟩) (by first | exact hf0_ | (rw [add_block]; exact hf0_) | (show (Addr.add _ _).block ≠ _; rw [add_block]; exact hf0_) | (dsimp only; exact hf0_)) _).trans ?_
                                    refine (cell_far (p := ⟨gb140, _, none⟩) (by first | exact hf0_ | (rw [add_block]; exact hf0_) | (show (Addr.add _ _).block ≠ _; rw [add_block]; exact hf0_) | (dsimp only; exact hf0_)) _).trans ?_
                                    refine (cell_far (p := ⟨gb140, _, none⟩) (by first | exact hf0_ | (rw [add_block]; exact hf0_) | (show (Addr.add _ _).block ≠ _; rw [add_block]; exact hf0_) | (dsimp only; exact hf0_)) _).trans ?_
                                    refine (cell_far (p := ⟨gb140, _, none⟩) (by first | exact hf0_ | (rw [add_block]; exact hf0_) | (show (Addr.add _ _).block ≠ _; rw [add_block]; exact hf0_) | (dsimp only; exact hf0_)) _).trans ?_
                                    refine (cell_far (p := ⟨gb140, _, none⟩) (by first | exact hf0_ | (rw [add_block]; exact hf0_) | (show (Addr.add _ _).block ≠ _; rw [add_block]; exact hf0_) | (dsimp only; exact hf0_)) _).trans ?_
                                    refine (cell_far (p := ⟨gb140, _, none⟩) (by first | exact hf0_ | (rw [add_block]; exact hf0_) | (show (Addr.add _ _).block ≠ _; rw [add_block]; exact hf0_) | (dsimp only; exact hf0_)) _).trans ?_
                                    exact hHeld.1
                                  · refine (cell_far (p := ⟨gb140, _, none⟩) (by first | exact hf0_ | (rw [add_block]; exact hf0_) | (show (Addr.add _ _).block ≠ _; rw [add_block]; exact hf0_) | (dsimp only; exact hf0_)) _).trans ?_
                                    refine (cell_far (p := ⟨gb140, _, none⟩) (by first | exact hf0_ | (rw [add_block]; exact hf0_) | (show (Addr.add _ _).block ≠ _; rw [add_block]; exact hf0_) | (dsimp only; exact hf0_)) _).trans ?_
                                    refine (cell_far (p := ⟨gb140, _, none⟩) (by first | exact hf0_ | (rw [add_block]; exact hf0_) | (show (Addr.add _ _).block ≠ _; rw [add_block]; exact hf0_) | (dsimp only; exact hf0_)) _).trans ?_
                                    refine (cell_far (p := ⟨gb140, _, none⟩) (by first | exact hf0_ | (rw [add_block]; exact hf0_) | (show (Addr.add _ _).block ≠ _; rw [add_block]; exact hf0_) | (dsimp only; exact hf0_)) _).trans ?_
                                    refine (cell_far (p := ⟨gb140, _, none⟩) (by first | exact hf0_ | (rw [add_block]; exact hf0_) | (show (Addr.add _ _).block ≠ _; rw [add_block]; exact hf0_) | (dsimp only; exact hf0_)) _).trans ?_
                                    refine (cell_far (p := ⟨gb140, _, none⟩) (by first | exact hf0_ | (rw [add_block]; exact hf0_) | (show (Addr.add _ _).block ≠ _; rw [add_block]; exact hf0_) | (dsimp only; exact hf0_)) _).trans ?_
                                    exact hHeld.2.1
                                  · refine (cell_far (p := ⟨gb140, _, none⟩) (by first | exact hf0_ | (rw [add_block]; exact hf0_) | (show (Addr.add _ _).block ≠ _; rw [add_block]; exact hf0_) | (dsimp only; exact hf0_)) _).trans ?_
                                    refine (cell_far (p := ⟨gb140, _, none⟩) (by first | exact hf0_ | (rw [add_block]; exact hf0_) | (show (Addr.add _ _).block ≠ _; rw [add_block]; exact hf0_) | (dsimp only; exact hf0_)) _).trans ?_
                                    refine (cell_far (p := ⟨gb140, _, none⟩) (by first | exact hf0_ | (rw [add_block]; exact hf0_) | (show (Addr.add _ _).block ≠ _; rw [add_block]; exact hf0_) | (dsimp only; exact hf0_)) _).trans ?_
                                    refine (cell_far (p := ⟨gb140, _, none⟩) (by first | exact hf0_ | (rw [add_block]; exact hf0_) | (show (Addr.add _ _).block ≠ _; rw [add_block]; exact hf0_) | (dsimp only; exact hf0_)) _).trans ?_
                                    refine (cell_far (p := ⟨gb140, _, none⟩) (by first | exact hf0_ | (rw [add_block]; exact hf0_) | (show (Addr.add _ _).block ≠ _; rw [add_block]; exact hf0_) | (dsimp only; exact hf0_)) _).trans ?_
                                    refine (cell_far (p := ⟨gb140, _, none⟩) (by first | exact hf0_ | (rw [add_block]; exact hf0_) | (show (Addr.add _ _).block ≠ _; rw [add_block]; exact hf0_) | (dsimp only; exact hf0_)) _).trans ?_
                                    exact hHeld.2.2.1
                                  · refine (cell_far (p := ⟨gb140, _, none⟩) (by first | exact hf0_ | (rw [add_block]; exact hf0_) | (show (Addr.add _ _).block ≠ _; rw [add_block]; exact hf0_) | (dsimp only; exact hf0_)) _).trans ?_
                                    refine (cell_far (p := ⟨gb140, _, none⟩) (by first | exact hf0_ | (rw [add_block]; exact hf0_) | (show (Addr.add _ _).block ≠ _; rw [add_block]; exact hf0_) | (dsimp only; exact hf0_)) _).trans ?_
                                    refine (cell_far (p := ⟨gb140, _, none⟩) (by first | exact hf0_ | (rw [add_block]; exact hf0_) | (show (Addr.add _ _).block ≠ _; rw [add_block]; exact hf0_) | (dsimp only; exact hf0_)) _).trans ?_
                                    refine (cell_far (p := ⟨gb140, _, none⟩) (by first | exact hf0_ | (rw [add_block]; exact hf0_) | (show (Addr.add _ _).block ≠ _; rw [add_block]; exact hf0_) | (dsimp only; exact hf0_)) _).trans ?_
                                    refine (cell_far (p := ⟨gb140, _, none⟩) (by first | exact hf0_ | (rw [add_block]; exact hf0_) | (show (Addr.add _ _).block ≠ _; rw [add_block]; exact hf0_) | (dsimp only; exact hf0_)) _).trans ?_
                                    refine (cell_far (p := ⟨gb140, _, none⟩) (by first | exact hf0_ | (rw [add_block]; exact hf0_) | (show (Addr.add _ _).block ≠ _; rw [add_block]; exact hf0_) | (dsimp only; exact hf0_)) _).trans ?_
                                    exact hHeld.2.2.2
                                clear hK K
                                refine done_ (done_of HT_.out (by kernel_rfl)) ?_
                                clear hHeld
                                have hz_ := settle6 HB.out GE140.out BK140.out (.int .i64 (rd x7_3 0)) (.int .i64 x5_8) (.int .i64 (rd x7_3 1)) (.int .i64 (rd x7_3 2)) (.int .i64 (rd x7_3 3)) (.int .i64 0)
                                have hn7_ := Kd.R_types HO_7.out BK140.out (by decide)
                                try clear hns50_0
                                try clear hms50_0
                                try clear hs51
                                try clear hfs51
                                try clear hns51_0
                                try clear hms51_0
                                try clear hs52
                                try clear hfs52
                                try clear hns52_0
                                try clear hms52_0
                                try clear hs53
                                try clear hfs53
                                try clear hns53_0
                                try clear hms53_0
                                try clear hs54
                                try clear hfs54
                                try clear hns54_0
                                try clear hms54_0
                                try clear hs55
                                try clear hfs55
                                try clear hns55_0
                                try clear hms55_0
                                generalize hwz_ : ((((((w49.setCell ⟨gb140, 0, none⟩ (.int .i64 (rd x7_3 0))).setCell ⟨gb140, 1, none⟩ (.int .i64 x5_8)).setCell ⟨gb140, 2, none⟩ (.int .i64 (rd x7_3 1))).setCell ⟨gb140, 3, none⟩ (.int .i64 (rd x7_3 2))).setCell ⟨gb140, 4, none⟩ (.int .i64 (rd x7_3 3))).setCell ⟨gb140, 5, none⟩ (.int .i64 0)) = wz at hz_ ⊢
                                clear hwz_
                                obtain ⟨⟨hzb, hzbel⟩, hzk⟩ := hz_
                                replace HO_7 := Aside0.mk (Kd.R_mono (Kd.R_step (w1 := wz) hn7_ (fun k_ hk_ _ => hzk k_ hk_.2)) (fun _ hk_ => hk_.1))
                                replace BK131 := Aside0.mk ((hzk gb131 NB131_140.out).trans BK131.out)
                                replace BK140 := Aside0.mk hzb
                                replace HB := Aside0.mk hzbel
                                clear hzb hzbel hzk hn7_ HO_37
                                try clear hx136_0
                                try clear hx137_0
                                try clear hx138_0
                                try clear hx139_0
                                try clear HS0_ HS1_ HS2_ HS3_
                                have hnb56 := NB140_131.out
                                have hnc56 := NB131_140.out
                                have hcz57_0 : wz.cell? ⟨gb140, 0, none⟩ = some (.int .i64 (rd x7_3 0)) := (blk_cell BK140.out 0).trans rfl
                                have hcz57_1 : wz.cell? ⟨gb140, 1, none⟩ = some (.int .i64 x5_8) := (blk_cell BK140.out 1).trans rfl
                                have hcz57_2 : wz.cell? ⟨gb140, 2, none⟩ = some (.int .i64 (rd x7_3 1)) := (blk_cell BK140.out 2).trans rfl
                                have hcz57_3 : wz.cell? ⟨gb140, 3, none⟩ = some (.int .i64 (rd x7_3 2)) := (blk_cell BK140.out 3).trans rfl
                                have hcz57_4 : wz.cell? ⟨gb140, 4, none⟩ = some (.int .i64 (rd x7_3 3)) := (blk_cell BK140.out 4).trans rfl
                                have hcz57_5 : wz.cell? ⟨gb140, 5, none⟩ = some (.int .i64 0) := (blk_cell BK140.out 5).trans rfl
                                have hfz57_0 := blk_frozen BK140.out 0
                                have hfz57_1 := blk_frozen BK140.out 1
                                have hfz57_2 := blk_frozen BK140.out 2
                                have hfz57_3 := blk_frozen BK140.out 3
                                have hfz57_4 := blk_frozen BK140.out 4
                                have hfz57_5 := blk_frozen BK140.out 5
                                have hcz58_0 : wz.cell? ⟨gb131, 0, none⟩ = some (.int .i64 x132000_3) := (blk_cell BK131.out 0).trans rfl
                                have hcz58_1 : wz.cell? ⟨gb131, 1, none⟩ = some (.int .i64 x132001_3) := (blk_cell BK131.out 1).trans rfl
                                have hcz58_2 : wz.cell? ⟨gb131, 2, none⟩ = some (.int .i64 x132002_3) := (blk_cell BK131.out 2).trans rfl
                                have hcz58_3 : wz.cell? ⟨gb131, 3, none⟩ = some (.int .i64 x132003_3) := (blk_cell BK131.out 3).trans rfl
                                have hcz58_4 : wz.cell? ⟨gb131, 4, none⟩ = some (.int .i64 x132004_3) := (blk_cell BK131.out 4).trans rfl
                                have hcz58_5 : wz.cell? ⟨gb131, 5, none⟩ = some (.int .i64 x132005_3) := (blk_cell BK131.out 5).trans rfl
                                have hfz58_0 := blk_frozen BK131.out 0
                                have hfz58_1 := blk_frozen BK131.out 1
                                have hfz58_2 := blk_frozen BK131.out 2
                                have hfz58_3 := blk_frozen BK131.out 3
                                have hfz58_4 := blk_frozen BK131.out 4
                                have hfz58_5 := blk_frozen BK131.out 5
                                try go_wp2
                                refine bodyPost_ret (results_ct rfl _ _ gb131 39 #[.int .i64 (rd x7_3 0), .int .i64 x5_8, .int .i64 (rd x7_3 1), .int .i64 (rd x7_3 2), .int .i64 (rd x7_3 3), .int .i64 0] (0, 0) _ rfl (by (with_reducible repeat (first | refine blk_drewN ?_ _ | refine blk_drew ?_ | refine blk_alloc ?_ _)); refine blk_put (cs := #[.int .i64 (rd x7_3 0), .int .i64 x5_8, .int .i64 (rd x7_3 1), .int .i64 (rd x7_3 2), .int .i64 (rd x7_3 3), .int .i64 x132005_3]) ?_ 5 _ rfl; (with_reducible repeat (first | refine blk_drewN ?_ _ | refine blk_drew ?_ | refine blk_alloc ?_ _)); refine blk_put (cs := #[.int .i64 (rd x7_3 0), .int .i64 x5_8, .int .i64 (rd x7_3 1), .int .i64 (rd x7_3 2), .int .i64 x132004_3, .int .i64 x132005_3]) ?_ 4 _ rfl; (with_reducible repeat (first | refine blk_drewN ?_ _ | refine blk_drew ?_ | refine blk_alloc ?_ _)); refine blk_put (cs := #[.int .i64 (rd x7_3 0), .int .i64 x5_8, .int .i64 (rd x7_3 1), .int .i64 x132003_3, .int .i64 x132004_3, .int .i64 x132005_3]) ?_ 3 _ rfl; (with_reducible repeat (first | refine blk_drewN ?_ _ | refine blk_drew ?_ | refine blk_alloc ?_ _)); refine blk_put (cs := #[.int .i64 (rd x7_3 0), .int .i64 x5_8, .int .i64 x132002_3, .int .i64 x132003_3, .int .i64 x132004_3, .int .i64 x132005_3]) ?_ 2 _ rfl; (with_reducible repeat (first | refine blk_drewN ?_ _ | refine blk_drew ?_ | refine blk_alloc ?_ _)); refine blk_put (cs := #[.int .i64 (rd x7_3 0), .int .i64 x132001_3, .int .i64 x132002_3, .int .i64 x132003_3, .int .i64 x132004_3, .int .i64 x132005_3]) ?_ 1 _ rfl; (with_reducible repeat (first | refine blk_drewN ?_ _ | refine blk_drew ?_ | refine blk_alloc ?_ _)); refine blk_put (cs := #[.int .i64 x132000_3, .int .i64 x132001_3, .int .i64 x132002_3, .int .i64 x132003_3, .int .i64 x132004_3, .int .i64 x132005_3]) ?_ 0 _ rfl; (with_reducible repeat (first | refine blk_drewN ?_ _ | refine blk_drew ?_ | refine blk_alloc ?_ _)); exact BK131.out) Tryd.underlying39 rfl (by kernel_rfl)) rfl ?_
                                exact ⟨by first | rfl | (simp [errW_none, errW_some] <;> rfl) | (simp [*, errW_none, errW_some] <;> rfl), by repeat (first | (with_reducible first | exact HB.out | apply below_alloc | apply pw_below_drewN | apply below_drew1 | refine below_set ?_ GE131.out | refine below_set ?_ GE140.out) | exact HB.out)⟩
                            · rw [if_neg c32] at H
                              exact absurd H (by simp)
                          · rw [if_neg c31] at H
                            exact absurd H (by simp)
                        · rw [if_neg c30] at H
                          exact absurd H (by simp)
                      · rw [if_neg c29] at H
                        exact absurd H (by simp)
    · rw [if_neg c8] at H
      exact absurd H (by simp)



end Go.Proofs.YtcehmgmhlmbhnaaDoor.Pr
