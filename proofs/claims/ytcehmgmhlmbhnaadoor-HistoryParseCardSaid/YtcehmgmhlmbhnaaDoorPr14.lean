-- Written by a program of this session (wip/tools/drive.py over the kit's print.py) out of the translation.
import Derived.Test.YtcehmgmhlmbhnaaDoorPr0
import Derived.Test.YtcehmgmhlmbhnaaDoorPr13
namespace Go.Proofs.YtcehmgmhlmbhnaaDoor.Pr
open Go.RowKit Go.Proofs.YtcehmgmhlmbhnaaDoorW.PrintWords Go.Proofs.YtcehmgmhlmbhnaaDoorW.PrintLast Go.Proofs.YtcehmgmhlmbhnaaDoorW.PrintMore
attribute [local go_sem] max2_int min2_int max_two min_two max_three min_three max_four min_four   -- for this text's walks alone
set_option linter.unusedVariables false
set_option linter.unusedSimpArgs false

/-! ### insolvencyref25_line: function 38 -/
mutual
def insolvencyref25_line.l0 : Nat → List Int → Int → Int → Int → Int → Int → Int → Int → Option (ByteArray × Bool)
  | 0, _, _, _, _, _, _, _, _ => none
  | k + 1, x4, x5, x170000, x170001, x170002, x170003, x170004, x170005 => if x5 < (x4.length : Int) then (if 0 ≤ x5 then (if (rd x4 x5) < 0 then (some ((⟨#[]⟩ : ByteArray), false)) else (if (rd x4 x5) > 999999999999999999 then (some ((⟨#[]⟩ : ByteArray), false)) else (insolvencyref25_line.l0 k x4 (wrap64 (x5 + 1)) x170000 x170001 x170002 x170003 x170004 x170005))) else (none)) else (if x170001 = 1 then (insolvencyref25_line.j1 k x4 (⟨#[112, 97, 121, 109, 101, 110, 116]⟩ : ByteArray) x170000 x170001 x170002 x170003 x170004 x170005) else (if x170001 = 2 then (insolvencyref25_line.j1 k x4 (⟨#[115, 117, 112, 112, 108, 121]⟩ : ByteArray) x170000 x170001 x170002 x170003 x170004 x170005) else (if x170001 = 3 then (insolvencyref25_line.j1 k x4 (⟨#[116, 114, 97, 110, 115, 102, 101, 114]⟩ : ByteArray) x170000 x170001 x170002 x170003 x170004 x170005) else (insolvencyref25_line.j1 k x4 (⟨#[]⟩ : ByteArray) x170000 x170001 x170002 x170003 x170004 x170005))))
def insolvencyref25_line.j1 : Nat → List Int → ByteArray → Int → Int → Int → Int → Int → Int → Option (ByteArray × Bool)
  | 0, _, _, _, _, _, _, _, _ => none
  | k + 1, x4, x6, x170000, x170001, x170002, x170003, x170004, x170005 => if x6.toList = ([] : List UInt8) then (insolvencyref25_line.j2 k x4 x6 true x170000 x170001 x170002 x170003 x170004 x170005) else (if x170001 = 3 then (insolvencyref25_line.j2 k x4 x6 false x170000 x170001 x170002 x170003 x170004 x170005) else (insolvencyref25_line.j2 k x4 x6 (x170005 != 0) x170000 x170001 x170002 x170003 x170004 x170005))
def insolvencyref25_line.j2 : Nat → List Int → ByteArray → Bool → Int → Int → Int → Int → Int → Int → Option (ByteArray × Bool)
  | 0, _, _, _, _, _, _, _, _, _ => none
  | k + 1, x4, x6, x56, x170000, x170001, x170002, x170003, x170004, x170005 => if x56 = true then (some ((⟨#[]⟩ : ByteArray), false)) else (if 0 < (x4.length : Int) then ((insolvencyref25_digits.f k (rd x4 0)).bind fun t176 => (if t176.size + 1 ≤ 9223372036854775807 then (if (t176 ++ (⟨#[32]⟩ : ByteArray)).size + x6.size ≤ 9223372036854775807 then (if ((t176 ++ (⟨#[32]⟩ : ByteArray)) ++ x6).size + 1 ≤ 9223372036854775807 then (if 1 < (x4.length : Int) then ((insolvencyref25_digits.f k (rd x4 1)).bind fun t178 => (if (((t176 ++ (⟨#[32]⟩ : ByteArray)) ++ x6) ++ (⟨#[32]⟩ : ByteArray)).size + t178.size ≤ 9223372036854775807 then (if ((((t176 ++ (⟨#[32]⟩ : ByteArray)) ++ x6) ++ (⟨#[32]⟩ : ByteArray)) ++ t178).size + 1 ≤ 9223372036854775807 then (if 2 < (x4.length : Int) then ((insolvencyref25_digits.f k (rd x4 2)).bind fun t180 => (if (((((t176 ++ (⟨#[32]⟩ : ByteArray)) ++ x6) ++ (⟨#[32]⟩ : ByteArray)) ++ t178) ++ (⟨#[32]⟩ : ByteArray)).size + t180.size ≤ 9223372036854775807 then (if ((((((t176 ++ (⟨#[32]⟩ : ByteArray)) ++ x6) ++ (⟨#[32]⟩ : ByteArray)) ++ t178) ++ (⟨#[32]⟩ : ByteArray)) ++ t180).size + 1 ≤ 9223372036854775807 then (if 3 < (x4.length : Int) then ((insolvencyref25_digits.f k (rd x4 3)).bind fun t182 => (if (((((((t176 ++ (⟨#[32]⟩ : ByteArray)) ++ x6) ++ (⟨#[32]⟩ : ByteArray)) ++ t178) ++ (⟨#[32]⟩ : ByteArray)) ++ t180) ++ (⟨#[32]⟩ : ByteArray)).size + t182.size ≤ 9223372036854775807 then (if x170001 = 3 then (if ((((((((t176 ++ (⟨#[32]⟩ : ByteArray)) ++ x6) ++ (⟨#[32]⟩ : ByteArray)) ++ t178) ++ (⟨#[32]⟩ : ByteArray)) ++ t180) ++ (⟨#[32]⟩ : ByteArray)) ++ t182).size + 1 ≤ 9223372036854775807 then (if 4 < (x4.length : Int) then ((insolvencyref25_digits.f k (rd x4 4)).bind fun t184 => (if (((((((((t176 ++ (⟨#[32]⟩ : ByteArray)) ++ x6) ++ (⟨#[32]⟩ : ByteArray)) ++ t178) ++ (⟨#[32]⟩ : ByteArray)) ++ t180) ++ (⟨#[32]⟩ : ByteArray)) ++ t182) ++ (⟨#[32]⟩ : ByteArray)).size + t184.size ≤ 9223372036854775807 then (if ((((((((((t176 ++ (⟨#[32]⟩ : ByteArray)) ++ x6) ++ (⟨#[32]⟩ : ByteArray)) ++ t178) ++ (⟨#[32]⟩ : ByteArray)) ++ t180) ++ (⟨#[32]⟩ : ByteArray)) ++ t182) ++ (⟨#[32]⟩ : ByteArray)) ++ t184).size + 1 ≤ 9223372036854775807 then (some (((((((((((t176 ++ (⟨#[32]⟩ : ByteArray)) ++ x6) ++ (⟨#[32]⟩ : ByteArray)) ++ t178) ++ (⟨#[32]⟩ : ByteArray)) ++ t180) ++ (⟨#[32]⟩ : ByteArray)) ++ t182) ++ (⟨#[32]⟩ : ByteArray)) ++ t184) ++ (⟨#[10]⟩ : ByteArray), true)) else (none)) else (none))) else (none)) else (none)) else (if ((((((((t176 ++ (⟨#[32]⟩ : ByteArray)) ++ x6) ++ (⟨#[32]⟩ : ByteArray)) ++ t178) ++ (⟨#[32]⟩ : ByteArray)) ++ t180) ++ (⟨#[32]⟩ : ByteArray)) ++ t182).size + 1 ≤ 9223372036854775807 then (some (((((((((t176 ++ (⟨#[32]⟩ : ByteArray)) ++ x6) ++ (⟨#[32]⟩ : ByteArray)) ++ t178) ++ (⟨#[32]⟩ : ByteArray)) ++ t180) ++ (⟨#[32]⟩ : ByteArray)) ++ t182) ++ (⟨#[10]⟩ : ByteArray), true)) else (none))) else (none))) else (none)) else (none)) else (none))) else (none)) else (none)) else (none))) else (none)) else (none)) else (none)) else (none))) else (none))
end
def insolvencyref25_line.f (k : Nat) (a0_0 : Int) (a0_1 : Int) (a0_2 : Int) (a0_3 : Int) (a0_4 : Int) (a0_5 : Int) : Option (ByteArray × Bool) := insolvencyref25_line.l0 k (([a0_0, a0_2, a0_3, a0_4, a0_5] : List Int)) 0 a0_0 a0_1 a0_2 a0_3 a0_4 a0_5
theorem insolvencyref25_line.mono_l : ∀ k, (∀ y0 y1 y2 y3 y4 y5 y6 y7, LeO (insolvencyref25_line.l0 k y0 y1 y2 y3 y4 y5 y6 y7) (insolvencyref25_line.l0 (k + 1) y0 y1 y2 y3 y4 y5 y6 y7)) ∧ (∀ y0 y1 y2 y3 y4 y5 y6 y7, LeO (insolvencyref25_line.j1 k y0 y1 y2 y3 y4 y5 y6 y7) (insolvencyref25_line.j1 (k + 1) y0 y1 y2 y3 y4 y5 y6 y7)) ∧ (∀ y0 y1 y2 y3 y4 y5 y6 y7 y8, LeO (insolvencyref25_line.j2 k y0 y1 y2 y3 y4 y5 y6 y7 y8) (insolvencyref25_line.j2 (k + 1) y0 y1 y2 y3 y4 y5 y6 y7 y8))
  | 0 => ⟨fun _ _ _ _ _ _ _ _ r h => by simp [insolvencyref25_line.l0] at h, fun _ _ _ _ _ _ _ _ r h => by simp [insolvencyref25_line.j1] at h, fun _ _ _ _ _ _ _ _ _ r h => by simp [insolvencyref25_line.j2] at h⟩
  | k + 1 => by
    obtain ⟨ih0, ih1, ih2⟩ := insolvencyref25_line.mono_l k
    refine ⟨?_, ?_, ?_⟩
    · intro y0 y1 y2 y3 y4 y5 y6 y7
      unfold insolvencyref25_line.l0
      repeat' first
      | (with_reducible exact ih0 _ _ _ _ _ _ _ _)
      | (with_reducible exact ih1 _ _ _ _ _ _ _ _)
      | (with_reducible exact ih2 _ _ _ _ _ _ _ _ _)
      | (with_reducible exact insolvencyref25_digits.mono _ _)
      | (with_reducible exact LeO.refl _)
      | (with_reducible exact LeO.none _)
      | (with_reducible refine LeO.ite ?_ ?_)
      | (with_reducible refine LeO.bind ?_ (fun _ => ?_))
      | exact ih0 _ _ _ _ _ _ _ _
      | exact ih1 _ _ _ _ _ _ _ _
      | exact ih2 _ _ _ _ _ _ _ _ _
      | exact insolvencyref25_digits.mono _ _
      | exact LeO.none _
      | refine LeO.ite ?_ ?_
      | refine LeO.bind ?_ (fun _ => ?_)
    · intro y0 y1 y2 y3 y4 y5 y6 y7
      unfold insolvencyref25_line.j1
      repeat' first
      | (with_reducible exact ih0 _ _ _ _ _ _ _ _)
      | (with_reducible exact ih1 _ _ _ _ _ _ _ _)
      | (with_reducible exact ih2 _ _ _ _ _ _ _ _ _)
      | (with_reducible exact insolvencyref25_digits.mono _ _)
      | (with_reducible exact LeO.refl _)
      | (with_reducible exact LeO.none _)
      | (with_reducible refine LeO.ite ?_ ?_)
      | (with_reducible refine LeO.bind ?_ (fun _ => ?_))
      | exact ih0 _ _ _ _ _ _ _ _
      | exact ih1 _ _ _ _ _ _ _ _
      | exact ih2 _ _ _ _ _ _ _ _ _
      | exact insolvencyref25_digits.mono _ _
      | exact LeO.none _
      | refine LeO.ite ?_ ?_
      | refine LeO.bind ?_ (fun _ => ?_)
    · intro y0 y1 y2 y3 y4 y5 y6 y7 y8
      unfold insolvencyref25_line.j2
      repeat' first
      | (with_reducible exact ih0 _ _ _ _ _ _ _ _)
      | (with_reducible exact ih1 _ _ _ _ _ _ _ _)
      | (with_reducible exact ih2 _ _ _ _ _ _ _ _ _)
      | (with_reducible exact insolvencyref25_digits.mono _ _)
      | (with_reducible exact LeO.refl _)
      | (with_reducible exact LeO.none _)
      | (with_reducible refine LeO.ite ?_ ?_)
      | (with_reducible refine LeO.bind ?_ (fun _ => ?_))
      | exact ih0 _ _ _ _ _ _ _ _
      | exact ih1 _ _ _ _ _ _ _ _
      | exact ih2 _ _ _ _ _ _ _ _ _
      | exact insolvencyref25_digits.mono _ _
      | exact LeO.none _
      | refine LeO.ite ?_ ?_
      | refine LeO.bind ?_ (fun _ => ?_)
theorem insolvencyref25_line.mono : ∀ a0 a1 a2 a3 a4 a5 k, LeO (insolvencyref25_line.f k a0 a1 a2 a3 a4 a5) (insolvencyref25_line.f (k + 1) a0 a1 a2 a3 a4 a5) := by
  intro a0 a1 a2 a3 a4 a5 k
  obtain ⟨ih0, ih1, ih2⟩ := insolvencyref25_line.mono_l k
  unfold insolvencyref25_line.f
  repeat' first
      | (with_reducible exact ih0 _ _ _ _ _ _ _ _)
      | (with_reducible exact ih1 _ _ _ _ _ _ _ _)
      | (with_reducible exact ih2 _ _ _ _ _ _ _ _ _)
      | (with_reducible exact insolvencyref25_digits.mono _ _)
      | (with_reducible exact LeO.refl _)
      | (with_reducible exact LeO.none _)
      | (with_reducible refine LeO.ite ?_ ?_)
      | (with_reducible refine LeO.bind ?_ (fun _ => ?_))
      | exact ih0 _ _ _ _ _ _ _ _
      | exact ih1 _ _ _ _ _ _ _ _
      | exact ih2 _ _ _ _ _ _ _ _ _
      | exact insolvencyref25_digits.mono _ _
      | exact LeO.none _
      | refine LeO.ite ?_ ?_
      | refine LeO.bind ?_ (fun _ => ?_)
def insolvencyref25_line.T17 : Bool × List (List Nat × List Nat) := (true, [([], []), ([0], [0]), ([1], [1]), ([2], [2]), ([3], [3]), ([], []), ([4, 5], [4, 5]), ([6], [6]), ([], []), ([8], [8]), ([9], [9]), ([10, 3], [10]), ([7, 11], [7, 11]), ([12], [12]), ([], []), ([14], [14]), ([15], [15]), ([16, 11], [16]), ([13, 17], [13, 17]), ([18], [18]), ([], []), ([20], [20]), ([21], [21]), ([22, 17], [22]), ([19, 23], [19, 23]), ([24, 23, 0, 1, 2, 3, 4, 5, 6, 7, 8, 9, 10, 11, 12, 13, 14, 15, 16, 17, 18, 19, 20, 21, 22, 23, 24], [24])])
def insolvencyref25_line.B17 : List Nat := [0, 1, 3, 7, 15, 0, 63, 127, 0, 256, 768, 1807, 4095, 8191, 0, 16384, 49152, 118543, 262143, 524287, 0, 1048576, 3145728, 7589647, 16777215, 33554431]
theorem insolvencyref25_line.tab17 : rtab .any (opsOf Tryd.f38 17) = insolvencyref25_line.T17 := by kernel_rfl
theorem insolvencyref25_line.bits17 : waitsOk insolvencyref25_line.T17.2 insolvencyref25_line.B17 = true := by kernel_rfl
set_option maxHeartbeats 8000000 in
set_option maxRecDepth 100000 in
theorem insolvencyref25_line.calls (k : Nat) (a0_0 : Int) (a0_1 : Int) (a0_2 : Int) (a0_3 : Int) (a0_4 : Int) (a0_5 : Int) (r1 : ByteArray) (r2 : Bool) (w : World) (h : insolvencyref25_line.f k a0_0 a0_1 a0_2 a0_3 a0_4 a0_5 = some (r1, r2)) :
    Calls Tryd.prog 38 #[.agg #[.int .i64 a0_0, .int .i64 a0_1, .int .i64 a0_2, .int .i64 a0_3, .int .i64 a0_4, .int .i64 a0_5]] w fun e w' => e = .returned (.tuple #[.string r1, .bool r2]) ∧ Below w.heap.size w w' := by
  have hu39 := Tryd.underlying39
  have HB := Aside0.mk (Below.refl w.heap.size w)
  have H : (insolvencyref25_line.l0 k (([a0_0, a0_2, a0_3, a0_4, a0_5] : List Int)) 0 a0_0 a0_1 a0_2 a0_3 a0_4 a0_5) = some (r1, r2) := h
  clear h
  obtain ⟨y170, hy170⟩ : ∃ y_ : List Int, y_ = (([a0_0, a0_2, a0_3, a0_4, a0_5] : List Int)) := ⟨_, rfl⟩
  replace H : (insolvencyref25_line.l0 k y170 0 a0_0 a0_1 a0_2 a0_3 a0_4 a0_5) = some (r1, r2) := by first | (rw [hy170]; with_reducible exact H) | (have H2_ := (Option.bind_some _ _).symm.trans H; rw [hy170]; with_reducible exact H2_) | (have H2_ := (Option.bind_some _ _).symm.trans H; with_reducible exact H2_) | with_reducible exact H | (rw [hy170]; exact H) | exact H
  have Ny170 := Aside0.mk hy170
  clear hy170
  have H' := Aside0.mk H
  clear H
  go_enter Tryd.func38, Tryd.ntmps38
  go_wp2_with (first | ((with_reducible refine gate_dst (N := 1) rfl ?_); refine box_event ?hg (N := 1) ?hd (cs := #[.int .i64 a0_0, .int .i64 a0_1, .int .i64 a0_2, .int .i64 a0_3, .int .i64 a0_4, .int .i64 a0_5]) (t := 39) ?hr ?_; (case hd => rfl); (case hg => rfl); (case hr => first | (go_simp; done) | (go_simp; rfl)); intro gb169 hg w2 hbox hb; have n0_ := Aside0.mk (below_step (by repeat (first | (with_reducible first | exact HB.out | apply below_alloc | apply pw_below_drewN | apply below_drew1) | exact HB.out)) hb); have n1_ := Aside0.mk (hbox); have n2_ := Aside0.mk ((by rw [hg]; exact (below_size (by repeat (first | (with_reducible first | exact HB.out | apply below_alloc | apply pw_below_drewN | apply below_drew1) | exact HB.out))) : w.heap.size ≤ gb169)); have n3_ := Aside0.mk ((by rw [hg]; exact (below_size (by repeat (first | (with_reducible first | exact HB.out | apply below_alloc | apply pw_below_drewN | apply below_drew1) | exact HB.out))) : w.heap.size ≤ gb169)); clear HB; have HB := n0_; have BK169 := n1_; have GW169 := n2_; have GE169 := n3_; clear n0_ n1_ n2_ n3_; clear hb hbox hg; have hcz3_0 : w2.cell? ⟨gb169, 0, none⟩ = some (.int .i64 a0_0) := (blk_cell BK169.out 0).trans rfl; have hcz3_1 : w2.cell? ⟨gb169, 1, none⟩ = some (.int .i64 a0_1) := (blk_cell BK169.out 1).trans rfl; have hcz3_2 : w2.cell? ⟨gb169, 2, none⟩ = some (.int .i64 a0_2) := (blk_cell BK169.out 2).trans rfl; have hcz3_3 : w2.cell? ⟨gb169, 3, none⟩ = some (.int .i64 a0_3) := (blk_cell BK169.out 3).trans rfl; have hcz3_4 : w2.cell? ⟨gb169, 4, none⟩ = some (.int .i64 a0_4) := (blk_cell BK169.out 4).trans rfl; have hcz3_5 : w2.cell? ⟨gb169, 5, none⟩ = some (.int .i64 a0_5) := (blk_cell BK169.out 5).trans rfl; have hfz3_0 := blk_frozen BK169.out 0; have hfz3_1 := blk_frozen BK169.out 1; have hfz3_2 := blk_frozen BK169.out 2; have hfz3_3 := blk_frozen BK169.out 3; have hfz3_4 := blk_frozen BK169.out 4; have hfz3_5 := blk_frozen BK169.out 5) | ((with_reducible refine gate_dst (N := 18) rfl ?_); refine Kd.R_lit (Kd.int .i64) _ 2 ?hg (N := 18) ?hd (xs := ([a0_0, a0_2, a0_3, a0_4, a0_5] : List Int)) (inner := [.int .i64 a0_0, .int .i64 a0_2, .int .i64 a0_3, .int .i64 a0_4, .int .i64 a0_5]) (ok := fun _ => True) (okp := fun _ => True) ?hr ?hp (fun _ hk => hk) trivial (Below.refl _ _) (Nat.le_refl _) (by simp) ?_; (case hd => rfl); (case hg => rfl); (case hr => first | (go_simp; done) | (go_simp; rfl)); (case hp => exact (Reps.one (show Kd.M (Kd.int .i64) _ _ _ a0_0 [.int .i64 a0_0] from rfl) (Reps.one (show Kd.M (Kd.int .i64) _ _ _ a0_2 [.int .i64 a0_2] from rfl) (Reps.one (show Kd.M (Kd.int .i64) _ _ _ a0_3 [.int .i64 a0_3] from rfl) (Reps.one (show Kd.M (Kd.int .i64) _ _ _ a0_4 [.int .i64 a0_4] from rfl) (Reps.one (show Kd.M (Kd.int .i64) _ _ _ a0_5 [.int .i64 a0_5] from rfl) (Reps.none _ _))))))); intro v171 w4 ho5 hb hg_ hnew_; clear hg_ hnew_; (first | rw [← Ny170.out] at ho5 | (simp only [Int.reduceToNat] at ho5; rw [← Ny170.out] at ho5)); have n0_ := Aside0.mk (Kd.R_lower ho5 (below_size (by repeat (first | (with_reducible first | exact HB.out | apply below_alloc | apply pw_below_drewN | apply below_drew1 | refine below_set ?_ GE169.out) | exact HB.out)))); have n1_ := Aside0.mk (blk_below (g := gb169) (o := .cells #[.int .i64 a0_0, .int .i64 a0_1, .int .i64 a0_2, .int .i64 a0_3, .int .i64 a0_4, .int .i64 a0_5] 39 (0, 0)) (by (with_reducible repeat (first | refine blk_drewN ?_ _ | refine blk_drew ?_ | refine blk_alloc ?_ _)); exact BK169.out) hb); have n2_ := Aside0.mk (below_step (by repeat (first | (with_reducible first | exact HB.out | apply below_alloc | apply pw_below_drewN | apply below_drew1 | refine below_set ?_ GE169.out) | exact HB.out)) hb); clear BK169; clear HB; have HO172 := n0_; have BK169 := n1_; have HB := n2_; clear n0_ n1_ n2_; clear hb ho5))
  go_loopg [5] k (fun kq v5 w' => ∃ (x5_1 : Int), v5 = .int .i64 x5_1 ∧ Aside0 (insolvencyref25_line.l0 kq y170 x5_1 a0_0 a0_1 a0_2 a0_3 a0_4 a0_5 = some (r1, r2)) ∧ Aside0 (kq ≤ k) ∧ Aside0 (Kd.R (Kd.int .i64) 2 w' w.heap.size (fun _ => True) v171 y170) ∧ Aside0 (w'.heap[gb169]? = some (.cells #[.int .i64 a0_0, .int .i64 a0_1, .int .i64 a0_2, .int .i64 a0_3, .int .i64 a0_4, .int .i64 a0_5] 39 (0, 0))) ∧ Aside0 (Below w.heap.size w w'))
  case atStart => exact ⟨(0), (by first | rfl | (simp; done) | (simp [*]; done)), H', ⟨Nat.le_refl _⟩, ⟨by (with_reducible repeat (first | apply Kd.R_alloc | apply Kd.R_drewN | apply Kd.R_drew)); exact HO172.out⟩, ⟨by (with_reducible repeat (first | refine blk_drewN ?_ _ | refine blk_drew ?_ | refine blk_alloc ?_ _)); exact BK169.out⟩, ⟨by repeat (first | (with_reducible first | exact HB.out | apply below_alloc | apply pw_below_drewN | apply below_drew1 | refine below_set ?_ GE169.out) | exact HB.out)⟩⟩
  case round =>
    clear H'
    try clear p2
    try clear c3
    try clear hcz3_0
    try clear hcz3_1
    try clear hcz3_2
    try clear hcz3_3
    try clear hcz3_4
    try clear hcz3_5
    try clear hfz3_0
    try clear hfz3_1
    try clear hfz3_2
    try clear hfz3_3
    try clear hfz3_4
    try clear hfz3_5
    obtain ⟨x5_1, rfl, HA, HK1, HO_4, BK169, HB⟩ := hrel
    cases gk with
    | zero => exact absurd HA.out (by simp [insolvencyref25_line.l0])
    | succ k1 =>
      have H := HA.out
      clear HA
      simp only [insolvencyref25_line.l0] at H
      by_cases c6 : x5_1 < (y170.length : Int)
      · rw [if_pos c6] at H
        have c6b0 : decide (x5_1 < (y170.length : Int)) = true := decide_eq_true c6
        clear c6
        by_cases c7 : 0 ≤ x5_1
        · rw [if_pos c7] at H
          have c7b0 : decide (0 ≤ x5_1) = true := decide_eq_true c7
          clear c7
          by_cases c8 : (rd y170 x5_1) < 0
          · rw [if_pos c8] at H
            have c8b0 : decide ((rd y170 x5_1) < 0) = true := decide_eq_true c8
            clear c8
            simp only [Option.some.injEq, Prod.mk.injEq] at H
            obtain ⟨rfl, rfl⟩ := H
            obtain ⟨Ao9, co9, eo9⟩ := Kd.R_slice HO_4.out
            subst eo9
            have p173 : 0 ≤ (x5_1 : Int) := of_decide_eq_true (by first | (with_reducible assumption) | assumption)
            have q173 : x5_1 < (y170.length : Int) := of_decide_eq_true (by first | (with_reducible assumption) | assumption)
            obtain ⟨ad173, e173, hx173_0⟩ := Kd.at_int (Kd.R_reads' HO_4.out).2.2 x5_1 p173 q173
            cases e173
            replace p173 := eq_true p173
            replace q173 := eq_true q173
            go_wp2
            go_ret2
            exact ⟨by first | rfl | (simp [errW_none, errW_some] <;> rfl) | (simp [*, errW_none, errW_some] <;> rfl), by repeat (first | (with_reducible first | exact HB.out | apply below_alloc | apply pw_below_drewN | apply below_drew1 | refine below_set ?_ GE169.out) | exact HB.out)⟩
          · rw [if_neg c8] at H
            have c8b0 : decide ((rd y170 x5_1) < 0) = false := decide_eq_false c8
            clear c8
            by_cases c10 : (rd y170 x5_1) > 999999999999999999
            · rw [if_pos c10] at H
              have c10b0 : decide (999999999999999999 < (rd y170 x5_1)) = true := decide_eq_true c10
              clear c10
              simp only [Option.some.injEq, Prod.mk.injEq] at H
              obtain ⟨rfl, rfl⟩ := H
              obtain ⟨Ao11, co11, eo11⟩ := Kd.R_slice HO_4.out
              subst eo11
              have p173 : 0 ≤ (x5_1 : Int) := of_decide_eq_true (by first | (with_reducible assumption) | assumption)
              have q173 : x5_1 < (y170.length : Int) := of_decide_eq_true (by first | (with_reducible assumption) | assumption)
              obtain ⟨ad173, e173, hx173_0⟩ := Kd.at_int (Kd.R_reads' HO_4.out).2.2 x5_1 p173 q173
              cases e173
              replace p173 := eq_true p173
              replace q173 := eq_true q173
              have p174 : 0 ≤ (x5_1 : Int) := of_decide_eq_true (by first | (with_reducible assumption) | assumption)
              have q174 : x5_1 < (y170.length : Int) := of_decide_eq_true (by first | (with_reducible assumption) | assumption)
              obtain ⟨ad174, e174, hx174_0⟩ := Kd.at_int (Kd.R_reads' HO_4.out).2.2 x5_1 p174 q174
              obtain rfl : ad173 = ad174 := (by injection e174)
              replace p174 := eq_true p174
              replace q174 := eq_true q174
              go_wp2
              go_ret2
              exact ⟨by first | rfl | (simp [errW_none, errW_some] <;> rfl) | (simp [*, errW_none, errW_some] <;> rfl), by repeat (first | (with_reducible first | exact HB.out | apply below_alloc | apply pw_below_drewN | apply below_drew1 | refine below_set ?_ GE169.out) | exact HB.out)⟩
            · rw [if_neg c10] at H
              have c10b0 : decide (999999999999999999 < (rd y170 x5_1)) = false := decide_eq_false c10
              clear c10
              have H' := Aside0.mk H
              clear H
              obtain ⟨Ao12, co12, eo12⟩ := Kd.R_slice HO_4.out
              subst eo12
              have p173 : 0 ≤ (x5_1 : Int) := of_decide_eq_true (by first | (with_reducible assumption) | assumption)
              have q173 : x5_1 < (y170.length : Int) := of_decide_eq_true (by first | (with_reducible assumption) | assumption)
              obtain ⟨ad173, e173, hx173_0⟩ := Kd.at_int (Kd.R_reads' HO_4.out).2.2 x5_1 p173 q173
              cases e173
              replace p173 := eq_true p173
              replace q173 := eq_true q173
              have p174 : 0 ≤ (x5_1 : Int) := of_decide_eq_true (by first | (with_reducible assumption) | assumption)
              have q174 : x5_1 < (y170.length : Int) := of_decide_eq_true (by first | (with_reducible assumption) | assumption)
              obtain ⟨ad174, e174, hx174_0⟩ := Kd.at_int (Kd.R_reads' HO_4.out).2.2 x5_1 p174 q174
              obtain rfl : ad173 = ad174 := (by injection e174)
              replace p174 := eq_true p174
              replace q174 := eq_true q174
              go_wp2
              go_roundg k1
              case measure => have := HK1.out; omega
              case rel => exact ⟨(wrap64 (x5_1 + 1)), (by first | rfl | (simp; done) | (simp [*]; done)), H', ⟨by have := HK1.out; omega⟩, ⟨by (with_reducible repeat (first | apply Kd.R_alloc | apply Kd.R_drewN | apply Kd.R_drew)); exact HO_4.out⟩, ⟨by (with_reducible repeat (first | refine blk_drewN ?_ _ | refine blk_drew ?_ | refine blk_alloc ?_ _)); exact BK169.out⟩, ⟨by repeat (first | (with_reducible first | exact HB.out | apply below_alloc | apply pw_below_drewN | apply below_drew1 | refine below_set ?_ GE169.out) | exact HB.out)⟩⟩
        · rw [if_neg c7] at H
          exact absurd H (by simp)
      · rw [if_neg c6] at H
        have c6b0 : decide (x5_1 < (y170.length : Int)) = false := decide_eq_false c6
        clear c6
        have HC13 := Aside0.mk H
        clear H
        obtain ⟨Ao14, co14, eo14⟩ := Kd.R_slice HO_4.out
        subst eo14
        have hcz15_0 : wr.cell? ⟨gb169, 0, none⟩ = some (.int .i64 a0_0) := (blk_cell BK169.out 0).trans rfl
        have hcz15_1 : wr.cell? ⟨gb169, 1, none⟩ = some (.int .i64 a0_1) := (blk_cell BK169.out 1).trans rfl
        have hcz15_2 : wr.cell? ⟨gb169, 2, none⟩ = some (.int .i64 a0_2) := (blk_cell BK169.out 2).trans rfl
        have hcz15_3 : wr.cell? ⟨gb169, 3, none⟩ = some (.int .i64 a0_3) := (blk_cell BK169.out 3).trans rfl
        have hcz15_4 : wr.cell? ⟨gb169, 4, none⟩ = some (.int .i64 a0_4) := (blk_cell BK169.out 4).trans rfl
        have hcz15_5 : wr.cell? ⟨gb169, 5, none⟩ = some (.int .i64 a0_5) := (blk_cell BK169.out 5).trans rfl
        have hfz15_0 := blk_frozen BK169.out 0
        have hfz15_1 := blk_frozen BK169.out 1
        have hfz15_2 := blk_frozen BK169.out 2
        have hfz15_3 := blk_frozen BK169.out 3
        have hfz15_4 := blk_frozen BK169.out 4
        have hfz15_5 := blk_frozen BK169.out 5
        go_upto_block 2 with (fail)
        go_cut [6] (fun v6 wc => ∃ (kq : Nat) (x6_12 : ByteArray), v6 = .string x6_12 ∧ Aside0 (insolvencyref25_line.j1 kq y170 x6_12 a0_0 a0_1 a0_2 a0_3 a0_4 a0_5 = some (r1, r2)) ∧ Aside0 (kq ≤ k1) ∧ Aside0 (Kd.R (Kd.int .i64) 2 wc w.heap.size (fun _ => True) (.slice Ao14 y170.length co14) y170) ∧ Aside0 (wc.heap[gb169]? = some (.cells #[.int .i64 a0_0, .int .i64 a0_1, .int .i64 a0_2, .int .i64 a0_3, .int .i64 a0_4, .int .i64 a0_5] 39 (0, 0))) ∧ Aside0 (Below w.heap.size w wc))
        case first =>
          have H := HC13.out
          clear HC13
          by_cases c16 : a0_1 = 1
          · rw [if_pos c16] at H
            have c16b0 : (a0_1 == 1) = true := beq_iff_eq.mpr c16
            have c16b1 : (a0_1 != 1) = false := bne_eq_false_iff_eq.mpr c16
            clear c16
            (first | rw [c16b0] | (simp only [i64_w, i32_w]; rw [c16b0]) | skip)
            have H' := Aside0.mk H
            clear H
            go_wp2
            go_meet
            case rel => exact ⟨_, ((⟨#[112, 97, 121, 109, 101, 110, 116]⟩ : ByteArray)), (by first | rfl | (simp; done) | (simp [*]; done)), H', ⟨by have := HK1.out; first | omega | exact Nat.le_refl _⟩, ⟨by (with_reducible repeat (first | apply Kd.R_alloc | apply Kd.R_drewN | apply Kd.R_drew)); exact HO_4.out⟩, ⟨by (with_reducible repeat (first | refine blk_drewN ?_ _ | refine blk_drew ?_ | refine blk_alloc ?_ _)); exact BK169.out⟩, ⟨by repeat (first | (with_reducible first | exact HB.out | apply below_alloc | apply pw_below_drewN | apply below_drew1 | refine below_set ?_ GE169.out) | exact HB.out)⟩⟩
          · rw [if_neg c16] at H
            have c16b0 : (a0_1 == 1) = false := beq_eq_false_iff_ne.mpr c16
            have c16b1 : (a0_1 != 1) = true := bne_iff_ne.mpr c16
            (first | rw [c16b0] | (simp only [i64_w, i32_w]; rw [c16b0]) | skip)
            by_cases c17 : a0_1 = 2
            · rw [if_pos c17] at H
              have c17b0 : (a0_1 == 2) = true := beq_iff_eq.mpr c17
              have c17b1 : (a0_1 != 2) = false := bne_eq_false_iff_eq.mpr c17
              clear c17
              have H' := Aside0.mk H
              clear H
              go_wp2
              go_meet
              case rel => exact ⟨_, ((⟨#[115, 117, 112, 112, 108, 121]⟩ : ByteArray)), (by first | rfl | (simp; done) | (simp [*]; done)), H', ⟨by have := HK1.out; first | omega | exact Nat.le_refl _⟩, ⟨by (with_reducible repeat (first | apply Kd.R_alloc | apply Kd.R_drewN | apply Kd.R_drew)); exact HO_4.out⟩, ⟨by (with_reducible repeat (first | refine blk_drewN ?_ _ | refine blk_drew ?_ | refine blk_alloc ?_ _)); exact BK169.out⟩, ⟨by repeat (first | (with_reducible first | exact HB.out | apply below_alloc | apply pw_below_drewN | apply below_drew1 | refine below_set ?_ GE169.out) | exact HB.out)⟩⟩
            · rw [if_neg c17] at H
              have c17b0 : (a0_1 == 2) = false := beq_eq_false_iff_ne.mpr c17
              have c17b1 : (a0_1 != 2) = true := bne_iff_ne.mpr c17
              by_cases c18 : a0_1 = 3
              · rw [if_pos c18] at H
                have c18b0 : (a0_1 == 3) = true := beq_iff_eq.mpr c18
                have c18b1 : (a0_1 != 3) = false := bne_eq_false_iff_eq.mpr c18
                clear c18
                have H' := Aside0.mk H
                clear H
                go_wp2
                go_meet
                case rel => exact ⟨_, ((⟨#[116, 114, 97, 110, 115, 102, 101, 114]⟩ : ByteArray)), (by first | rfl | (simp; done) | (simp [*]; done)), H', ⟨by have := HK1.out; first | omega | exact Nat.le_refl _⟩, ⟨by (with_reducible repeat (first | apply Kd.R_alloc | apply Kd.R_drewN | apply Kd.R_drew)); exact HO_4.out⟩, ⟨by (with_reducible repeat (first | refine blk_drewN ?_ _ | refine blk_drew ?_ | refine blk_alloc ?_ _)); exact BK169.out⟩, ⟨by repeat (first | (with_reducible first | exact HB.out | apply below_alloc | apply pw_below_drewN | apply below_drew1 | refine below_set ?_ GE169.out) | exact HB.out)⟩⟩
              · rw [if_neg c18] at H
                have c18b0 : (a0_1 == 3) = false := beq_eq_false_iff_ne.mpr c18
                have c18b1 : (a0_1 != 3) = true := bne_iff_ne.mpr c18
                have H' := Aside0.mk H
                clear H
                go_wp2
                go_meet
                case rel => exact ⟨_, ((⟨#[]⟩ : ByteArray)), (by first | rfl | (simp; done) | (simp [*]; done)), H', ⟨by have := HK1.out; first | omega | exact Nat.le_refl _⟩, ⟨by (with_reducible repeat (first | apply Kd.R_alloc | apply Kd.R_drewN | apply Kd.R_drew)); exact HO_4.out⟩, ⟨by (with_reducible repeat (first | refine blk_drewN ?_ _ | refine blk_drew ?_ | refine blk_alloc ?_ _)); exact BK169.out⟩, ⟨by repeat (first | (with_reducible first | exact HB.out | apply below_alloc | apply pw_below_drewN | apply below_drew1 | refine below_set ?_ GE169.out) | exact HB.out)⟩⟩
        case rest =>
          clear HC13
          try clear c1
          try clear p1
          try clear q1
          try clear hx1
          try clear p2
          try clear c3
          try clear c6
          try clear c6b0
          try clear p6
          try clear c7
          try clear c7b0
          try clear c8
          try clear c8b0
          try clear c10
          try clear c10b0
          try clear c16
          try clear c16b0
          try clear c16b1
          try clear c17
          try clear c17b0
          try clear c17b1
          try clear p17
          try clear q17
          try clear hx17
          try clear c18
          try clear c18b0
          try clear c18b1
          try clear hcz15_0
          try clear hcz15_1
          try clear hcz15_2
          try clear hcz15_3
          try clear hcz15_4
          try clear hcz15_5
          try clear hcz3_0
          try clear hcz3_1
          try clear hcz3_2
          try clear hcz3_3
          try clear hcz3_4
          try clear hcz3_5
          try clear hfz15_0
          try clear hfz15_1
          try clear hfz15_2
          try clear hfz15_3
          try clear hfz15_4
          try clear hfz15_5
          try clear hfz3_0
          try clear hfz3_1
          try clear hfz3_2
          try clear hfz3_3
          try clear hfz3_4
          try clear hfz3_5
          try clear hx173_0
          try clear hx174_0
          try clear p173
          try clear p174
          try clear p2
          try clear q173
          try clear q174
          obtain ⟨kq, x6_12, rfl, HA, HJ12, HO_4, BK169, HB⟩ := hcut
          cases kq with
          | zero => exact absurd HA.out (by simp [insolvencyref25_line.j1])
          | succ kj12 =>
            have H := HA.out
            clear HA
            simp only [insolvencyref25_line.j1] at H
            have HC19 := Aside0.mk H
            clear H
            go_upto_region 15 with (fail)
            go_cut [56] (fun v56 wc => ∃ (kq : Nat) (x56_18 : Bool), v56 = .bool x56_18 ∧ Aside0 (insolvencyref25_line.j2 kq y170 x6_12 x56_18 a0_0 a0_1 a0_2 a0_3 a0_4 a0_5 = some (r1, r2)) ∧ Aside0 (kq ≤ kj12) ∧ Aside0 (Kd.R (Kd.int .i64) 2 wc w.heap.size (fun _ => True) (.slice Ao14 y170.length co14) y170) ∧ Aside0 (wc.heap[gb169]? = some (.cells #[.int .i64 a0_0, .int .i64 a0_1, .int .i64 a0_2, .int .i64 a0_3, .int .i64 a0_4, .int .i64 a0_5] 39 (0, 0))) ∧ Aside0 (Below w.heap.size w wc))
            case first =>
              have H := HC19.out
              clear HC19
              by_cases c20 : x6_12.toList = ([] : List UInt8)
              · rw [if_pos c20] at H
                have c20b0 : (x6_12.toList == ([] : List UInt8)) = true := beq_iff_eq.mpr c20
                have c20b1 : (x6_12.toList != ([] : List UInt8)) = false := bne_eq_false_iff_eq.mpr c20
                clear c20
                (first | rw [c20b0] | (simp only [i64_w, i32_w]; rw [c20b0]) | skip)
                have H' := Aside0.mk H
                clear H
                go_wp2
                go_meet
                case rel => exact ⟨_, (true), (by first | rfl | (simp; done) | (simp [*]; done)), H', ⟨by have := HK1.out; have := HJ12.out; first | omega | exact Nat.le_refl _⟩, ⟨by (with_reducible repeat (first | apply Kd.R_alloc | apply Kd.R_drewN | apply Kd.R_drew)); exact HO_4.out⟩, ⟨by (with_reducible repeat (first | refine blk_drewN ?_ _ | refine blk_drew ?_ | refine blk_alloc ?_ _)); exact BK169.out⟩, ⟨by repeat (first | (with_reducible first | exact HB.out | apply below_alloc | apply pw_below_drewN | apply below_drew1 | refine below_set ?_ GE169.out) | exact HB.out)⟩⟩
              · rw [if_neg c20] at H
                have c20b0 : (x6_12.toList == ([] : List UInt8)) = false := beq_eq_false_iff_ne.mpr c20
                have c20b1 : (x6_12.toList != ([] : List UInt8)) = true := bne_iff_ne.mpr c20
                (first | rw [c20b0] | (simp only [i64_w, i32_w]; rw [c20b0]) | skip)
                by_cases c21 : a0_1 = 3
                · rw [if_pos c21] at H
                  have c21b0 : (a0_1 == 3) = true := beq_iff_eq.mpr c21
                  have c21b1 : (a0_1 != 3) = false := bne_eq_false_iff_eq.mpr c21
                  clear c21
                  have H' := Aside0.mk H
                  clear H
                  have hcz22_0 : wc.cell? ⟨gb169, 0, none⟩ = some (.int .i64 a0_0) := (blk_cell BK169.out 0).trans rfl
                  have hcz22_1 : wc.cell? ⟨gb169, 1, none⟩ = some (.int .i64 a0_1) := (blk_cell BK169.out 1).trans rfl
                  have hcz22_2 : wc.cell? ⟨gb169, 2, none⟩ = some (.int .i64 a0_2) := (blk_cell BK169.out 2).trans rfl
                  have hcz22_3 : wc.cell? ⟨gb169, 3, none⟩ = some (.int .i64 a0_3) := (blk_cell BK169.out 3).trans rfl
                  have hcz22_4 : wc.cell? ⟨gb169, 4, none⟩ = some (.int .i64 a0_4) := (blk_cell BK169.out 4).trans rfl
                  have hcz22_5 : wc.cell? ⟨gb169, 5, none⟩ = some (.int .i64 a0_5) := (blk_cell BK169.out 5).trans rfl
                  have hfz22_0 := blk_frozen BK169.out 0
                  have hfz22_1 := blk_frozen BK169.out 1
                  have hfz22_2 := blk_frozen BK169.out 2
                  have hfz22_3 := blk_frozen BK169.out 3
                  have hfz22_4 := blk_frozen BK169.out 4
                  have hfz22_5 := blk_frozen BK169.out 5
                  go_wp2
                  go_meet
                  case rel => exact ⟨_, (false), (by first | rfl | (simp; done) | (simp [*]; done)), H', ⟨by have := HK1.out; have := HJ12.out; first | omega | exact Nat.le_refl _⟩, ⟨by (with_reducible repeat (first | apply Kd.R_alloc | apply Kd.R_drewN | apply Kd.R_drew)); exact HO_4.out⟩, ⟨by (with_reducible repeat (first | refine blk_drewN ?_ _ | refine blk_drew ?_ | refine blk_alloc ?_ _)); exact BK169.out⟩, ⟨by repeat (first | (with_reducible first | exact HB.out | apply below_alloc | apply pw_below_drewN | apply below_drew1 | refine below_set ?_ GE169.out) | exact HB.out)⟩⟩
                · rw [if_neg c21] at H
                  have c21b0 : (a0_1 == 3) = false := beq_eq_false_iff_ne.mpr c21
                  have c21b1 : (a0_1 != 3) = true := bne_iff_ne.mpr c21
                  have H' := Aside0.mk H
                  clear H
                  have hcz23_0 : wc.cell? ⟨gb169, 0, none⟩ = some (.int .i64 a0_0) := (blk_cell BK169.out 0).trans rfl
                  have hcz23_1 : wc.cell? ⟨gb169, 1, none⟩ = some (.int .i64 a0_1) := (blk_cell BK169.out 1).trans rfl
                  have hcz23_2 : wc.cell? ⟨gb169, 2, none⟩ = some (.int .i64 a0_2) := (blk_cell BK169.out 2).trans rfl
                  have hcz23_3 : wc.cell? ⟨gb169, 3, none⟩ = some (.int .i64 a0_3) := (blk_cell BK169.out 3).trans rfl
                  have hcz23_4 : wc.cell? ⟨gb169, 4, none⟩ = some (.int .i64 a0_4) := (blk_cell BK169.out 4).trans rfl
                  have hcz23_5 : wc.cell? ⟨gb169, 5, none⟩ = some (.int .i64 a0_5) := (blk_cell BK169.out 5).trans rfl
                  have hfz23_0 := blk_frozen BK169.out 0
                  have hfz23_1 := blk_frozen BK169.out 1
                  have hfz23_2 := blk_frozen BK169.out 2
                  have hfz23_3 := blk_frozen BK169.out 3
                  have hfz23_4 := blk_frozen BK169.out 4
                  have hfz23_5 := blk_frozen BK169.out 5
                  go_wp2
                  go_meet
                  case rel => exact ⟨_, ((a0_5 != 0)), (by first | rfl | (simp; done) | (simp [*]; done)), H', ⟨by have := HK1.out; have := HJ12.out; first | omega | exact Nat.le_refl _⟩, ⟨by (with_reducible repeat (first | apply Kd.R_alloc | apply Kd.R_drewN | apply Kd.R_drew)); exact HO_4.out⟩, ⟨by (with_reducible repeat (first | refine blk_drewN ?_ _ | refine blk_drew ?_ | refine blk_alloc ?_ _)); exact BK169.out⟩, ⟨by repeat (first | (with_reducible first | exact HB.out | apply below_alloc | apply pw_below_drewN | apply below_drew1 | refine below_set ?_ GE169.out) | exact HB.out)⟩⟩
            case rest =>
              clear HC19
              try clear c1
              try clear p1
              try clear q1
              try clear hx1
              try clear c2
              try clear p2
              try clear c3
              try clear c6
              try clear c6b0
              try clear p6
              try clear c7
              try clear c7b0
              try clear c8
              try clear c8b0
              try clear c10
              try clear c10b0
              try clear c16
              try clear c16b0
              try clear c16b1
              try clear c17
              try clear c17b0
              try clear c17b1
              try clear p17
              try clear q17
              try clear hx17
              try clear c18
              try clear c18b0
              try clear c18b1
              try clear c20
              try clear c20b0
              try clear c20b1
              try clear c21
              try clear c21b0
              try clear c21b1
              try clear hcz15_0
              try clear hcz15_1
              try clear hcz15_2
              try clear hcz15_3
              try clear hcz15_4
              try clear hcz15_5
              try clear hcz22_0
              try clear hcz22_1
              try clear hcz22_2
              try clear hcz22_3
              try clear hcz22_4
              try clear hcz22_5
              try clear hcz23_0
              try clear hcz23_1
              try clear hcz23_2
              try clear hcz23_3
              try clear hcz23_4
              try clear hcz23_5
              try clear hcz3_0
              try clear hcz3_1
              try clear hcz3_2
              try clear hcz3_3
              try clear hcz3_4
              try clear hcz3_5
              try clear hfz15_0
              try clear hfz15_1
              try clear hfz15_2
              try clear hfz15_3
              try clear hfz15_4
              try clear hfz15_5
              try clear hfz22_0
              try clear hfz22_1
              try clear hfz22_2
              try clear hfz22_3
              try clear hfz22_4
              try clear hfz22_5
              try clear hfz23_0
              try clear hfz23_1
              try clear hfz23_2
              try clear hfz23_3
              try clear hfz23_4
              try clear hfz23_5
              try clear hfz3_0
              try clear hfz3_1
              try clear hfz3_2
              try clear hfz3_3
              try clear hfz3_4
              try clear hfz3_5
              try clear hx173_0
              try clear hx174_0
              try clear p1
              try clear p17
              try clear p173
              try clear p174
              try clear p2
              try clear p6
              try clear q1
              try clear q17
              try clear q173
              try clear q174
              obtain ⟨kq, x56_18, rfl, HA, HJ18, HO_4, BK169, HB⟩ := hcut
              cases kq with
              | zero => exact absurd HA.out (by simp [insolvencyref25_line.j2])
              | succ kj18 =>
                have H := HA.out
                clear HA
                simp only [insolvencyref25_line.j2] at H
                by_cases c24 : x56_18 = true
                · subst c24
                  have H1 : (some ((⟨#[]⟩ : ByteArray), false)) = some (r1, r2) := by rw [if_pos rfl] at H; exact H
                  clear H
                  have H := H1
                  clear H1
                  simp only [Option.some.injEq, Prod.mk.injEq] at H
                  obtain ⟨rfl, rfl⟩ := H
                  go_wp2
                  go_ret2
                  exact ⟨by first | rfl | (simp [errW_none, errW_some] <;> rfl) | (simp [*, errW_none, errW_some] <;> rfl), by repeat (first | (with_reducible first | exact HB.out | apply below_alloc | apply pw_below_drewN | apply below_drew1 | refine below_set ?_ GE169.out) | exact HB.out)⟩
                · replace c24 := Bool.eq_false_iff.mpr c24
                  subst c24
                  have H1 : (if 0 < (y170.length : Int) then ((insolvencyref25_digits.f kj18 (rd y170 0)).bind fun t176 => (if t176.size + 1 ≤ 9223372036854775807 then (if (t176 ++ (⟨#[32]⟩ : ByteArray)).size + x6_12.size ≤ 9223372036854775807 then (if ((t176 ++ (⟨#[32]⟩ : ByteArray)) ++ x6_12).size + 1 ≤ 9223372036854775807 then (if 1 < (y170.length : Int) then ((insolvencyref25_digits.f kj18 (rd y170 1)).bind fun t178 => (if (((t176 ++ (⟨#[32]⟩ : ByteArray)) ++ x6_12) ++ (⟨#[32]⟩ : ByteArray)).size + t178.size ≤ 9223372036854775807 then (if ((((t176 ++ (⟨#[32]⟩ : ByteArray)) ++ x6_12) ++ (⟨#[32]⟩ : ByteArray)) ++ t178).size + 1 ≤ 9223372036854775807 then (if 2 < (y170.length : Int) then ((insolvencyref25_digits.f kj18 (rd y170 2)).bind fun t180 => (if (((((t176 ++ (⟨#[32]⟩ : ByteArray)) ++ x6_12) ++ (⟨#[32]⟩ : ByteArray)) ++ t178) ++ (⟨#[32]⟩ : ByteArray)).size + t180.size ≤ 9223372036854775807 then (if ((((((t176 ++ (⟨#[32]⟩ : ByteArray)) ++ x6_12) ++ (⟨#[32]⟩ : ByteArray)) ++ t178) ++ (⟨#[32]⟩ : ByteArray)) ++ t180).size + 1 ≤ 9223372036854775807 then (if 3 < (y170.length : Int) then ((insolvencyref25_digits.f kj18 (rd y170 3)).bind fun t182 => (if (((((((t176 ++ (⟨#[32]⟩ : ByteArray)) ++ x6_12) ++ (⟨#[32]⟩ : ByteArray)) ++ t178) ++ (⟨#[32]⟩ : ByteArray)) ++ t180) ++ (⟨#[32]⟩ : ByteArray)).size + t182.size ≤ 9223372036854775807 then (if a0_1 = 3 then (if ((((((((t176 ++ (⟨#[32]⟩ : ByteArray)) ++ x6_12) ++ (⟨#[32]⟩ : ByteArray)) ++ t178) ++ (⟨#[32]⟩ : ByteArray)) ++ t180) ++ (⟨#[32]⟩ : ByteArray)) ++ t182).size + 1 ≤ 9223372036854775807 then (if 4 < (y170.length : Int) then ((insolvencyref25_digits.f kj18 (rd y170 4)).bind fun t184 => (if (((((((((t176 ++ (⟨#[32]⟩ : ByteArray)) ++ x6_12) ++ (⟨#[32]⟩ : ByteArray)) ++ t178) ++ (⟨#[32]⟩ : ByteArray)) ++ t180) ++ (⟨#[32]⟩ : ByteArray)) ++ t182) ++ (⟨#[32]⟩ : ByteArray)).size + t184.size ≤ 9223372036854775807 then (if ((((((((((t176 ++ (⟨#[32]⟩ : ByteArray)) ++ x6_12) ++ (⟨#[32]⟩ : ByteArray)) ++ t178) ++ (⟨#[32]⟩ : ByteArray)) ++ t180) ++ (⟨#[32]⟩ : ByteArray)) ++ t182) ++ (⟨#[32]⟩ : ByteArray)) ++ t184).size + 1 ≤ 9223372036854775807 then (some (((((((((((t176 ++ (⟨#[32]⟩ : ByteArray)) ++ x6_12) ++ (⟨#[32]⟩ : ByteArray)) ++ t178) ++ (⟨#[32]⟩ : ByteArray)) ++ t180) ++ (⟨#[32]⟩ : ByteArray)) ++ t182) ++ (⟨#[32]⟩ : ByteArray)) ++ t184) ++ (⟨#[10]⟩ : ByteArray), true)) else (none)) else (none))) else (none)) else (none)) else (if ((((((((t176 ++ (⟨#[32]⟩ : ByteArray)) ++ x6_12) ++ (⟨#[32]⟩ : ByteArray)) ++ t178) ++ (⟨#[32]⟩ : ByteArray)) ++ t180) ++ (⟨#[32]⟩ : ByteArray)) ++ t182).size + 1 ≤ 9223372036854775807 then (some (((((((((t176 ++ (⟨#[32]⟩ : ByteArray)) ++ x6_12) ++ (⟨#[32]⟩ : ByteArray)) ++ t178) ++ (⟨#[32]⟩ : ByteArray)) ++ t180) ++ (⟨#[32]⟩ : ByteArray)) ++ t182) ++ (⟨#[10]⟩ : ByteArray), true)) else (none))) else (none))) else (none)) else (none)) else (none))) else (none)) else (none)) else (none))) else (none)) else (none)) else (none)) else (none))) else (none)) = some (r1, r2) := by rw [if_neg (show ¬ (false = true) by decide)] at H; exact H
                  clear H
                  have H := H1
                  clear H1
                  by_cases c25 : 0 < (y170.length : Int)
                  · rw [if_pos c25] at H
                    have c25b0 : decide (0 < (y170.length : Int)) = true := decide_eq_true c25
                    have c25b1 : decide (0 < y170.length) = true := decide_eq_true (by omega)
                    clear c25
                    replace H := Option.bind_eq_some_iff.mp H
                    obtain ⟨t176, A260, H⟩ := H
                    replace H : (if t176.size + 1 ≤ 9223372036854775807 then (if (t176 ++ (⟨#[32]⟩ : ByteArray)).size + x6_12.size ≤ 9223372036854775807 then (if ((t176 ++ (⟨#[32]⟩ : ByteArray)) ++ x6_12).size + 1 ≤ 9223372036854775807 then (if 1 < (y170.length : Int) then ((insolvencyref25_digits.f kj18 (rd y170 1)).bind fun t178 => (if (((t176 ++ (⟨#[32]⟩ : ByteArray)) ++ x6_12) ++ (⟨#[32]⟩ : ByteArray)).size + t178.size ≤ 9223372036854775807 then (if ((((t176 ++ (⟨#[32]⟩ : ByteArray)) ++ x6_12) ++ (⟨#[32]⟩ : ByteArray)) ++ t178).size + 1 ≤ 9223372036854775807 then (if 2 < (y170.length : Int) then ((insolvencyref25_digits.f kj18 (rd y170 2)).bind fun t180 => (if (((((t176 ++ (⟨#[32]⟩ : ByteArray)) ++ x6_12) ++ (⟨#[32]⟩ : ByteArray)) ++ t178) ++ (⟨#[32]⟩ : ByteArray)).size + t180.size ≤ 9223372036854775807 then (if ((((((t176 ++ (⟨#[32]⟩ : ByteArray)) ++ x6_12) ++ (⟨#[32]⟩ : ByteArray)) ++ t178) ++ (⟨#[32]⟩ : ByteArray)) ++ t180).size + 1 ≤ 9223372036854775807 then (if 3 < (y170.length : Int) then ((insolvencyref25_digits.f kj18 (rd y170 3)).bind fun t182 => (if (((((((t176 ++ (⟨#[32]⟩ : ByteArray)) ++ x6_12) ++ (⟨#[32]⟩ : ByteArray)) ++ t178) ++ (⟨#[32]⟩ : ByteArray)) ++ t180) ++ (⟨#[32]⟩ : ByteArray)).size + t182.size ≤ 9223372036854775807 then (if a0_1 = 3 then (if ((((((((t176 ++ (⟨#[32]⟩ : ByteArray)) ++ x6_12) ++ (⟨#[32]⟩ : ByteArray)) ++ t178) ++ (⟨#[32]⟩ : ByteArray)) ++ t180) ++ (⟨#[32]⟩ : ByteArray)) ++ t182).size + 1 ≤ 9223372036854775807 then (if 4 < (y170.length : Int) then ((insolvencyref25_digits.f kj18 (rd y170 4)).bind fun t184 => (if (((((((((t176 ++ (⟨#[32]⟩ : ByteArray)) ++ x6_12) ++ (⟨#[32]⟩ : ByteArray)) ++ t178) ++ (⟨#[32]⟩ : ByteArray)) ++ t180) ++ (⟨#[32]⟩ : ByteArray)) ++ t182) ++ (⟨#[32]⟩ : ByteArray)).size + t184.size ≤ 9223372036854775807 then (if ((((((((((t176 ++ (⟨#[32]⟩ : ByteArray)) ++ x6_12) ++ (⟨#[32]⟩ : ByteArray)) ++ t178) ++ (⟨#[32]⟩ : ByteArray)) ++ t180) ++ (⟨#[32]⟩ : ByteArray)) ++ t182) ++ (⟨#[32]⟩ : ByteArray)) ++ t184).size + 1 ≤ 9223372036854775807 then (some (((((((((((t176 ++ (⟨#[32]⟩ : ByteArray)) ++ x6_12) ++ (⟨#[32]⟩ : ByteArray)) ++ t178) ++ (⟨#[32]⟩ : ByteArray)) ++ t180) ++ (⟨#[32]⟩ : ByteArray)) ++ t182) ++ (⟨#[32]⟩ : ByteArray)) ++ t184) ++ (⟨#[10]⟩ : ByteArray), true)) else (none)) else (none))) else (none)) else (none)) else (if ((((((((t176 ++ (⟨#[32]⟩ : ByteArray)) ++ x6_12) ++ (⟨#[32]⟩ : ByteArray)) ++ t178) ++ (⟨#[32]⟩ : ByteArray)) ++ t180) ++ (⟨#[32]⟩ : ByteArray)) ++ t182).size + 1 ≤ 9223372036854775807 then (some (((((((((t176 ++ (⟨#[32]⟩ : ByteArray)) ++ x6_12) ++ (⟨#[32]⟩ : ByteArray)) ++ t178) ++ (⟨#[32]⟩ : ByteArray)) ++ t180) ++ (⟨#[32]⟩ : ByteArray)) ++ t182) ++ (⟨#[10]⟩ : ByteArray), true)) else (none))) else (none))) else (none)) else (none)) else (none))) else (none)) else (none)) else (none))) else (none)) else (none)) else (none)) else (none)) = some (r1, r2) := H
                    have A26 := Aside0.mk A260
                    clear A260
                    by_cases c27 : t176.size + 1 ≤ 9223372036854775807
                    · rw [if_pos c27] at H
                      have c27b0 := eq_true c27
                      have c27b1 : decide (t176.size + 1 ≤ 9223372036854775807) = true := decide_eq_true c27
                      try have c27b2 : (9223372036854775807 < t176.size + 1) = False := eq_false (Nat.not_lt.2 c27)
                      by_cases c28 : (t176 ++ (⟨#[32]⟩ : ByteArray)).size + x6_12.size ≤ 9223372036854775807
                      · rw [if_pos c28] at H
                        have c28b0 := eq_true c28
                        have c28b1 : decide ((t176 ++ (⟨#[32]⟩ : ByteArray)).size + x6_12.size ≤ 9223372036854775807) = true := decide_eq_true c28
                        try have c28b2 : (9223372036854775807 < (t176 ++ (⟨#[32]⟩ : ByteArray)).size + x6_12.size) = False := eq_false (Nat.not_lt.2 c28)
                        try have c28b3 : (9223372036854775807 < t176.size + 1 + x6_12.size) = False := eq_false (Nat.not_lt.2 (by have h_ := c28; simp only [ByteArray.size_append] at h_; exact h_))
                        by_cases c29 : ((t176 ++ (⟨#[32]⟩ : ByteArray)) ++ x6_12).size + 1 ≤ 9223372036854775807
                        · rw [if_pos c29] at H
                          have c29b0 := eq_true c29
                          have c29b1 : decide (((t176 ++ (⟨#[32]⟩ : ByteArray)) ++ x6_12).size + 1 ≤ 9223372036854775807) = true := decide_eq_true c29
                          try have c29b2 : (9223372036854775807 < ((t176 ++ (⟨#[32]⟩ : ByteArray)) ++ x6_12).size + 1) = False := eq_false (Nat.not_lt.2 c29)
                          try have c29b3 : (9223372036854775807 < t176.size + 1 + x6_12.size + 1) = False := eq_false (Nat.not_lt.2 (by have h_ := c29; simp only [ByteArray.size_append] at h_; exact h_))
                          by_cases c30 : 1 < (y170.length : Int)
                          · rw [if_pos c30] at H
                            have c30b0 : decide (1 < (y170.length : Int)) = true := decide_eq_true c30
                            have c30b1 : decide (1 < y170.length) = true := decide_eq_true (by omega)
                            clear c30
                            replace H := Option.bind_eq_some_iff.mp H
                            obtain ⟨t178, A310, H⟩ := H
                            replace H : (if (((t176 ++ (⟨#[32]⟩ : ByteArray)) ++ x6_12) ++ (⟨#[32]⟩ : ByteArray)).size + t178.size ≤ 9223372036854775807 then (if ((((t176 ++ (⟨#[32]⟩ : ByteArray)) ++ x6_12) ++ (⟨#[32]⟩ : ByteArray)) ++ t178).size + 1 ≤ 9223372036854775807 then (if 2 < (y170.length : Int) then ((insolvencyref25_digits.f kj18 (rd y170 2)).bind fun t180 => (if (((((t176 ++ (⟨#[32]⟩ : ByteArray)) ++ x6_12) ++ (⟨#[32]⟩ : ByteArray)) ++ t178) ++ (⟨#[32]⟩ : ByteArray)).size + t180.size ≤ 9223372036854775807 then (if ((((((t176 ++ (⟨#[32]⟩ : ByteArray)) ++ x6_12) ++ (⟨#[32]⟩ : ByteArray)) ++ t178) ++ (⟨#[32]⟩ : ByteArray)) ++ t180).size + 1 ≤ 9223372036854775807 then (if 3 < (y170.length : Int) then ((insolvencyref25_digits.f kj18 (rd y170 3)).bind fun t182 => (if (((((((t176 ++ (⟨#[32]⟩ : ByteArray)) ++ x6_12) ++ (⟨#[32]⟩ : ByteArray)) ++ t178) ++ (⟨#[32]⟩ : ByteArray)) ++ t180) ++ (⟨#[32]⟩ : ByteArray)).size + t182.size ≤ 9223372036854775807 then (if a0_1 = 3 then (if ((((((((t176 ++ (⟨#[32]⟩ : ByteArray)) ++ x6_12) ++ (⟨#[32]⟩ : ByteArray)) ++ t178) ++ (⟨#[32]⟩ : ByteArray)) ++ t180) ++ (⟨#[32]⟩ : ByteArray)) ++ t182).size + 1 ≤ 9223372036854775807 then (if 4 < (y170.length : Int) then ((insolvencyref25_digits.f kj18 (rd y170 4)).bind fun t184 => (if (((((((((t176 ++ (⟨#[32]⟩ : ByteArray)) ++ x6_12) ++ (⟨#[32]⟩ : ByteArray)) ++ t178) ++ (⟨#[32]⟩ : ByteArray)) ++ t180) ++ (⟨#[32]⟩ : ByteArray)) ++ t182) ++ (⟨#[32]⟩ : ByteArray)).size + t184.size ≤ 9223372036854775807 then (if ((((((((((t176 ++ (⟨#[32]⟩ : ByteArray)) ++ x6_12) ++ (⟨#[32]⟩ : ByteArray)) ++ t178) ++ (⟨#[32]⟩ : ByteArray)) ++ t180) ++ (⟨#[32]⟩ : ByteArray)) ++ t182) ++ (⟨#[32]⟩ : ByteArray)) ++ t184).size + 1 ≤ 9223372036854775807 then (some (((((((((((t176 ++ (⟨#[32]⟩ : ByteArray)) ++ x6_12) ++ (⟨#[32]⟩ : ByteArray)) ++ t178) ++ (⟨#[32]⟩ : ByteArray)) ++ t180) ++ (⟨#[32]⟩ : ByteArray)) ++ t182) ++ (⟨#[32]⟩ : ByteArray)) ++ t184) ++ (⟨#[10]⟩ : ByteArray), true)) else (none)) else (none))) else (none)) else (none)) else (if ((((((((t176 ++ (⟨#[32]⟩ : ByteArray)) ++ x6_12) ++ (⟨#[32]⟩ : ByteArray)) ++ t178) ++ (⟨#[32]⟩ : ByteArray)) ++ t180) ++ (⟨#[32]⟩ : ByteArray)) ++ t182).size + 1 ≤ 9223372036854775807 then (some (((((((((t176 ++ (⟨#[32]⟩ : ByteArray)) ++ x6_12) ++ (⟨#[32]⟩ : ByteArray)) ++ t178) ++ (⟨#[32]⟩ : ByteArray)) ++ t180) ++ (⟨#[32]⟩ : ByteArray)) ++ t182) ++ (⟨#[10]⟩ : ByteArray), true)) else (none))) else (none))) else (none)) else (none)) else (none))) else (none)) else (none)) else (none)) = some (r1, r2) := H
                            have A31 := Aside0.mk A310
                            clear A310
                            by_cases c32 : (((t176 ++ (⟨#[32]⟩ : ByteArray)) ++ x6_12) ++ (⟨#[32]⟩ : ByteArray)).size + t178.size ≤ 9223372036854775807
                            · rw [if_pos c32] at H
                              have c32b0 := eq_true c32
                              have c32b1 : decide ((((t176 ++ (⟨#[32]⟩ : ByteArray)) ++ x6_12) ++ (⟨#[32]⟩ : ByteArray)).size + t178.size ≤ 9223372036854775807) = true := decide_eq_true c32
                              try have c32b2 : (9223372036854775807 < (((t176 ++ (⟨#[32]⟩ : ByteArray)) ++ x6_12) ++ (⟨#[32]⟩ : ByteArray)).size + t178.size) = False := eq_false (Nat.not_lt.2 c32)
                              try have c32b3 : (9223372036854775807 < t176.size + 1 + x6_12.size + 1 + t178.size) = False := eq_false (Nat.not_lt.2 (by have h_ := c32; simp only [ByteArray.size_append] at h_; exact h_))
                              by_cases c33 : ((((t176 ++ (⟨#[32]⟩ : ByteArray)) ++ x6_12) ++ (⟨#[32]⟩ : ByteArray)) ++ t178).size + 1 ≤ 9223372036854775807
                              · rw [if_pos c33] at H
                                have c33b0 := eq_true c33
                                have c33b1 : decide (((((t176 ++ (⟨#[32]⟩ : ByteArray)) ++ x6_12) ++ (⟨#[32]⟩ : ByteArray)) ++ t178).size + 1 ≤ 9223372036854775807) = true := decide_eq_true c33
                                try have c33b2 : (9223372036854775807 < ((((t176 ++ (⟨#[32]⟩ : ByteArray)) ++ x6_12) ++ (⟨#[32]⟩ : ByteArray)) ++ t178).size + 1) = False := eq_false (Nat.not_lt.2 c33)
                                try have c33b3 : (9223372036854775807 < t176.size + 1 + x6_12.size + 1 + t178.size + 1) = False := eq_false (Nat.not_lt.2 (by have h_ := c33; simp only [ByteArray.size_append] at h_; exact h_))
                                by_cases c34 : 2 < (y170.length : Int)
                                · rw [if_pos c34] at H
                                  have c34b0 : decide (2 < (y170.length : Int)) = true := decide_eq_true c34
                                  have c34b1 : decide (2 < y170.length) = true := decide_eq_true (by omega)
                                  clear c34
                                  replace H := Option.bind_eq_some_iff.mp H
                                  obtain ⟨t180, A350, H⟩ := H
                                  replace H : (if (((((t176 ++ (⟨#[32]⟩ : ByteArray)) ++ x6_12) ++ (⟨#[32]⟩ : ByteArray)) ++ t178) ++ (⟨#[32]⟩ : ByteArray)).size + t180.size ≤ 9223372036854775807 then (if ((((((t176 ++ (⟨#[32]⟩ : ByteArray)) ++ x6_12) ++ (⟨#[32]⟩ : ByteArray)) ++ t178) ++ (⟨#[32]⟩ : ByteArray)) ++ t180).size + 1 ≤ 9223372036854775807 then (if 3 < (y170.length : Int) then ((insolvencyref25_digits.f kj18 (rd y170 3)).bind fun t182 => (if (((((((t176 ++ (⟨#[32]⟩ : ByteArray)) ++ x6_12) ++ (⟨#[32]⟩ : ByteArray)) ++ t178) ++ (⟨#[32]⟩ : ByteArray)) ++ t180) ++ (⟨#[32]⟩ : ByteArray)).size + t182.size ≤ 9223372036854775807 then (if a0_1 = 3 then (if ((((((((t176 ++ (⟨#[32]⟩ : ByteArray)) ++ x6_12) ++ (⟨#[32]⟩ : ByteArray)) ++ t178) ++ (⟨#[32]⟩ : ByteArray)) ++ t180) ++ (⟨#[32]⟩ : ByteArray)) ++ t182).size + 1 ≤ 9223372036854775807 then (if 4 < (y170.length : Int) then ((insolvencyref25_digits.f kj18 (rd y170 4)).bind fun t184 => (if (((((((((t176 ++ (⟨#[32]⟩ : ByteArray)) ++ x6_12) ++ (⟨#[32]⟩ : ByteArray)) ++ t178) ++ (⟨#[32]⟩ : ByteArray)) ++ t180) ++ (⟨#[32]⟩ : ByteArray)) ++ t182) ++ (⟨#[32]⟩ : ByteArray)).size + t184.size ≤ 9223372036854775807 then (if ((((((((((t176 ++ (⟨#[32]⟩ : ByteArray)) ++ x6_12) ++ (⟨#[32]⟩ : ByteArray)) ++ t178) ++ (⟨#[32]⟩ : ByteArray)) ++ t180) ++ (⟨#[32]⟩ : ByteArray)) ++ t182) ++ (⟨#[32]⟩ : ByteArray)) ++ t184).size + 1 ≤ 9223372036854775807 then (some (((((((((((t176 ++ (⟨#[32]⟩ : ByteArray)) ++ x6_12) ++ (⟨#[32]⟩ : ByteArray)) ++ t178) ++ (⟨#[32]⟩ : ByteArray)) ++ t180) ++ (⟨#[32]⟩ : ByteArray)) ++ t182) ++ (⟨#[32]⟩ : ByteArray)) ++ t184) ++ (⟨#[10]⟩ : ByteArray), true)) else (none)) else (none))) else (none)) else (none)) else (if ((((((((t176 ++ (⟨#[32]⟩ : ByteArray)) ++ x6_12) ++ (⟨#[32]⟩ : ByteArray)) ++ t178) ++ (⟨#[32]⟩ : ByteArray)) ++ t180) ++ (⟨#[32]⟩ : ByteArray)) ++ t182).size + 1 ≤ 9223372036854775807 then (some (((((((((t176 ++ (⟨#[32]⟩ : ByteArray)) ++ x6_12) ++ (⟨#[32]⟩ : ByteArray)) ++ t178) ++ (⟨#[32]⟩ : ByteArray)) ++ t180) ++ (⟨#[32]⟩ : ByteArray)) ++ t182) ++ (⟨#[10]⟩ : ByteArray), true)) else (none))) else (none))) else (none)) else (none)) else (none)) = some (r1, r2) := H
                                  have A35 := Aside0.mk A350
                                  clear A350
                                  by_cases c36 : (((((t176 ++ (⟨#[32]⟩ : ByteArray)) ++ x6_12) ++ (⟨#[32]⟩ : ByteArray)) ++ t178) ++ (⟨#[32]⟩ : ByteArray)).size + t180.size ≤ 9223372036854775807
                                  · rw [if_pos c36] at H
                                    have c36b0 := eq_true c36
                                    have c36b1 : decide ((((((t176 ++ (⟨#[32]⟩ : ByteArray)) ++ x6_12) ++ (⟨#[32]⟩ : ByteArray)) ++ t178) ++ (⟨#[32]⟩ : ByteArray)).size + t180.size ≤ 9223372036854775807) = true := decide_eq_true c36
                                    try have c36b2 : (9223372036854775807 < (((((t176 ++ (⟨#[32]⟩ : ByteArray)) ++ x6_12) ++ (⟨#[32]⟩ : ByteArray)) ++ t178) ++ (⟨#[32]⟩ : ByteArray)).size + t180.size) = False := eq_false (Nat.not_lt.2 c36)
                                    try have c36b3 : (9223372036854775807 < t176.size + 1 + x6_12.size + 1 + t178.size + 1 + t180.size) = False := eq_false (Nat.not_lt.2 (by have h_ := c36; simp only [ByteArray.size_append] at h_; exact h_))
                                    by_cases c37 : ((((((t176 ++ (⟨#[32]⟩ : ByteArray)) ++ x6_12) ++ (⟨#[32]⟩ : ByteArray)) ++ t178) ++ (⟨#[32]⟩ : ByteArray)) ++ t180).size + 1 ≤ 9223372036854775807
                                    · rw [if_pos c37] at H
                                      have c37b0 := eq_true c37
                                      have c37b1 : decide (((((((t176 ++ (⟨#[32]⟩ : ByteArray)) ++ x6_12) ++ (⟨#[32]⟩ : ByteArray)) ++ t178) ++ (⟨#[32]⟩ : ByteArray)) ++ t180).size + 1 ≤ 9223372036854775807) = true := decide_eq_true c37
                                      try have c37b2 : (9223372036854775807 < ((((((t176 ++ (⟨#[32]⟩ : ByteArray)) ++ x6_12) ++ (⟨#[32]⟩ : ByteArray)) ++ t178) ++ (⟨#[32]⟩ : ByteArray)) ++ t180).size + 1) = False := eq_false (Nat.not_lt.2 c37)
                                      try have c37b3 : (9223372036854775807 < t176.size + 1 + x6_12.size + 1 + t178.size + 1 + t180.size + 1) = False := eq_false (Nat.not_lt.2 (by have h_ := c37; simp only [ByteArray.size_append] at h_; exact h_))
                                      by_cases c38 : 3 < (y170.length : Int)
                                      · rw [if_pos c38] at H
                                        have c38b0 : decide (3 < (y170.length : Int)) = true := decide_eq_true c38
                                        have c38b1 : decide (3 < y170.length) = true := decide_eq_true (by omega)
                                        clear c38
                                        replace H := Option.bind_eq_some_iff.mp H
                                        obtain ⟨t182, A390, H⟩ := H
                                        replace H : (if (((((((t176 ++ (⟨#[32]⟩ : ByteArray)) ++ x6_12) ++ (⟨#[32]⟩ : ByteArray)) ++ t178) ++ (⟨#[32]⟩ : ByteArray)) ++ t180) ++ (⟨#[32]⟩ : ByteArray)).size + t182.size ≤ 9223372036854775807 then (if a0_1 = 3 then (if ((((((((t176 ++ (⟨#[32]⟩ : ByteArray)) ++ x6_12) ++ (⟨#[32]⟩ : ByteArray)) ++ t178) ++ (⟨#[32]⟩ : ByteArray)) ++ t180) ++ (⟨#[32]⟩ : ByteArray)) ++ t182).size + 1 ≤ 9223372036854775807 then (if 4 < (y170.length : Int) then ((insolvencyref25_digits.f kj18 (rd y170 4)).bind fun t184 => (if (((((((((t176 ++ (⟨#[32]⟩ : ByteArray)) ++ x6_12) ++ (⟨#[32]⟩ : ByteArray)) ++ t178) ++ (⟨#[32]⟩ : ByteArray)) ++ t180) ++ (⟨#[32]⟩ : ByteArray)) ++ t182) ++ (⟨#[32]⟩ : ByteArray)).size + t184.size ≤ 9223372036854775807 then (if ((((((((((t176 ++ (⟨#[32]⟩ : ByteArray)) ++ x6_12) ++ (⟨#[32]⟩ : ByteArray)) ++ t178) ++ (⟨#[32]⟩ : ByteArray)) ++ t180) ++ (⟨#[32]⟩ : ByteArray)) ++ t182) ++ (⟨#[32]⟩ : ByteArray)) ++ t184).size + 1 ≤ 9223372036854775807 then (some (((((((((((t176 ++ (⟨#[32]⟩ : ByteArray)) ++ x6_12) ++ (⟨#[32]⟩ : ByteArray)) ++ t178) ++ (⟨#[32]⟩ : ByteArray)) ++ t180) ++ (⟨#[32]⟩ : ByteArray)) ++ t182) ++ (⟨#[32]⟩ : ByteArray)) ++ t184) ++ (⟨#[10]⟩ : ByteArray), true)) else (none)) else (none))) else (none)) else (none)) else (if ((((((((t176 ++ (⟨#[32]⟩ : ByteArray)) ++ x6_12) ++ (⟨#[32]⟩ : ByteArray)) ++ t178) ++ (⟨#[32]⟩ : ByteArray)) ++ t180) ++ (⟨#[32]⟩ : ByteArray)) ++ t182).size + 1 ≤ 9223372036854775807 then (some (((((((((t176 ++ (⟨#[32]⟩ : ByteArray)) ++ x6_12) ++ (⟨#[32]⟩ : ByteArray)) ++ t178) ++ (⟨#[32]⟩ : ByteArray)) ++ t180) ++ (⟨#[32]⟩ : ByteArray)) ++ t182) ++ (⟨#[10]⟩ : ByteArray), true)) else (none))) else (none)) = some (r1, r2) := H
                                        have A39 := Aside0.mk A390
                                        clear A390
                                        by_cases c40 : (((((((t176 ++ (⟨#[32]⟩ : ByteArray)) ++ x6_12) ++ (⟨#[32]⟩ : ByteArray)) ++ t178) ++ (⟨#[32]⟩ : ByteArray)) ++ t180) ++ (⟨#[32]⟩ : ByteArray)).size + t182.size ≤ 9223372036854775807
                                        · rw [if_pos c40] at H
                                          have c40b0 := eq_true c40
                                          have c40b1 : decide ((((((((t176 ++ (⟨#[32]⟩ : ByteArray)) ++ x6_12) ++ (⟨#[32]⟩ : ByteArray)) ++ t178) ++ (⟨#[32]⟩ : ByteArray)) ++ t180) ++ (⟨#[32]⟩ : ByteArray)).size + t182.size ≤ 9223372036854775807) = true := decide_eq_true c40
                                          try have c40b2 : (9223372036854775807 < (((((((t176 ++ (⟨#[32]⟩ : ByteArray)) ++ x6_12) ++ (⟨#[32]⟩ : ByteArray)) ++ t178) ++ (⟨#[32]⟩ : ByteArray)) ++ t180) ++ (⟨#[32]⟩ : ByteArray)).size + t182.size) = False := eq_false (Nat.not_lt.2 c40)
                                          try have c40b3 : (9223372036854775807 < t176.size + 1 + x6_12.size + 1 + t178.size + 1 + t180.size + 1 + t182.size) = False := eq_false (Nat.not_lt.2 (by have h_ := c40; simp only [ByteArray.size_append] at h_; exact h_))
                                          by_cases c41 : a0_1 = 3
                                          · rw [if_pos c41] at H
                                            have c41b0 : (a0_1 == 3) = true := beq_iff_eq.mpr c41
                                            have c41b1 : (a0_1 != 3) = false := bne_eq_false_iff_eq.mpr c41
                                            clear c41
                                            by_cases c42 : ((((((((t176 ++ (⟨#[32]⟩ : ByteArray)) ++ x6_12) ++ (⟨#[32]⟩ : ByteArray)) ++ t178) ++ (⟨#[32]⟩ : ByteArray)) ++ t180) ++ (⟨#[32]⟩ : ByteArray)) ++ t182).size + 1 ≤ 9223372036854775807
                                            · rw [if_pos c42] at H
                                              have c42b0 := eq_true c42
                                              have c42b1 : decide (((((((((t176 ++ (⟨#[32]⟩ : ByteArray)) ++ x6_12) ++ (⟨#[32]⟩ : ByteArray)) ++ t178) ++ (⟨#[32]⟩ : ByteArray)) ++ t180) ++ (⟨#[32]⟩ : ByteArray)) ++ t182).size + 1 ≤ 9223372036854775807) = true := decide_eq_true c42
                                              try have c42b2 : (9223372036854775807 < ((((((((t176 ++ (⟨#[32]⟩ : ByteArray)) ++ x6_12) ++ (⟨#[32]⟩ : ByteArray)) ++ t178) ++ (⟨#[32]⟩ : ByteArray)) ++ t180) ++ (⟨#[32]⟩ : ByteArray)) ++ t182).size + 1) = False := eq_false (Nat.not_lt.2 c42)
                                              try have c42b3 : (9223372036854775807 < t176.size + 1 + x6_12.size + 1 + t178.size + 1 + t180.size + 1 + t182.size + 1) = False := eq_false (Nat.not_lt.2 (by have h_ := c42; simp only [ByteArray.size_append] at h_; exact h_))
                                              by_cases c43 : 4 < (y170.length : Int)
                                              · rw [if_pos c43] at H
                                                have c43b0 : decide (4 < (y170.length : Int)) = true := decide_eq_true c43
                                                have c43b1 : decide (4 < y170.length) = true := decide_eq_true (by omega)
                                                clear c43
                                                replace H := Option.bind_eq_some_iff.mp H
                                                obtain ⟨t184, A440, H⟩ := H
                                                replace H : (if (((((((((t176 ++ (⟨#[32]⟩ : ByteArray)) ++ x6_12) ++ (⟨#[32]⟩ : ByteArray)) ++ t178) ++ (⟨#[32]⟩ : ByteArray)) ++ t180) ++ (⟨#[32]⟩ : ByteArray)) ++ t182) ++ (⟨#[32]⟩ : ByteArray)).size + t184.size ≤ 9223372036854775807 then (if ((((((((((t176 ++ (⟨#[32]⟩ : ByteArray)) ++ x6_12) ++ (⟨#[32]⟩ : ByteArray)) ++ t178) ++ (⟨#[32]⟩ : ByteArray)) ++ t180) ++ (⟨#[32]⟩ : ByteArray)) ++ t182) ++ (⟨#[32]⟩ : ByteArray)) ++ t184).size + 1 ≤ 9223372036854775807 then (some (((((((((((t176 ++ (⟨#[32]⟩ : ByteArray)) ++ x6_12) ++ (⟨#[32]⟩ : ByteArray)) ++ t178) ++ (⟨#[32]⟩ : ByteArray)) ++ t180) ++ (⟨#[32]⟩ : ByteArray)) ++ t182) ++ (⟨#[32]⟩ : ByteArray)) ++ t184) ++ (⟨#[10]⟩ : ByteArray), true)) else (none)) else (none)) = some (r1, r2) := H
                                                have A44 := Aside0.mk A440
                                                clear A440
                                                by_cases c45 : (((((((((t176 ++ (⟨#[32]⟩ : ByteArray)) ++ x6_12) ++ (⟨#[32]⟩ : ByteArray)) ++ t178) ++ (⟨#[32]⟩ : ByteArray)) ++ t180) ++ (⟨#[32]⟩ : ByteArray)) ++ t182) ++ (⟨#[32]⟩ : ByteArray)).size + t184.size ≤ 9223372036854775807
                                                · rw [if_pos c45] at H
                                                  have c45b0 := eq_true c45
                                                  have c45b1 : decide ((((((((((t176 ++ (⟨#[32]⟩ : ByteArray)) ++ x6_12) ++ (⟨#[32]⟩ : ByteArray)) ++ t178) ++ (⟨#[32]⟩ : ByteArray)) ++ t180) ++ (⟨#[32]⟩ : ByteArray)) ++ t182) ++ (⟨#[32]⟩ : ByteArray)).size + t184.size ≤ 9223372036854775807) = true := decide_eq_true c45
                                                  try have c45b2 : (9223372036854775807 < (((((((((t176 ++ (⟨#[32]⟩ : ByteArray)) ++ x6_12) ++ (⟨#[32]⟩ : ByteArray)) ++ t178) ++ (⟨#[32]⟩ : ByteArray)) ++ t180) ++ (⟨#[32]⟩ : ByteArray)) ++ t182) ++ (⟨#[32]⟩ : ByteArray)).size + t184.size) = False := eq_false (Nat.not_lt.2 c45)
                                                  try have c45b3 : (9223372036854775807 < t176.size + 1 + x6_12.size + 1 + t178.size + 1 + t180.size + 1 + t182.size + 1 + t184.size) = False := eq_false (Nat.not_lt.2 (by have h_ := c45; simp only [ByteArray.size_append] at h_; exact h_))
                                                  by_cases c46 : ((((((((((t176 ++ (⟨#[32]⟩ : ByteArray)) ++ x6_12) ++ (⟨#[32]⟩ : ByteArray)) ++ t178) ++ (⟨#[32]⟩ : ByteArray)) ++ t180) ++ (⟨#[32]⟩ : ByteArray)) ++ t182) ++ (⟨#[32]⟩ : ByteArray)) ++ t184).size + 1 ≤ 9223372036854775807
                                                  · rw [if_pos c46] at H
                                                    have c46b0 := eq_true c46
                                                    have c46b1 : decide (((((((((((t176 ++ (⟨#[32]⟩ : ByteArray)) ++ x6_12) ++ (⟨#[32]⟩ : ByteArray)) ++ t178) ++ (⟨#[32]⟩ : ByteArray)) ++ t180) ++ (⟨#[32]⟩ : ByteArray)) ++ t182) ++ (⟨#[32]⟩ : ByteArray)) ++ t184).size + 1 ≤ 9223372036854775807) = true := decide_eq_true c46
                                                    try have c46b2 : (9223372036854775807 < ((((((((((t176 ++ (⟨#[32]⟩ : ByteArray)) ++ x6_12) ++ (⟨#[32]⟩ : ByteArray)) ++ t178) ++ (⟨#[32]⟩ : ByteArray)) ++ t180) ++ (⟨#[32]⟩ : ByteArray)) ++ t182) ++ (⟨#[32]⟩ : ByteArray)) ++ t184).size + 1) = False := eq_false (Nat.not_lt.2 c46)
                                                    try have c46b3 : (9223372036854775807 < t176.size + 1 + x6_12.size + 1 + t178.size + 1 + t180.size + 1 + t182.size + 1 + t184.size + 1) = False := eq_false (Nat.not_lt.2 (by have h_ := c46; simp only [ByteArray.size_append] at h_; exact h_))
                                                    simp only [Option.some.injEq, Prod.mk.injEq] at H
                                                    obtain ⟨rfl, rfl⟩ := H
                                                    try go_wp2
                                                    have n0_ := Aside0.mk (Kd.R_drew HO_4.out)
                                                    have n1_ := Aside0.mk (blk_drew BK169.out)
                                                    have n2_ := Aside0.mk (below_drew1 HB.out)
                                                    clear HO_4
                                                    clear BK169
                                                    clear HB
                                                    have HO_4 := n0_
                                                    have BK169 := n1_
                                                    have HB := n2_
                                                    clear n0_ n1_ n2_
                                                    have p175 : 0 ≤ (0 : Int) := (by omega)
                                                    have q175 : 0 < (y170.length : Int) := of_decide_eq_true (by first | (with_reducible assumption) | assumption)
                                                    obtain ⟨ad175, e175, hx175_0⟩ := Kd.at_int (Kd.R_reads' HO_4.out).2.2 0 p175 q175
                                                    cases e175
                                                    have qi175 : (0 < y170.length) = True := eq_true (by omega)
                                                    (try rw [show ((0 : Int)).toNat = 0 from rfl] at hx175_0)
                                                    (try rw [Addr.add_zero'] at hx175_0)
                                                    replace p175 := eq_true p175
                                                    replace q175 := eq_true q175
                                                    have p177 : 0 ≤ (1 : Int) := (by omega)
                                                    have q177 : 1 < (y170.length : Int) := of_decide_eq_true (by first | (with_reducible assumption) | assumption)
                                                    obtain ⟨ad177, e177, hx177_0⟩ := Kd.at_int (Kd.R_reads' HO_4.out).2.2 1 p177 q177
                                                    obtain rfl : ad175 = ad177 := (by injection e177)
                                                    (try simp only [show (1 : Int).toNat = 1 from rfl, Nat.reduceMul, Nat.reduceEqDiff, Go.Addr.add, ↓reduceIte] at hx177_0)
                                                    have qi177 : (1 < y170.length) = True := eq_true (by omega)
                                                    (try rw [show ((1 : Int)).toNat = 1 from rfl] at hx177_0)
                                                    replace p177 := eq_true p177
                                                    replace q177 := eq_true q177
                                                    have p179 : 0 ≤ (2 : Int) := (by omega)
                                                    have q179 : 2 < (y170.length : Int) := of_decide_eq_true (by first | (with_reducible assumption) | assumption)
                                                    obtain ⟨ad179, e179, hx179_0⟩ := Kd.at_int (Kd.R_reads' HO_4.out).2.2 2 p179 q179
                                                    obtain rfl : ad175 = ad179 := (by injection e179)
                                                    (try simp only [show (2 : Int).toNat = 2 from rfl, Nat.reduceMul, Nat.reduceEqDiff, Go.Addr.add, ↓reduceIte] at hx179_0)
                                                    have qi179 : (2 < y170.length) = True := eq_true (by omega)
                                                    (try rw [show ((2 : Int)).toNat = 2 from rfl] at hx179_0)
                                                    replace p179 := eq_true p179
                                                    replace q179 := eq_true q179
                                                    have p181 : 0 ≤ (3 : Int) := (by omega)
                                                    have q181 : 3 < (y170.length : Int) := of_decide_eq_true (by first | (with_reducible assumption) | assumption)
                                                    obtain ⟨ad181, e181, hx181_0⟩ := Kd.at_int (Kd.R_reads' HO_4.out).2.2 3 p181 q181
                                                    obtain rfl : ad175 = ad181 := (by injection e181)
                                                    (try simp only [show (3 : Int).toNat = 3 from rfl, Nat.reduceMul, Nat.reduceEqDiff, Go.Addr.add, ↓reduceIte] at hx181_0)
                                                    have qi181 : (3 < y170.length) = True := eq_true (by omega)
                                                    (try rw [show ((3 : Int)).toNat = 3 from rfl] at hx181_0)
                                                    replace p181 := eq_true p181
                                                    replace q181 := eq_true q181
                                                    refine start_ (n := 26) (S := fun w' => w'.cell? ad175 = some (.int .i64 (rd y170 0)) ∧ w'.cell? ⟨ad175.block, ad175.off + 1, none⟩ = some (.int .i64 (rd y170 1)) ∧ w'.cell? ⟨ad175.block, ad175.off + 2, none⟩ = some (.int .i64 (rd y170 2)) ∧ w'.cell? ⟨ad175.block, ad175.off + 3, none⟩ = some (.int .i64 (rd y170 3))) (ds := []) #[false, false, false, false, false, false, false, false, false, false, false, false, false, false, false, false, false, false, false, false, false, false, false, false, false, false] (by kernel_rfl) rfl rfl ⟨hx175_0, hx177_0, hx179_0, hx181_0⟩ (fun hHeld => ?_); refine with_tabW insolvencyref25_line.tab17 insolvencyref25_line.bits17 (fun HT_ HW_ => ?_)
                                                    generalize wc.drew = w47 at HO_4 BK169 HB hx175_0 hx177_0 hx179_0 hx181_0 hHeld ⊢
                                                    refine pure_ (i := 0) (N := some 57) (v := ?_) (a' := ?_) #[true, false, false, false, false, false, false, false, false, false, false, false, false, false, false, false, false, false, false, false, false, false, false, false, false, false] rfl rfl (any_of HT_.out (by kernel_rfl)) (fun _ _ _ h => h) (Or.inl ⟨by rfl, ?_⟩) ?_ ?_
                                                    rotate_left
                                                    · intro w'
                                                      go_simp
                                                      with_reducible rfl
                                                    rotate_left
                                                    · simp only [Act.put, List.setIfInBounds_toArray, List.set_cons_zero, List.set_cons_succ, i64_w, i32_w]
                                                      rfl
                                                    refine pure_ (i := 1) (N := some 58) (v := ?_) (a' := ?_) #[true, true, false, false, false, false, false, false, false, false, false, false, false, false, false, false, false, false, false, false, false, false, false, false, false, false] rfl rfl (any_of HT_.out (by kernel_rfl)) (fun _ _ _ h => h) (Or.inl ⟨by rfl, ?_⟩) ?_ ?_
                                                    rotate_left
                                                    · intro w'
                                                      go_simp
                                                      with_reducible rfl
                                                    rotate_left
                                                    · simp only [Act.put, List.setIfInBounds_toArray, List.set_cons_zero, List.set_cons_succ, i64_w, i32_w]
                                                      rfl
                                                    refine pure_ (i := 5) (N := some 62) (v := ?_) (a' := ?_) #[true, true, false, false, false, true, false, false, false, false, false, false, false, false, false, false, false, false, false, false, false, false, false, false, false, false] rfl rfl (any_of HT_.out (by kernel_rfl)) (fun _ _ _ h => h) (Or.inl ⟨by rfl, ?_⟩) ?_ ?_
                                                    rotate_left
                                                    · intro w'
                                                      go_simp
                                                      with_reducible rfl
                                                    rotate_left
                                                    · simp only [Act.put, List.setIfInBounds_toArray, List.set_cons_zero, List.set_cons_succ, i64_w, i32_w]
                                                      rfl
                                                    refine pure_ (i := 8) (N := some 65) (v := ?_) (a' := ?_) #[true, true, false, false, false, true, false, false, true, false, false, false, false, false, false, false, false, false, false, false, false, false, false, false, false, false] rfl rfl (any_of HT_.out (by kernel_rfl)) (fun _ _ _ h => h) (Or.inl ⟨by rfl, ?_⟩) ?_ ?_
                                                    rotate_left
                                                    · intro w'
                                                      go_simp
                                                      with_reducible rfl
                                                    rotate_left
                                                    · simp only [Act.put, List.setIfInBounds_toArray, List.set_cons_zero, List.set_cons_succ, i64_w, i32_w]
                                                      rfl
                                                    refine pure_ (i := 9) (N := some 66) (v := ?_) (a' := ?_) #[true, true, false, false, false, true, false, false, true, true, false, false, false, false, false, false, false, false, false, false, false, false, false, false, false, false] rfl rfl (any_of HT_.out (by kernel_rfl)) (fun _ _ _ h => h) (Or.inl ⟨by rfl, ?_⟩) ?_ ?_
                                                    rotate_left
                                                    · intro w'
                                                      go_simp
                                                      with_reducible rfl
                                                    rotate_left
                                                    · simp only [Act.put, List.setIfInBounds_toArray, List.set_cons_zero, List.set_cons_succ, i64_w, i32_w]
                                                      rfl
                                                    refine pure_ (i := 14) (N := some 71) (v := ?_) (a' := ?_) #[true, true, false, false, false, true, false, false, true, true, false, false, false, false, true, false, false, false, false, false, false, false, false, false, false, false] rfl rfl (any_of HT_.out (by kernel_rfl)) (fun _ _ _ h => h) (Or.inl ⟨by rfl, ?_⟩) ?_ ?_
                                                    rotate_left
                                                    · intro w'
                                                      go_simp
                                                      with_reducible rfl
                                                    rotate_left
                                                    · simp only [Act.put, List.setIfInBounds_toArray, List.set_cons_zero, List.set_cons_succ, i64_w, i32_w]
                                                      rfl
                                                    refine pure_ (i := 15) (N := some 72) (v := ?_) (a' := ?_) #[true, true, false, false, false, true, false, false, true, true, false, false, false, false, true, true, false, false, false, false, false, false, false, false, false, false] rfl rfl (any_of HT_.out (by kernel_rfl)) (fun _ _ _ h => h) (Or.inl ⟨by rfl, ?_⟩) ?_ ?_
                                                    rotate_left
                                                    · intro w'
                                                      go_simp
                                                      with_reducible rfl
                                                    rotate_left
                                                    · simp only [Act.put, List.setIfInBounds_toArray, List.set_cons_zero, List.set_cons_succ, i64_w, i32_w]
                                                      rfl
                                                    refine pure_ (i := 20) (N := some 77) (v := ?_) (a' := ?_) #[true, true, false, false, false, true, false, false, true, true, false, false, false, false, true, true, false, false, false, false, true, false, false, false, false, false] rfl rfl (any_of HT_.out (by kernel_rfl)) (fun _ _ _ h => h) (Or.inl ⟨by rfl, ?_⟩) ?_ ?_
                                                    rotate_left
                                                    · intro w'
                                                      go_simp
                                                      with_reducible rfl
                                                    rotate_left
                                                    · simp only [Act.put, List.setIfInBounds_toArray, List.set_cons_zero, List.set_cons_succ, i64_w, i32_w]
                                                      rfl
                                                    refine pure_ (i := 21) (N := some 78) (v := ?_) (a' := ?_) #[true, true, false, false, false, true, false, false, true, true, false, false, false, false, true, true, false, false, false, false, true, true, false, false, false, false] rfl rfl (any_of HT_.out (by kernel_rfl)) (fun _ _ _ h => h) (Or.inl ⟨by rfl, ?_⟩) ?_ ?_
                                                    rotate_left
                                                    · intro w'
                                                      go_simp
                                                      with_reducible rfl
                                                    rotate_left
                                                    · simp only [Act.put, List.setIfInBounds_toArray, List.set_cons_zero, List.set_cons_succ, i64_w, i32_w]
                                                      rfl
                                                    refine take_ (i := 2) (N := some 59) (v := ?_) (a' := ?_) #[true, true, true, false, false, true, false, false, true, true, false, false, false, false, true, true, false, false, false, false, true, true, false, false, false, false] rfl rfl (take_ofW HT_.out HW_.out (by kernel_rfl)) (fun _ _ _ h => h) (Or.inl ⟨by rfl, ?_⟩) hHeld ?_ ?_
                                                    rotate_left
                                                    · rintro w' ⟨s0, s1, s2, s3⟩
                                                      go_simp
                                                      with_reducible rfl
                                                    rotate_left
                                                    · simp only [Act.put, List.setIfInBounds_toArray, List.set_cons_zero, List.set_cons_succ, i64_w, i32_w]
                                                      rfl
                                                    refine take_ (i := 10) (N := some 67) (v := ?_) (a' := ?_) #[true, true, true, false, false, true, false, false, true, true, true, false, false, false, true, true, false, false, false, false, true, true, false, false, false, false] rfl rfl (take_ofW HT_.out HW_.out (by kernel_rfl)) (fun _ _ _ h => h) (Or.inl ⟨by rfl, ?_⟩) hHeld ?_ ?_
                                                    rotate_left
                                                    · rintro w' ⟨s0, s1, s2, s3⟩
                                                      go_simp
                                                      with_reducible rfl
                                                    rotate_left
                                                    · simp only [Act.put, List.setIfInBounds_toArray, List.set_cons_zero, List.set_cons_succ, i64_w, i32_w]
                                                      rfl
                                                    refine take_ (i := 16) (N := some 73) (v := ?_) (a' := ?_) #[true, true, true, false, false, true, false, false, true, true, true, false, false, false, true, true, true, false, false, false, true, true, false, false, false, false] rfl rfl (take_ofW HT_.out HW_.out (by kernel_rfl)) (fun _ _ _ h => h) (Or.inl ⟨by rfl, ?_⟩) hHeld ?_ ?_
                                                    rotate_left
                                                    · rintro w' ⟨s0, s1, s2, s3⟩
                                                      go_simp
                                                      with_reducible rfl
                                                    rotate_left
                                                    · simp only [Act.put, List.setIfInBounds_toArray, List.set_cons_zero, List.set_cons_succ, i64_w, i32_w]
                                                      rfl
                                                    refine take_ (i := 22) (N := some 79) (v := ?_) (a' := ?_) #[true, true, true, false, false, true, false, false, true, true, true, false, false, false, true, true, true, false, false, false, true, true, true, false, false, false] rfl rfl (take_ofW HT_.out HW_.out (by kernel_rfl)) (fun _ _ _ h => h) (Or.inl ⟨by rfl, ?_⟩) hHeld ?_ ?_
                                                    rotate_left
                                                    · rintro w' ⟨s0, s1, s2, s3⟩
                                                      go_simp
                                                      with_reducible rfl
                                                    rotate_left
                                                    · simp only [Act.put, List.setIfInBounds_toArray, List.set_cons_zero, List.set_cons_succ, i64_w, i32_w]
                                                      rfl
                                                    refine one_ (i := 3) (N := some 60) #[true, true, true, true, false, true, false, false, true, true, true, false, false, false, true, true, true, false, false, false, true, true, true, false, false, false] rfl rfl (one_of HT_.out (by kernel_rfl)) (by decide) (fun K hK => ?_)
                                                    refine goes_ Tryd.func54 (by kernel_rfl) rfl #[.int .i64 (rd y170 0)] (by rfl) rfl rfl (by (try simp only [List.map_toArray, List.map_cons, List.map_nil]); first | done | rfl | (simp only [List.length_drop, List.length_take]; rfl)) ?_
                                                    with_reducible refine (insolvencyref25_digits.calls kj18 (rd y170 0) t176 _ A26.out).mono ?_
                                                    rintro e w48 ⟨rfl, hb⟩
                                                    have HS0_ := (hb.cell (World.block_lt_of_cell? _ _ (hHeld.1))).trans (hHeld.1)
                                                    have HS1_ := (hb.cell (World.block_lt_of_cell? _ _ (hHeld.2.1))).trans (hHeld.2.1)
                                                    have HS2_ := (hb.cell (World.block_lt_of_cell? _ _ (hHeld.2.2.1))).trans (hHeld.2.2.1)
                                                    have HS3_ := (hb.cell (World.block_lt_of_cell? _ _ (hHeld.2.2.2))).trans (hHeld.2.2.2)
                                                    refine ⟨_, rfl, ?_⟩
                                                    have n0_ := Aside0.mk (Kd.R_below (by (with_reducible repeat (first | apply Kd.R_alloc | apply Kd.R_drewN | apply Kd.R_drew)); exact HO_4.out) hb)
                                                    have n1_ := Aside0.mk (blk_below (g := gb169) (o := .cells #[.int .i64 a0_0, .int .i64 a0_1, .int .i64 a0_2, .int .i64 a0_3, .int .i64 a0_4, .int .i64 a0_5] 39 (0, 0)) (by (with_reducible repeat (first | refine blk_drewN ?_ _ | refine blk_drew ?_ | refine blk_alloc ?_ _)); exact BK169.out) hb)
                                                    have n2_ := Aside0.mk (below_step (by repeat (first | (with_reducible first | exact HB.out | apply below_alloc | apply pw_below_drewN | apply below_drew1 | refine below_set ?_ GE169.out) | exact HB.out)) hb)
                                                    clear HO_4
                                                    clear BK169
                                                    clear HB
                                                    have HO_4 := n0_
                                                    have BK169 := n1_
                                                    have HB := n2_
                                                    clear n0_ n1_ n2_
                                                    (try clear hb)
                                                    (try clear hb2)
                                                    (try clear hk)
                                                    (try clear hi)
                                                    refine hK.out _ _ ⟨HS0_, HS1_, HS2_, HS3_⟩ (fun hHeld => ?_)
                                                    clear hK K
                                                    refine norm_ (a' := ?_) ?_ ?_
                                                    rotate_left
                                                    · show Act.put _ (some 60) _ = _
                                                      simp only [Act.put, List.setIfInBounds_toArray, List.set_cons_zero, List.set_cons_succ, i64_w, i32_w]
                                                      rfl
                                                    refine pure_ (i := 4) (N := some 61) (v := ?_) (a' := ?_) #[true, true, true, true, true, true, false, false, true, true, true, false, false, false, true, true, true, false, false, false, true, true, true, false, false, false] rfl rfl (any_of HT_.out (by kernel_rfl)) (fun _ _ _ h => h) (Or.inl ⟨by rfl, ?_⟩) ?_ ?_
                                                    rotate_left
                                                    · intro w'
                                                      go_simp
                                                      with_reducible rfl
                                                    rotate_left
                                                    · simp only [Act.put, List.setIfInBounds_toArray, List.set_cons_zero, List.set_cons_succ, i64_w, i32_w]
                                                      rfl
                                                    refine pure_ (i := 6) (N := some 63) (v := ?_) (a' := ?_) #[true, true, true, true, true, true, true, false, true, true, true, false, false, false, true, true, true, false, false, false, true, true, true, false, false, false] rfl rfl (any_of HT_.out (by kernel_rfl)) (fun _ _ _ h => h) (Or.inl ⟨by rfl, ?_⟩) ?_ ?_
                                                    rotate_left
                                                    · intro w'
                                                      go_simp
                                                      with_reducible rfl
                                                    rotate_left
                                                    · simp only [Act.put, List.setIfInBounds_toArray, List.set_cons_zero, List.set_cons_succ, i64_w, i32_w]
                                                      rfl
                                                    refine pure_ (i := 7) (N := some 64) (v := ?_) (a' := ?_) #[true, true, true, true, true, true, true, true, true, true, true, false, false, false, true, true, true, false, false, false, true, true, true, false, false, false] rfl rfl (any_of HT_.out (by kernel_rfl)) (fun _ _ _ h => h) (Or.inl ⟨by rfl, ?_⟩) ?_ ?_
                                                    rotate_left
                                                    · intro w'
                                                      go_simp
                                                      with_reducible rfl
                                                    rotate_left
                                                    · simp only [Act.put, List.setIfInBounds_toArray, List.set_cons_zero, List.set_cons_succ, i64_w, i32_w]
                                                      rfl
                                                    refine one_ (i := 11) (N := some 68) #[true, true, true, true, true, true, true, true, true, true, true, true, false, false, true, true, true, false, false, false, true, true, true, false, false, false] rfl rfl (one_of HT_.out (by kernel_rfl)) (by decide) (fun K hK => ?_)
                                                    refine goes_ Tryd.func54 (by kernel_rfl) rfl #[.int .i64 (rd y170 1)] (by rfl) rfl rfl (by (try simp only [List.map_toArray, List.map_cons, List.map_nil]); first | done | rfl | (simp only [List.length_drop, List.length_take]; rfl)) ?_
                                                    with_reducible refine (insolvencyref25_digits.calls kj18 (rd y170 1) t178 _ A31.out).mono ?_
                                                    rintro e w49 ⟨rfl, hb⟩
                                                    have HS0_ := (hb.cell (World.block_lt_of_cell? _ _ (hHeld.1))).trans (hHeld.1)
                                                    have HS1_ := (hb.cell (World.block_lt_of_cell? _ _ (hHeld.2.1))).trans (hHeld.2.1)
                                                    have HS2_ := (hb.cell (World.block_lt_of_cell? _ _ (hHeld.2.2.1))).trans (hHeld.2.2.1)
                                                    have HS3_ := (hb.cell (World.block_lt_of_cell? _ _ (hHeld.2.2.2))).trans (hHeld.2.2.2)
                                                    refine ⟨_, rfl, ?_⟩
                                                    have n0_ := Aside0.mk (Kd.R_below (by (with_reducible repeat (first | apply Kd.R_alloc | apply Kd.R_drewN | apply Kd.R_drew)); exact HO_4.out) hb)
                                                    have n1_ := Aside0.mk (blk_below (g := gb169) (o := .cells #[.int .i64 a0_0, .int .i64 a0_1, .int .i64 a0_2, .int .i64 a0_3, .int .i64 a0_4, .int .i64 a0_5] 39 (0, 0)) (by (with_reducible repeat (first | refine blk_drewN ?_ _ | refine blk_drew ?_ | refine blk_alloc ?_ _)); exact BK169.out) hb)
                                                    have n2_ := Aside0.mk (below_step (by repeat (first | (with_reducible first | exact HB.out | apply below_alloc | apply pw_below_drewN | apply below_drew1 | refine below_set ?_ GE169.out) | exact HB.out)) hb)
                                                    clear HO_4
                                                    clear BK169
                                                    clear HB
                                                    have HO_4 := n0_
                                                    have BK169 := n1_
                                                    have HB := n2_
                                                    clear n0_ n1_ n2_
                                                    (try clear hb)
                                                    (try clear hb2)
                                                    (try clear hk)
                                                    (try clear hi)
                                                    refine hK.out _ _ ⟨HS0_, HS1_, HS2_, HS3_⟩ (fun hHeld => ?_)
                                                    clear hK K
                                                    refine norm_ (a' := ?_) ?_ ?_
                                                    rotate_left
                                                    · show Act.put _ (some 68) _ = _
                                                      simp only [Act.put, List.setIfInBounds_toArray, List.set_cons_zero, List.set_cons_succ, i64_w, i32_w]
                                                      rfl
                                                    refine pure_ (i := 12) (N := some 69) (v := ?_) (a' := ?_) #[true, true, true, true, true, true, true, true, true, true, true, true, true, false, true, true, true, false, false, false, true, true, true, false, false, false] rfl rfl (any_of HT_.out (by kernel_rfl)) (fun _ _ _ h => h) (Or.inl ⟨by rfl, ?_⟩) ?_ ?_
                                                    rotate_left
                                                    · intro w'
                                                      go_simp
                                                      with_reducible rfl
                                                    rotate_left
                                                    · simp only [Act.put, List.setIfInBounds_toArray, List.set_cons_zero, List.set_cons_succ, i64_w, i32_w]
                                                      rfl
                                                    refine pure_ (i := 13) (N := some 70) (v := ?_) (a' := ?_) #[true, true, true, true, true, true, true, true, true, true, true, true, true, true, true, true, true, false, false, false, true, true, true, false, false, false] rfl rfl (any_of HT_.out (by kernel_rfl)) (fun _ _ _ h => h) (Or.inl ⟨by rfl, ?_⟩) ?_ ?_
                                                    rotate_left
                                                    · intro w'
                                                      go_simp
                                                      with_reducible rfl
                                                    rotate_left
                                                    · simp only [Act.put, List.setIfInBounds_toArray, List.set_cons_zero, List.set_cons_succ, i64_w, i32_w]
                                                      rfl
                                                    refine one_ (i := 17) (N := some 74) #[true, true, true, true, true, true, true, true, true, true, true, true, true, true, true, true, true, true, false, false, true, true, true, false, false, false] rfl rfl (one_of HT_.out (by kernel_rfl)) (by decide) (fun K hK => ?_)
                                                    refine goes_ Tryd.func54 (by kernel_rfl) rfl #[.int .i64 (rd y170 2)] (by rfl) rfl rfl (by (try simp only [List.map_toArray, List.map_cons, List.map_nil]); first | done | rfl | (simp only [List.length_drop, List.length_take]; rfl)) ?_
                                                    with_reducible refine (insolvencyref25_digits.calls kj18 (rd y170 2) t180 _ A35.out).mono ?_
                                                    rintro e w50 ⟨rfl, hb⟩
                                                    have HS0_ := (hb.cell (World.block_lt_of_cell? _ _ (hHeld.1))).trans (hHeld.1)
                                                    have HS1_ := (hb.cell (World.block_lt_of_cell? _ _ (hHeld.2.1))).trans (hHeld.2.1)
                                                    have HS2_ := (hb.cell (World.block_lt_of_cell? _ _ (hHeld.2.2.1))).trans (hHeld.2.2.1)
                                                    have HS3_ := (hb.cell (World.block_lt_of_cell? _ _ (hHeld.2.2.2))).trans (hHeld.2.2.2)
                                                    refine ⟨_, rfl, ?_⟩
                                                    have n0_ := Aside0.mk (Kd.R_below (by (with_reducible repeat (first | apply Kd.R_alloc | apply Kd.R_drewN | apply Kd.R_drew)); exact HO_4.out) hb)
                                                    have n1_ := Aside0.mk (blk_below (g := gb169) (o := .cells #[.int .i64 a0_0, .int .i64 a0_1, .int .i64 a0_2, .int .i64 a0_3, .int .i64 a0_4, .int .i64 a0_5] 39 (0, 0)) (by (with_reducible repeat (first | refine blk_drewN ?_ _ | refine blk_drew ?_ | refine blk_alloc ?_ _)); exact BK169.out) hb)
                                                    have n2_ := Aside0.mk (below_step (by repeat (first | (with_reducible first | exact HB.out | apply below_alloc | apply pw_below_drewN | apply below_drew1 | refine below_set ?_ GE169.out) | exact HB.out)) hb)
                                                    clear HO_4
                                                    clear BK169
                                                    clear HB
                                                    have HO_4 := n0_
                                                    have BK169 := n1_
                                                    have HB := n2_
                                                    clear n0_ n1_ n2_
                                                    (try clear hb)
                                                    (try clear hb2)
                                                    (try clear hk)
                                                    (try clear hi)
                                                    refine hK.out _ _ ⟨HS0_, HS1_, HS2_, HS3_⟩ (fun hHeld => ?_)
                                                    clear hK K
                                                    refine norm_ (a' := ?_) ?_ ?_
                                                    rotate_left
                                                    · show Act.put _ (some 74) _ = _
                                                      simp only [Act.put, List.setIfInBounds_toArray, List.set_cons_zero, List.set_cons_succ, i64_w, i32_w]
                                                      rfl
                                                    refine pure_ (i := 18) (N := some 75) (v := ?_) (a' := ?_) #[true, true, true, true, true, true, true, true, true, true, true, true, true, true, true, true, true, true, true, false, true, true, true, false, false, false] rfl rfl (any_of HT_.out (by kernel_rfl)) (fun _ _ _ h => h) (Or.inl ⟨by rfl, ?_⟩) ?_ ?_
                                                    rotate_left
                                                    · intro w'
                                                      go_simp
                                                      with_reducible rfl
                                                    rotate_left
                                                    · simp only [Act.put, List.setIfInBounds_toArray, List.set_cons_zero, List.set_cons_succ, i64_w, i32_w]
                                                      rfl
                                                    refine pure_ (i := 19) (N := some 76) (v := ?_) (a' := ?_) #[true, true, true, true, true, true, true, true, true, true, true, true, true, true, true, true, true, true, true, true, true, true, true, false, false, false] rfl rfl (any_of HT_.out (by kernel_rfl)) (fun _ _ _ h => h) (Or.inl ⟨by rfl, ?_⟩) ?_ ?_
                                                    rotate_left
                                                    · intro w'
                                                      go_simp
                                                      with_reducible rfl
                                                    rotate_left
                                                    · simp only [Act.put, List.setIfInBounds_toArray, List.set_cons_zero, List.set_cons_succ, i64_w, i32_w]
                                                      rfl
                                                    refine one_ (i := 23) (N := some 80) #[true, true, true, true, true, true, true, true, true, true, true, true, true, true, true, true, true, true, true, true, true, true, true, true, false, false] rfl rfl (one_of HT_.out (by kernel_rfl)) (by decide) (fun K hK => ?_)
                                                    refine goes_ Tryd.func54 (by kernel_rfl) rfl #[.int .i64 (rd y170 3)] (by rfl) rfl rfl (by (try simp only [List.map_toArray, List.map_cons, List.map_nil]); first | done | rfl | (simp only [List.length_drop, List.length_take]; rfl)) ?_
                                                    with_reducible refine (insolvencyref25_digits.calls kj18 (rd y170 3) t182 _ A39.out).mono ?_
                                                    rintro e w51 ⟨rfl, hb⟩
                                                    have HS0_ := (hb.cell (World.block_lt_of_cell? _ _ (hHeld.1))).trans (hHeld.1)
                                                    have HS1_ := (hb.cell (World.block_lt_of_cell? _ _ (hHeld.2.1))).trans (hHeld.2.1)
                                                    have HS2_ := (hb.cell (World.block_lt_of_cell? _ _ (hHeld.2.2.1))).trans (hHeld.2.2.1)
                                                    have HS3_ := (hb.cell (World.block_lt_of_cell? _ _ (hHeld.2.2.2))).trans (hHeld.2.2.2)
                                                    refine ⟨_, rfl, ?_⟩
                                                    have n0_ := Aside0.mk (Kd.R_below (by (with_reducible repeat (first | apply Kd.R_alloc | apply Kd.R_drewN | apply Kd.R_drew)); exact HO_4.out) hb)
                                                    have n1_ := Aside0.mk (blk_below (g := gb169) (o := .cells #[.int .i64 a0_0, .int .i64 a0_1, .int .i64 a0_2, .int .i64 a0_3, .int .i64 a0_4, .int .i64 a0_5] 39 (0, 0)) (by (with_reducible repeat (first | refine blk_drewN ?_ _ | refine blk_drew ?_ | refine blk_alloc ?_ _)); exact BK169.out) hb)
                                                    have n2_ := Aside0.mk (below_step (by repeat (first | (with_reducible first | exact HB.out | apply below_alloc | apply pw_below_drewN | apply below_drew1 | refine below_set ?_ GE169.out) | exact HB.out)) hb)
                                                    clear HO_4
                                                    clear BK169
                                                    clear HB
                                                    have HO_4 := n0_
                                                    have BK169 := n1_
                                                    have HB := n2_
                                                    clear n0_ n1_ n2_
                                                    (try clear hb)
                                                    (try clear hb2)
                                                    (try clear hk)
                                                    (try clear hi)
                                                    refine hK.out _ _ ⟨HS0_, HS1_, HS2_, HS3_⟩ (fun hHeld => ?_)
                                                    clear hK K
                                                    refine norm_ (a' := ?_) ?_ ?_
                                                    rotate_left
                                                    · show Act.put _ (some 80) _ = _
                                                      simp only [Act.put, List.setIfInBounds_toArray, List.set_cons_zero, List.set_cons_succ, i64_w, i32_w]
                                                      rfl
                                                    refine pure_ (i := 24) (N := some 81) (v := ?_) (a' := ?_) #[true, true, true, true, true, true, true, true, true, true, true, true, true, true, true, true, true, true, true, true, true, true, true, true, true, false] rfl rfl (any_of HT_.out (by kernel_rfl)) (fun _ _ _ h => h) (Or.inl ⟨by rfl, ?_⟩) ?_ ?_
                                                    rotate_left
                                                    · intro w'
                                                      go_simp
                                                      with_reducible rfl
                                                    rotate_left
                                                    · simp only [Act.put, List.setIfInBounds_toArray, List.set_cons_zero, List.set_cons_succ, i64_w, i32_w]
                                                      rfl
                                                    refine pure_ (i := 25) (N := some 7) (v := ?_) (a' := ?_) #[true, true, true, true, true, true, true, true, true, true, true, true, true, true, true, true, true, true, true, true, true, true, true, true, true, true] rfl rfl (any_of HT_.out (by kernel_rfl)) (fun _ _ _ h => h) (Or.inl ⟨by rfl, ?_⟩) ?_ ?_
                                                    rotate_left
                                                    · intro w'
                                                      go_simp
                                                      with_reducible rfl
                                                    rotate_left
                                                    · simp only [Act.put, List.setIfInBounds_toArray, List.set_cons_zero, List.set_cons_succ, i64_w, i32_w]
                                                      rfl
                                                    refine done_ (done_of HT_.out (by kernel_rfl)) ?_
                                                    have hcz52_0 : w51.cell? ⟨gb169, 0, none⟩ = some (.int .i64 a0_0) := (blk_cell BK169.out 0).trans rfl
                                                    have hcz52_1 : w51.cell? ⟨gb169, 1, none⟩ = some (.int .i64 a0_1) := (blk_cell BK169.out 1).trans rfl
                                                    have hcz52_2 : w51.cell? ⟨gb169, 2, none⟩ = some (.int .i64 a0_2) := (blk_cell BK169.out 2).trans rfl
                                                    have hcz52_3 : w51.cell? ⟨gb169, 3, none⟩ = some (.int .i64 a0_3) := (blk_cell BK169.out 3).trans rfl
                                                    have hcz52_4 : w51.cell? ⟨gb169, 4, none⟩ = some (.int .i64 a0_4) := (blk_cell BK169.out 4).trans rfl
                                                    have hcz52_5 : w51.cell? ⟨gb169, 5, none⟩ = some (.int .i64 a0_5) := (blk_cell BK169.out 5).trans rfl
                                                    have hfz52_0 := blk_frozen BK169.out 0
                                                    have hfz52_1 := blk_frozen BK169.out 1
                                                    have hfz52_2 := blk_frozen BK169.out 2
                                                    have hfz52_3 := blk_frozen BK169.out 3
                                                    have hfz52_4 := blk_frozen BK169.out 4
                                                    have hfz52_5 := blk_frozen BK169.out 5
                                                    have p183 : 0 ≤ (4 : Int) := (by omega)
                                                    have q183 : 4 < (y170.length : Int) := of_decide_eq_true (by first | (with_reducible assumption) | assumption)
                                                    obtain ⟨ad183, e183, hx183_0⟩ := Kd.at_int (Kd.R_reads' HO_4.out).2.2 4 p183 q183
                                                    obtain rfl : ad175 = ad183 := (by injection e183)
                                                    (try simp only [show (4 : Int).toNat = 4 from rfl, Nat.reduceMul, Nat.reduceEqDiff, Go.Addr.add, ↓reduceIte] at hx183_0)
                                                    have qi183 : (4 < y170.length) = True := eq_true (by omega)
                                                    (try rw [show ((4 : Int)).toNat = 4 from rfl] at hx183_0)
                                                    replace p183 := eq_true p183
                                                    replace q183 := eq_true q183
                                                    try go_wp2_with (first | ((with_reducible refine gate_callee (f := 54) rfl ?_); refine goesL_ (some 90) rfl rfl Tryd.func54 (by kernel_rfl) rfl #[.int .i64 (rd y170 4)] rfl (by (try simp only [List.map_toArray, List.map_cons, List.map_nil]); first | done | rfl | (simp only [List.length_drop, List.length_take]; rfl)) ?_; (with_reducible refine (insolvencyref25_digits.calls kj18 (rd y170 4) t184 _ A44.out).mono ?_); rintro e w53 ⟨rfl, hb⟩; refine ⟨_, rfl, ?_⟩; have n0_ := Aside0.mk (Kd.R_below (by (with_reducible repeat (first | apply Kd.R_alloc | apply Kd.R_drewN | apply Kd.R_drew)); exact HO_4.out) hb); have n1_ := Aside0.mk (blk_below (g := gb169) (o := .cells #[.int .i64 a0_0, .int .i64 a0_1, .int .i64 a0_2, .int .i64 a0_3, .int .i64 a0_4, .int .i64 a0_5] 39 (0, 0)) (by (with_reducible repeat (first | refine blk_drewN ?_ _ | refine blk_drew ?_ | refine blk_alloc ?_ _)); exact BK169.out) hb); have n2_ := Aside0.mk (below_step (by repeat (first | (with_reducible first | exact HB.out | apply below_alloc | apply pw_below_drewN | apply below_drew1 | refine below_set ?_ GE169.out) | exact HB.out)) hb); clear HO_4; clear BK169; clear HB; have HO_4 := n0_; have BK169 := n1_; have HB := n2_; clear n0_ n1_ n2_; (try clear hb); (try clear hb2); (try clear hk); (try clear hi)))
                                                    go_ret2
                                                    exact ⟨by first | rfl | (simp [errW_none, errW_some] <;> rfl) | (simp [*, errW_none, errW_some] <;> rfl), by repeat (first | (with_reducible first | exact HB.out | apply below_alloc | apply pw_below_drewN | apply below_drew1 | refine below_set ?_ GE169.out) | exact HB.out)⟩
                                                  · rw [if_neg c46] at H
                                                    exact absurd H (by simp)
                                                · rw [if_neg c45] at H
                                                  exact absurd H (by simp)
                                              · rw [if_neg c43] at H
                                                exact absurd H (by simp)
                                            · rw [if_neg c42] at H
                                              exact absurd H (by simp)
                                          · rw [if_neg c41] at H
                                            have c41b0 : (a0_1 == 3) = false := beq_eq_false_iff_ne.mpr c41
                                            have c41b1 : (a0_1 != 3) = true := bne_iff_ne.mpr c41
                                            by_cases c54 : ((((((((t176 ++ (⟨#[32]⟩ : ByteArray)) ++ x6_12) ++ (⟨#[32]⟩ : ByteArray)) ++ t178) ++ (⟨#[32]⟩ : ByteArray)) ++ t180) ++ (⟨#[32]⟩ : ByteArray)) ++ t182).size + 1 ≤ 9223372036854775807
                                            · rw [if_pos c54] at H
                                              have c54b0 := eq_true c54
                                              have c54b1 : decide (((((((((t176 ++ (⟨#[32]⟩ : ByteArray)) ++ x6_12) ++ (⟨#[32]⟩ : ByteArray)) ++ t178) ++ (⟨#[32]⟩ : ByteArray)) ++ t180) ++ (⟨#[32]⟩ : ByteArray)) ++ t182).size + 1 ≤ 9223372036854775807) = true := decide_eq_true c54
                                              try have c54b2 : (9223372036854775807 < ((((((((t176 ++ (⟨#[32]⟩ : ByteArray)) ++ x6_12) ++ (⟨#[32]⟩ : ByteArray)) ++ t178) ++ (⟨#[32]⟩ : ByteArray)) ++ t180) ++ (⟨#[32]⟩ : ByteArray)) ++ t182).size + 1) = False := eq_false (Nat.not_lt.2 c54)
                                              try have c54b3 : (9223372036854775807 < t176.size + 1 + x6_12.size + 1 + t178.size + 1 + t180.size + 1 + t182.size + 1) = False := eq_false (Nat.not_lt.2 (by have h_ := c54; simp only [ByteArray.size_append] at h_; exact h_))
                                              simp only [Option.some.injEq, Prod.mk.injEq] at H
                                              obtain ⟨rfl, rfl⟩ := H
                                              try go_wp2
                                              have n0_ := Aside0.mk (Kd.R_drew HO_4.out)
                                              have n1_ := Aside0.mk (blk_drew BK169.out)
                                              have n2_ := Aside0.mk (below_drew1 HB.out)
                                              clear HO_4
                                              clear BK169
                                              clear HB
                                              have HO_4 := n0_
                                              have BK169 := n1_
                                              have HB := n2_
                                              clear n0_ n1_ n2_
                                              have p175 : 0 ≤ (0 : Int) := (by omega)
                                              have q175 : 0 < (y170.length : Int) := of_decide_eq_true (by first | (with_reducible assumption) | assumption)
                                              obtain ⟨ad175, e175, hx175_0⟩ := Kd.at_int (Kd.R_reads' HO_4.out).2.2 0 p175 q175
                                              cases e175
                                              have qi175 : (0 < y170.length) = True := eq_true (by omega)
                                              (try rw [show ((0 : Int)).toNat = 0 from rfl] at hx175_0)
                                              (try rw [Addr.add_zero'] at hx175_0)
                                              replace p175 := eq_true p175
                                              replace q175 := eq_true q175
                                              have p177 : 0 ≤ (1 : Int) := (by omega)
                                              have q177 : 1 < (y170.length : Int) := of_decide_eq_true (by first | (with_reducible assumption) | assumption)
                                              obtain ⟨ad177, e177, hx177_0⟩ := Kd.at_int (Kd.R_reads' HO_4.out).2.2 1 p177 q177
                                              obtain rfl : ad175 = ad177 := (by injection e177)
                                              (try simp only [show (1 : Int).toNat = 1 from rfl, Nat.reduceMul, Nat.reduceEqDiff, Go.Addr.add, ↓reduceIte] at hx177_0)
                                              have qi177 : (1 < y170.length) = True := eq_true (by omega)
                                              (try rw [show ((1 : Int)).toNat = 1 from rfl] at hx177_0)
                                              replace p177 := eq_true p177
                                              replace q177 := eq_true q177
                                              have p179 : 0 ≤ (2 : Int) := (by omega)
                                              have q179 : 2 < (y170.length : Int) := of_decide_eq_true (by first | (with_reducible assumption) | assumption)
                                              obtain ⟨ad179, e179, hx179_0⟩ := Kd.at_int (Kd.R_reads' HO_4.out).2.2 2 p179 q179
                                              obtain rfl : ad175 = ad179 := (by injection e179)
                                              (try simp only [show (2 : Int).toNat = 2 from rfl, Nat.reduceMul, Nat.reduceEqDiff, Go.Addr.add, ↓reduceIte] at hx179_0)
                                              have qi179 : (2 < y170.length) = True := eq_true (by omega)
                                              (try rw [show ((2 : Int)).toNat = 2 from rfl] at hx179_0)
                                              replace p179 := eq_true p179
                                              replace q179 := eq_true q179
                                              have p181 : 0 ≤ (3 : Int) := (by omega)
                                              have q181 : 3 < (y170.length : Int) := of_decide_eq_true (by first | (with_reducible assumption) | assumption)
                                              obtain ⟨ad181, e181, hx181_0⟩ := Kd.at_int (Kd.R_reads' HO_4.out).2.2 3 p181 q181
                                              obtain rfl : ad175 = ad181 := (by injection e181)
                                              (try simp only [show (3 : Int).toNat = 3 from rfl, Nat.reduceMul, Nat.reduceEqDiff, Go.Addr.add, ↓reduceIte] at hx181_0)
                                              have qi181 : (3 < y170.length) = True := eq_true (by omega)
                                              (try rw [show ((3 : Int)).toNat = 3 from rfl] at hx181_0)
                                              replace p181 := eq_true p181
                                              replace q181 := eq_true q181
                                              refine start_ (n := 26) (S := fun w' => w'.cell? ad175 = some (.int .i64 (rd y170 0)) ∧ w'.cell? ⟨ad175.block, ad175.off + 1, none⟩ = some (.int .i64 (rd y170 1)) ∧ w'.cell? ⟨ad175.block, ad175.off + 2, none⟩ = some (.int .i64 (rd y170 2)) ∧ w'.cell? ⟨ad175.block, ad175.off + 3, none⟩ = some (.int .i64 (rd y170 3))) (ds := []) #[false, false, false, false, false, false, false, false, false, false, false, false, false, false, false, false, false, false, false, false, false, false, false, false, false, false] (by kernel_rfl) rfl rfl ⟨hx175_0, hx177_0, hx179_0, hx181_0⟩ (fun hHeld => ?_); refine with_tabW insolvencyref25_line.tab17 insolvencyref25_line.bits17 (fun HT_ HW_ => ?_)
                                              generalize wc.drew = w55 at HO_4 BK169 HB hx175_0 hx177_0 hx179_0 hx181_0 hHeld ⊢
                                              refine pure_ (i := 0) (N := some 57) (v := ?_) (a' := ?_) #[true, false, false, false, false, false, false, false, false, false, false, false, false, false, false, false, false, false, false, false, false, false, false, false, false, false] rfl rfl (any_of HT_.out (by kernel_rfl)) (fun _ _ _ h => h) (Or.inl ⟨by rfl, ?_⟩) ?_ ?_
                                              rotate_left
                                              · intro w'
                                                go_simp
                                                with_reducible rfl
                                              rotate_left
                                              · simp only [Act.put, List.setIfInBounds_toArray, List.set_cons_zero, List.set_cons_succ, i64_w, i32_w]
                                                rfl
                                              refine pure_ (i := 1) (N := some 58) (v := ?_) (a' := ?_) #[true, true, false, false, false, false, false, false, false, false, false, false, false, false, false, false, false, false, false, false, false, false, false, false, false, false] rfl rfl (any_of HT_.out (by kernel_rfl)) (fun _ _ _ h => h) (Or.inl ⟨by rfl, ?_⟩) ?_ ?_
                                              rotate_left
                                              · intro w'
                                                go_simp
                                                with_reducible rfl
                                              rotate_left
                                              · simp only [Act.put, List.setIfInBounds_toArray, List.set_cons_zero, List.set_cons_succ, i64_w, i32_w]
                                                rfl
                                              refine pure_ (i := 5) (N := some 62) (v := ?_) (a' := ?_) #[true, true, false, false, false, true, false, false, false, false, false, false, false, false, false, false, false, false, false, false, false, false, false, false, false, false] rfl rfl (any_of HT_.out (by kernel_rfl)) (fun _ _ _ h => h) (Or.inl ⟨by rfl, ?_⟩) ?_ ?_
                                              rotate_left
                                              · intro w'
                                                go_simp
                                                with_reducible rfl
                                              rotate_left
                                              · simp only [Act.put, List.setIfInBounds_toArray, List.set_cons_zero, List.set_cons_succ, i64_w, i32_w]
                                                rfl
                                              refine pure_ (i := 8) (N := some 65) (v := ?_) (a' := ?_) #[true, true, false, false, false, true, false, false, true, false, false, false, false, false, false, false, false, false, false, false, false, false, false, false, false, false] rfl rfl (any_of HT_.out (by kernel_rfl)) (fun _ _ _ h => h) (Or.inl ⟨by rfl, ?_⟩) ?_ ?_
                                              rotate_left
                                              · intro w'
                                                go_simp
                                                with_reducible rfl
                                              rotate_left
                                              · simp only [Act.put, List.setIfInBounds_toArray, List.set_cons_zero, List.set_cons_succ, i64_w, i32_w]
                                                rfl
                                              refine pure_ (i := 9) (N := some 66) (v := ?_) (a' := ?_) #[true, true, false, false, false, true, false, false, true, true, false, false, false, false, false, false, false, false, false, false, false, false, false, false, false, false] rfl rfl (any_of HT_.out (by kernel_rfl)) (fun _ _ _ h => h) (Or.inl ⟨by rfl, ?_⟩) ?_ ?_
                                              rotate_left
                                              · intro w'
                                                go_simp
                                                with_reducible rfl
                                              rotate_left
                                              · simp only [Act.put, List.setIfInBounds_toArray, List.set_cons_zero, List.set_cons_succ, i64_w, i32_w]
                                                rfl
                                              refine pure_ (i := 14) (N := some 71) (v := ?_) (a' := ?_) #[true, true, false, false, false, true, false, false, true, true, false, false, false, false, true, false, false, false, false, false, false, false, false, false, false, false] rfl rfl (any_of HT_.out (by kernel_rfl)) (fun _ _ _ h => h) (Or.inl ⟨by rfl, ?_⟩) ?_ ?_
                                              rotate_left
                                              · intro w'
                                                go_simp
                                                with_reducible rfl
                                              rotate_left
                                              · simp only [Act.put, List.setIfInBounds_toArray, List.set_cons_zero, List.set_cons_succ, i64_w, i32_w]
                                                rfl
                                              refine pure_ (i := 15) (N := some 72) (v := ?_) (a' := ?_) #[true, true, false, false, false, true, false, false, true, true, false, false, false, false, true, true, false, false, false, false, false, false, false, false, false, false] rfl rfl (any_of HT_.out (by kernel_rfl)) (fun _ _ _ h => h) (Or.inl ⟨by rfl, ?_⟩) ?_ ?_
                                              rotate_left
                                              · intro w'
                                                go_simp
                                                with_reducible rfl
                                              rotate_left
                                              · simp only [Act.put, List.setIfInBounds_toArray, List.set_cons_zero, List.set_cons_succ, i64_w, i32_w]
                                                rfl
                                              refine pure_ (i := 20) (N := some 77) (v := ?_) (a' := ?_) #[true, true, false, false, false, true, false, false, true, true, false, false, false, false, true, true, false, false, false, false, true, false, false, false, false, false] rfl rfl (any_of HT_.out (by kernel_rfl)) (fun _ _ _ h => h) (Or.inl ⟨by rfl, ?_⟩) ?_ ?_
                                              rotate_left
                                              · intro w'
                                                go_simp
                                                with_reducible rfl
                                              rotate_left
                                              · simp only [Act.put, List.setIfInBounds_toArray, List.set_cons_zero, List.set_cons_succ, i64_w, i32_w]
                                                rfl
                                              refine pure_ (i := 21) (N := some 78) (v := ?_) (a' := ?_) #[true, true, false, false, false, true, false, false, true, true, false, false, false, false, true, true, false, false, false, false, true, true, false, false, false, false] rfl rfl (any_of HT_.out (by kernel_rfl)) (fun _ _ _ h => h) (Or.inl ⟨by rfl, ?_⟩) ?_ ?_
                                              rotate_left
                                              · intro w'
                                                go_simp
                                                with_reducible rfl
                                              rotate_left
                                              · simp only [Act.put, List.setIfInBounds_toArray, List.set_cons_zero, List.set_cons_succ, i64_w, i32_w]
                                                rfl
                                              refine take_ (i := 2) (N := some 59) (v := ?_) (a' := ?_) #[true, true, true, false, false, true, false, false, true, true, false, false, false, false, true, true, false, false, false, false, true, true, false, false, false, false] rfl rfl (take_ofW HT_.out HW_.out (by kernel_rfl)) (fun _ _ _ h => h) (Or.inl ⟨by rfl, ?_⟩) hHeld ?_ ?_
                                              rotate_left
                                              · rintro w' ⟨s0, s1, s2, s3⟩
                                                go_simp
                                                with_reducible rfl
                                              rotate_left
                                              · simp only [Act.put, List.setIfInBounds_toArray, List.set_cons_zero, List.set_cons_succ, i64_w, i32_w]
                                                rfl
                                              refine take_ (i := 10) (N := some 67) (v := ?_) (a' := ?_) #[true, true, true, false, false, true, false, false, true, true, true, false, false, false, true, true, false, false, false, false, true, true, false, false, false, false] rfl rfl (take_ofW HT_.out HW_.out (by kernel_rfl)) (fun _ _ _ h => h) (Or.inl ⟨by rfl, ?_⟩) hHeld ?_ ?_
                                              rotate_left
                                              · rintro w' ⟨s0, s1, s2, s3⟩
                                                go_simp
                                                with_reducible rfl
                                              rotate_left
                                              · simp only [Act.put, List.setIfInBounds_toArray, List.set_cons_zero, List.set_cons_succ, i64_w, i32_w]
                                                rfl
                                              refine take_ (i := 16) (N := some 73) (v := ?_) (a' := ?_) #[true, true, true, false, false, true, false, false, true, true, true, false, false, false, true, true, true, false, false, false, true, true, false, false, false, false] rfl rfl (take_ofW HT_.out HW_.out (by kernel_rfl)) (fun _ _ _ h => h) (Or.inl ⟨by rfl, ?_⟩) hHeld ?_ ?_
                                              rotate_left
                                              · rintro w' ⟨s0, s1, s2, s3⟩
                                                go_simp
                                                with_reducible rfl
                                              rotate_left
                                              · simp only [Act.put, List.setIfInBounds_toArray, List.set_cons_zero, List.set_cons_succ, i64_w, i32_w]
                                                rfl
                                              refine take_ (i := 22) (N := some 79) (v := ?_) (a' := ?_) #[true, true, true, false, false, true, false, false, true, true, true, false, false, false, true, true, true, false, false, false, true, true, true, false, false, false] rfl rfl (take_ofW HT_.out HW_.out (by kernel_rfl)) (fun _ _ _ h => h) (Or.inl ⟨by rfl, ?_⟩) hHeld ?_ ?_
                                              rotate_left
                                              · rintro w' ⟨s0, s1, s2, s3⟩
                                                go_simp
                                                with_reducible rfl
                                              rotate_left
                                              · simp only [Act.put, List.setIfInBounds_toArray, List.set_cons_zero, List.set_cons_succ, i64_w, i32_w]
                                                rfl
                                              refine one_ (i := 3) (N := some 60) #[true, true, true, true, false, true, false, false, true, true, true, false, false, false, true, true, true, false, false, false, true, true, true, false, false, false] rfl rfl (one_of HT_.out (by kernel_rfl)) (by decide) (fun K hK => ?_)
                                              refine goes_ Tryd.func54 (by kernel_rfl) rfl #[.int .i64 (rd y170 0)] (by rfl) rfl rfl (by (try simp only [List.map_toArray, List.map_cons, List.map_nil]); first | done | rfl | (simp only [List.length_drop, List.length_take]; rfl)) ?_
                                              with_reducible refine (insolvencyref25_digits.calls kj18 (rd y170 0) t176 _ A26.out).mono ?_
                                              rintro e w56 ⟨rfl, hb⟩
                                              have HS0_ := (hb.cell (World.block_lt_of_cell? _ _ (hHeld.1))).trans (hHeld.1)
                                              have HS1_ := (hb.cell (World.block_lt_of_cell? _ _ (hHeld.2.1))).trans (hHeld.2.1)
                                              have HS2_ := (hb.cell (World.block_lt_of_cell? _ _ (hHeld.2.2.1))).trans (hHeld.2.2.1)
                                              have HS3_ := (hb.cell (World.block_lt_of_cell? _ _ (hHeld.2.2.2))).trans (hHeld.2.2.2)
                                              refine ⟨_, rfl, ?_⟩
                                              have n0_ := Aside0.mk (Kd.R_below (by (with_reducible repeat (first | apply Kd.R_alloc | apply Kd.R_drewN | apply Kd.R_drew)); exact HO_4.out) hb)
                                              have n1_ := Aside0.mk (blk_below (g := gb169) (o := .cells #[.int .i64 a0_0, .int .i64 a0_1, .int .i64 a0_2, .int .i64 a0_3, .int .i64 a0_4, .int .i64 a0_5] 39 (0, 0)) (by (with_reducible repeat (first | refine blk_drewN ?_ _ | refine blk_drew ?_ | refine blk_alloc ?_ _)); exact BK169.out) hb)
                                              have n2_ := Aside0.mk (below_step (by repeat (first | (with_reducible first | exact HB.out | apply below_alloc | apply pw_below_drewN | apply below_drew1 | refine below_set ?_ GE169.out) | exact HB.out)) hb)
                                              clear HO_4
                                              clear BK169
                                              clear HB
                                              have HO_4 := n0_
                                              have BK169 := n1_
                                              have HB := n2_
                                              clear n0_ n1_ n2_
                                              (try clear hb)
                                              (try clear hb2)
                                              (try clear hk)
                                              (try clear hi)
                                              refine hK.out _ _ ⟨HS0_, HS1_, HS2_, HS3_⟩ (fun hHeld => ?_)
                                              clear hK K
                                              refine norm_ (a' := ?_) ?_ ?_
                                              rotate_left
                                              · show Act.put _ (some 60) _ = _
                                                simp only [Act.put, List.setIfInBounds_toArray, List.set_cons_zero, List.set_cons_succ, i64_w, i32_w]
                                                rfl
                                              refine pure_ (i := 4) (N := some 61) (v := ?_) (a' := ?_) #[true, true, true, true, true, true, false, false, true, true, true, false, false, false, true, true, true, false, false, false, true, true, true, false, false, false] rfl rfl (any_of HT_.out (by kernel_rfl)) (fun _ _ _ h => h) (Or.inl ⟨by rfl, ?_⟩) ?_ ?_
                                              rotate_left
                                              · intro w'
                                                go_simp
                                                with_reducible rfl
                                              rotate_left
                                              · simp only [Act.put, List.setIfInBounds_toArray, List.set_cons_zero, List.set_cons_succ, i64_w, i32_w]
                                                rfl
                                              refine pure_ (i := 6) (N := some 63) (v := ?_) (a' := ?_) #[true, true, true, true, true, true, true, false, true, true, true, false, false, false, true, true, true, false, false, false, true, true, true, false, false, false] rfl rfl (any_of HT_.out (by kernel_rfl)) (fun _ _ _ h => h) (Or.inl ⟨by rfl, ?_⟩) ?_ ?_
                                              rotate_left
                                              · intro w'
                                                go_simp
                                                with_reducible rfl
                                              rotate_left
                                              · simp only [Act.put, List.setIfInBounds_toArray, List.set_cons_zero, List.set_cons_succ, i64_w, i32_w]
                                                rfl
                                              refine pure_ (i := 7) (N := some 64) (v := ?_) (a' := ?_) #[true, true, true, true, true, true, true, true, true, true, true, false, false, false, true, true, true, false, false, false, true, true, true, false, false, false] rfl rfl (any_of HT_.out (by kernel_rfl)) (fun _ _ _ h => h) (Or.inl ⟨by rfl, ?_⟩) ?_ ?_
                                              rotate_left
                                              · intro w'
                                                go_simp
                                                with_reducible rfl
                                              rotate_left
                                              · simp only [Act.put, List.setIfInBounds_toArray, List.set_cons_zero, List.set_cons_succ, i64_w, i32_w]
                                                rfl
                                              refine one_ (i := 11) (N := some 68) #[true, true, true, true, true, true, true, true, true, true, true, true, false, false, true, true, true, false, false, false, true, true, true, false, false, false] rfl rfl (one_of HT_.out (by kernel_rfl)) (by decide) (fun K hK => ?_)
                                              refine goes_ Tryd.func54 (by kernel_rfl) rfl #[.int .i64 (rd y170 1)] (by rfl) rfl rfl (by (try simp only [List.map_toArray, List.map_cons, List.map_nil]); first | done | rfl | (simp only [List.length_drop, List.length_take]; rfl)) ?_
                                              with_reducible refine (insolvencyref25_digits.calls kj18 (rd y170 1) t178 _ A31.out).mono ?_
                                              rintro e w57 ⟨rfl, hb⟩
                                              have HS0_ := (hb.cell (World.block_lt_of_cell? _ _ (hHeld.1))).trans (hHeld.1)
                                              have HS1_ := (hb.cell (World.block_lt_of_cell? _ _ (hHeld.2.1))).trans (hHeld.2.1)
                                              have HS2_ := (hb.cell (World.block_lt_of_cell? _ _ (hHeld.2.2.1))).trans (hHeld.2.2.1)
                                              have HS3_ := (hb.cell (World.block_lt_of_cell? _ _ (hHeld.2.2.2))).trans (hHeld.2.2.2)
                                              refine ⟨_, rfl, ?_⟩
                                              have n0_ := Aside0.mk (Kd.R_below (by (with_reducible repeat (first | apply Kd.R_alloc | apply Kd.R_drewN | apply Kd.R_drew)); exact HO_4.out) hb)
                                              have n1_ := Aside0.mk (blk_below (g := gb169) (o := .cells #[.int .i64 a0_0, .int .i64 a0_1, .int .i64 a0_2, .int .i64 a0_3, .int .i64 a0_4, .int .i64 a0_5] 39 (0, 0)) (by (with_reducible repeat (first | refine blk_drewN ?_ _ | refine blk_drew ?_ | refine blk_alloc ?_ _)); exact BK169.out) hb)
                                              have n2_ := Aside0.mk (below_step (by repeat (first | (with_reducible first | exact HB.out | apply below_alloc | apply pw_below_drewN | apply below_drew1 | refine below_set ?_ GE169.out) | exact HB.out)) hb)
                                              clear HO_4
                                              clear BK169
                                              clear HB
                                              have HO_4 := n0_
                                              have BK169 := n1_
                                              have HB := n2_
                                              clear n0_ n1_ n2_
                                              (try clear hb)
                                              (try clear hb2)
                                              (try clear hk)
                                              (try clear hi)
                                              refine hK.out _ _ ⟨HS0_, HS1_, HS2_, HS3_⟩ (fun hHeld => ?_)
                                              clear hK K
                                              refine norm_ (a' := ?_) ?_ ?_
                                              rotate_left
                                              · show Act.put _ (some 68) _ = _
                                                simp only [Act.put, List.setIfInBounds_toArray, List.set_cons_zero, List.set_cons_succ, i64_w, i32_w]
                                                rfl
                                              refine pure_ (i := 12) (N := some 69) (v := ?_) (a' := ?_) #[true, true, true, true, true, true, true, true, true, true, true, true, true, false, true, true, true, false, false, false, true, true, true, false, false, false] rfl rfl (any_of HT_.out (by kernel_rfl)) (fun _ _ _ h => h) (Or.inl ⟨by rfl, ?_⟩) ?_ ?_
                                              rotate_left
                                              · intro w'
                                                go_simp
                                                with_reducible rfl
                                              rotate_left
                                              · simp only [Act.put, List.setIfInBounds_toArray, List.set_cons_zero, List.set_cons_succ, i64_w, i32_w]
                                                rfl
                                              refine pure_ (i := 13) (N := some 70) (v := ?_) (a' := ?_) #[true, true, true, true, true, true, true, true, true, true, true, true, true, true, true, true, true, false, false, false, true, true, true, false, false, false] rfl rfl (any_of HT_.out (by kernel_rfl)) (fun _ _ _ h => h) (Or.inl ⟨by rfl, ?_⟩) ?_ ?_
                                              rotate_left
                                              · intro w'
                                                go_simp
                                                with_reducible rfl
                                              rotate_left
                                              · simp only [Act.put, List.setIfInBounds_toArray, List.set_cons_zero, List.set_cons_succ, i64_w, i32_w]
                                                rfl
                                              refine one_ (i := 17) (N := some 74) #[true, true, true, true, true, true, true, true, true, true, true, true, true, true, true, true, true, true, false, false, true, true, true, false, false, false] rfl rfl (one_of HT_.out (by kernel_rfl)) (by decide) (fun K hK => ?_)
                                              refine goes_ Tryd.func54 (by kernel_rfl) rfl #[.int .i64 (rd y170 2)] (by rfl) rfl rfl (by (try simp only [List.map_toArray, List.map_cons, List.map_nil]); first | done | rfl | (simp only [List.length_drop, List.length_take]; rfl)) ?_
                                              with_reducible refine (insolvencyref25_digits.calls kj18 (rd y170 2) t180 _ A35.out).mono ?_
                                              rintro e w58 ⟨rfl, hb⟩
                                              have HS0_ := (hb.cell (World.block_lt_of_cell? _ _ (hHeld.1))).trans (hHeld.1)
                                              have HS1_ := (hb.cell (World.block_lt_of_cell? _ _ (hHeld.2.1))).trans (hHeld.2.1)
                                              have HS2_ := (hb.cell (World.block_lt_of_cell? _ _ (hHeld.2.2.1))).trans (hHeld.2.2.1)
                                              have HS3_ := (hb.cell (World.block_lt_of_cell? _ _ (hHeld.2.2.2))).trans (hHeld.2.2.2)
                                              refine ⟨_, rfl, ?_⟩
                                              have n0_ := Aside0.mk (Kd.R_below (by (with_reducible repeat (first | apply Kd.R_alloc | apply Kd.R_drewN | apply Kd.R_drew)); exact HO_4.out) hb)
                                              have n1_ := Aside0.mk (blk_below (g := gb169) (o := .cells #[.int .i64 a0_0, .int .i64 a0_1, .int .i64 a0_2, .int .i64 a0_3, .int .i64 a0_4, .int .i64 a0_5] 39 (0, 0)) (by (with_reducible repeat (first | refine blk_drewN ?_ _ | refine blk_drew ?_ | refine blk_alloc ?_ _)); exact BK169.out) hb)
                                              have n2_ := Aside0.mk (below_step (by repeat (first | (with_reducible first | exact HB.out | apply below_alloc | apply pw_below_drewN | apply below_drew1 | refine below_set ?_ GE169.out) | exact HB.out)) hb)
                                              clear HO_4
                                              clear BK169
                                              clear HB
                                              have HO_4 := n0_
                                              have BK169 := n1_
                                              have HB := n2_
                                              clear n0_ n1_ n2_
                                              (try clear hb)
                                              (try clear hb2)
                                              (try clear hk)
                                              (try clear hi)
                                              refine hK.out _ _ ⟨HS0_, HS1_, HS2_, HS3_⟩ (fun hHeld => ?_)
                                              clear hK K
                                              refine norm_ (a' := ?_) ?_ ?_
                                              rotate_left
                                              · show Act.put _ (some 74) _ = _
                                                simp only [Act.put, List.setIfInBounds_toArray, List.set_cons_zero, List.set_cons_succ, i64_w, i32_w]
                                                rfl
                                              refine pure_ (i := 18) (N := some 75) (v := ?_) (a' := ?_) #[true, true, true, true, true, true, true, true, true, true, true, true, true, true, true, true, true, true, true, false, true, true, true, false, false, false] rfl rfl (any_of HT_.out (by kernel_rfl)) (fun _ _ _ h => h) (Or.inl ⟨by rfl, ?_⟩) ?_ ?_
                                              rotate_left
                                              · intro w'
                                                go_simp
                                                with_reducible rfl
                                              rotate_left
                                              · simp only [Act.put, List.setIfInBounds_toArray, List.set_cons_zero, List.set_cons_succ, i64_w, i32_w]
                                                rfl
                                              refine pure_ (i := 19) (N := some 76) (v := ?_) (a' := ?_) #[true, true, true, true, true, true, true, true, true, true, true, true, true, true, true, true, true, true, true, true, true, true, true, false, false, false] rfl rfl (any_of HT_.out (by kernel_rfl)) (fun _ _ _ h => h) (Or.inl ⟨by rfl, ?_⟩) ?_ ?_
                                              rotate_left
                                              · intro w'
                                                go_simp
                                                with_reducible rfl
                                              rotate_left
                                              · simp only [Act.put, List.setIfInBounds_toArray, List.set_cons_zero, List.set_cons_succ, i64_w, i32_w]
                                                rfl
                                              refine one_ (i := 23) (N := some 80) #[true, true, true, true, true, true, true, true, true, true, true, true, true, true, true, true, true, true, true, true, true, true, true, true, false, false] rfl rfl (one_of HT_.out (by kernel_rfl)) (by decide) (fun K hK => ?_)
                                              refine goes_ Tryd.func54 (by kernel_rfl) rfl #[.int .i64 (rd y170 3)] (by rfl) rfl rfl (by (try simp only [List.map_toArray, List.map_cons, List.map_nil]); first | done | rfl | (simp only [List.length_drop, List.length_take]; rfl)) ?_
                                              with_reducible refine (insolvencyref25_digits.calls kj18 (rd y170 3) t182 _ A39.out).mono ?_
                                              rintro e w59 ⟨rfl, hb⟩
                                              have HS0_ := (hb.cell (World.block_lt_of_cell? _ _ (hHeld.1))).trans (hHeld.1)
                                              have HS1_ := (hb.cell (World.block_lt_of_cell? _ _ (hHeld.2.1))).trans (hHeld.2.1)
                                              have HS2_ := (hb.cell (World.block_lt_of_cell? _ _ (hHeld.2.2.1))).trans (hHeld.2.2.1)
                                              have HS3_ := (hb.cell (World.block_lt_of_cell? _ _ (hHeld.2.2.2))).trans (hHeld.2.2.2)
                                              refine ⟨_, rfl, ?_⟩
                                              have n0_ := Aside0.mk (Kd.R_below (by (with_reducible repeat (first | apply Kd.R_alloc | apply Kd.R_drewN | apply Kd.R_drew)); exact HO_4.out) hb)
                                              have n1_ := Aside0.mk (blk_below (g := gb169) (o := .cells #[.int .i64 a0_0, .int .i64 a0_1, .int .i64 a0_2, .int .i64 a0_3, .int .i64 a0_4, .int .i64 a0_5] 39 (0, 0)) (by (with_reducible repeat (first | refine blk_drewN ?_ _ | refine blk_drew ?_ | refine blk_alloc ?_ _)); exact BK169.out) hb)
                                              have n2_ := Aside0.mk (below_step (by repeat (first | (with_reducible first | exact HB.out | apply below_alloc | apply pw_below_drewN | apply below_drew1 | refine below_set ?_ GE169.out) | exact HB.out)) hb)
                                              clear HO_4
                                              clear BK169
                                              clear HB
                                              have HO_4 := n0_
                                              have BK169 := n1_
                                              have HB := n2_
                                              clear n0_ n1_ n2_
                                              (try clear hb)
                                              (try clear hb2)
                                              (try clear hk)
                                              (try clear hi)
                                              refine hK.out _ _ ⟨HS0_, HS1_, HS2_, HS3_⟩ (fun hHeld => ?_)
                                              clear hK K
                                              refine norm_ (a' := ?_) ?_ ?_
                                              rotate_left
                                              · show Act.put _ (some 80) _ = _
                                                simp only [Act.put, List.setIfInBounds_toArray, List.set_cons_zero, List.set_cons_succ, i64_w, i32_w]
                                                rfl
                                              refine pure_ (i := 24) (N := some 81) (v := ?_) (a' := ?_) #[true, true, true, true, true, true, true, true, true, true, true, true, true, true, true, true, true, true, true, true, true, true, true, true, true, false] rfl rfl (any_of HT_.out (by kernel_rfl)) (fun _ _ _ h => h) (Or.inl ⟨by rfl, ?_⟩) ?_ ?_
                                              rotate_left
                                              · intro w'
                                                go_simp
                                                with_reducible rfl
                                              rotate_left
                                              · simp only [Act.put, List.setIfInBounds_toArray, List.set_cons_zero, List.set_cons_succ, i64_w, i32_w]
                                                rfl
                                              refine pure_ (i := 25) (N := some 7) (v := ?_) (a' := ?_) #[true, true, true, true, true, true, true, true, true, true, true, true, true, true, true, true, true, true, true, true, true, true, true, true, true, true] rfl rfl (any_of HT_.out (by kernel_rfl)) (fun _ _ _ h => h) (Or.inl ⟨by rfl, ?_⟩) ?_ ?_
                                              rotate_left
                                              · intro w'
                                                go_simp
                                                with_reducible rfl
                                              rotate_left
                                              · simp only [Act.put, List.setIfInBounds_toArray, List.set_cons_zero, List.set_cons_succ, i64_w, i32_w]
                                                rfl
                                              refine done_ (done_of HT_.out (by kernel_rfl)) ?_
                                              have hcz60_0 : w59.cell? ⟨gb169, 0, none⟩ = some (.int .i64 a0_0) := (blk_cell BK169.out 0).trans rfl
                                              have hcz60_1 : w59.cell? ⟨gb169, 1, none⟩ = some (.int .i64 a0_1) := (blk_cell BK169.out 1).trans rfl
                                              have hcz60_2 : w59.cell? ⟨gb169, 2, none⟩ = some (.int .i64 a0_2) := (blk_cell BK169.out 2).trans rfl
                                              have hcz60_3 : w59.cell? ⟨gb169, 3, none⟩ = some (.int .i64 a0_3) := (blk_cell BK169.out 3).trans rfl
                                              have hcz60_4 : w59.cell? ⟨gb169, 4, none⟩ = some (.int .i64 a0_4) := (blk_cell BK169.out 4).trans rfl
                                              have hcz60_5 : w59.cell? ⟨gb169, 5, none⟩ = some (.int .i64 a0_5) := (blk_cell BK169.out 5).trans rfl
                                              have hfz60_0 := blk_frozen BK169.out 0
                                              have hfz60_1 := blk_frozen BK169.out 1
                                              have hfz60_2 := blk_frozen BK169.out 2
                                              have hfz60_3 := blk_frozen BK169.out 3
                                              have hfz60_4 := blk_frozen BK169.out 4
                                              have hfz60_5 := blk_frozen BK169.out 5
                                              try go_wp2
                                              go_ret2
                                              exact ⟨by first | rfl | (simp [errW_none, errW_some] <;> rfl) | (simp [*, errW_none, errW_some] <;> rfl), by repeat (first | (with_reducible first | exact HB.out | apply below_alloc | apply pw_below_drewN | apply below_drew1 | refine below_set ?_ GE169.out) | exact HB.out)⟩
                                            · rw [if_neg c54] at H
                                              exact absurd H (by simp)
                                        · rw [if_neg c40] at H
                                          exact absurd H (by simp)
                                      · rw [if_neg c38] at H
                                        exact absurd H (by simp)
                                    · rw [if_neg c37] at H
                                      exact absurd H (by simp)
                                  · rw [if_neg c36] at H
                                    exact absurd H (by simp)
                                · rw [if_neg c34] at H
                                  exact absurd H (by simp)
                              · rw [if_neg c33] at H
                                exact absurd H (by simp)
                            · rw [if_neg c32] at H
                              exact absurd H (by simp)
                          · rw [if_neg c30] at H
                            exact absurd H (by simp)
                        · rw [if_neg c29] at H
                          exact absurd H (by simp)
                      · rw [if_neg c28] at H
                        exact absurd H (by simp)
                    · rw [if_neg c27] at H
                      exact absurd H (by simp)
                  · rw [if_neg c25] at H
                    exact absurd H (by simp)

end Go.Proofs.YtcehmgmhlmbhnaaDoor.Pr
