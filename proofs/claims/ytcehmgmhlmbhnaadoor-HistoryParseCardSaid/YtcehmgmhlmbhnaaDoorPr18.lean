-- Written by a program of this session (wip/tools/drive.py over the kit's print.py) out of the translation.
import Derived.Test.YtcehmgmhlmbhnaaDoorPr0
import Derived.Test.YtcehmgmhlmbhnaaDoorPr5
import Derived.Test.YtcehmgmhlmbhnaaDoorPr6
namespace Go.Proofs.YtcehmgmhlmbhnaaDoor.Pr
open Go.RowKit Go.Proofs.YtcehmgmhlmbhnaaDoorW.PrintWords Go.Proofs.YtcehmgmhlmbhnaaDoorW.PrintLast Go.Proofs.YtcehmgmhlmbhnaaDoorW.PrintMore
attribute [local go_sem] max2_int min2_int max_two min_two max_three min_three max_four min_four   -- for this text's walks alone
set_option linter.unusedVariables false
set_option linter.unusedSimpArgs false

/-! ### insolvencyref25_row: function 55 -/
def insolvencyref25_row.l0 : Nat → List ByteArray → Int → List Int → Int → Option (Int × Int × Int × Int × Int × Int × Bool)
  | 0, _, _, _, _ => none
  | k + 1, ws, kd, ns, i => if i < (ws.length : Int) then (if i = 1 then (insolvencyref25_row.l0 k ws kd ns (i + 1)) else (if 0 ≤ i then (if i < 6 then ((insolvencyref25_number.f k (rdOf ByteArray.empty ws i)).bind fun b => (if b.2 = true then (insolvencyref25_row.l0 k ws kd (ns.set i.toNat b.1) (i + 1)) else (some (0, 0, 0, 0, 0, 0, false)))) else (none)) else (none))) else (some (ns.getD 0 0, kd, ns.getD 2 0, ns.getD 3 0, ns.getD 4 0, ns.getD 5 0, true))
def insolvencyref25_row.g (k : Nat) (ws : List ByteArray) (kd : Int) : Option (Int × Int × Int × Int × Int × Int × Bool) := if kd = 3 then (if (ws.length : Int) = 6 then (insolvencyref25_row.l0 k ws kd [0, 0, 0, 0, 0, 0] 0) else (some (0, 0, 0, 0, 0, 0, false))) else (if (ws.length : Int) = 5 then (insolvencyref25_row.l0 k ws kd [0, 0, 0, 0, 0, 0] 0) else (some (0, 0, 0, 0, 0, 0, false)))
def insolvencyref25_row.f (k : Nat) (a0 : ByteArray) : Option (Int × Int × Int × Int × Int × Int × Bool) := (insolvencyref25_words.f k a0).bind fun ws => (if (ws.length : Int) < 5 then (some (0, 0, 0, 0, 0, 0, false)) else (if (rdOf ByteArray.empty ws 1).toList = ([112, 97, 121, 109, 101, 110, 116] : List UInt8) then (insolvencyref25_row.g k ws 1) else (if (rdOf ByteArray.empty ws 1).toList = ([115, 117, 112, 112, 108, 121] : List UInt8) then (insolvencyref25_row.g k ws 2) else (if (rdOf ByteArray.empty ws 1).toList = ([116, 114, 97, 110, 115, 102, 101, 114] : List UInt8) then (insolvencyref25_row.g k ws 3) else (some (0, 0, 0, 0, 0, 0, false))))))
theorem insolvencyref25_row.mono_l : ∀ k, (∀ y0 y1 y2 y3, LeO (insolvencyref25_row.l0 k y0 y1 y2 y3) (insolvencyref25_row.l0 (k + 1) y0 y1 y2 y3))
  | 0 => fun _ _ _ _ r h => by simp [insolvencyref25_row.l0] at h
  | k + 1 => by
    have ih0 := insolvencyref25_row.mono_l k
    · intro y0 y1 y2 y3
      unfold insolvencyref25_row.l0
      repeat' first
      | (with_reducible exact ih0 _ _ _ _)
      | (with_reducible exact insolvencyref25_number.mono _ _)
      | (with_reducible exact LeO.refl _)
      | (with_reducible exact LeO.none _)
      | (with_reducible refine LeO.ite ?_ ?_)
      | (with_reducible refine LeO.bind ?_ (fun _ => ?_))
theorem insolvencyref25_row.mono_g (k : Nat) (ws : List ByteArray) (kd : Int) : LeO (insolvencyref25_row.g k ws kd) (insolvencyref25_row.g (k + 1) ws kd) := by
  have ih0 := insolvencyref25_row.mono_l k
  unfold insolvencyref25_row.g
  exact LeO.ite (LeO.ite (ih0 _ _ _ _) (LeO.refl _)) (LeO.ite (ih0 _ _ _ _) (LeO.refl _))
theorem insolvencyref25_row.mono : ∀ a0 k, LeO (insolvencyref25_row.f k a0) (insolvencyref25_row.f (k + 1) a0) := by
  intro a0 k
  unfold insolvencyref25_row.f
  exact LeO.bind (insolvencyref25_words.mono _ _) (fun _ => LeO.ite (LeO.refl _) (LeO.ite (insolvencyref25_row.mono_g _ _ _) (LeO.ite (insolvencyref25_row.mono_g _ _ _) (LeO.ite (insolvencyref25_row.mono_g _ _ _) (LeO.refl _)))))




theorem ns_cell {w : World} {g t : Nat} {ns : List Int} (h : w.heap[g]? = some (.cells (ns.map (Value.int .i64)).toArray t (0, 0))) (hn : ns.length = 6) (j : Nat) (hj : j < 6) : w.cell? ⟨g, j, none⟩ = some (.int .i64 (ns.getD j 0)) := by
  refine (blk_cell h j).trans ?_
  simp [List.getD, List.getElem?_eq_getElem (show j < ns.length by omega)]
theorem HB5 {w W : World} {g : Nat} {v0 v2 v3 v4 v5 : Value} (hB : Below w.heap.size w W) (hg : w.heap.size ≤ g) :
    Below w.heap.size w (((((W.setCell ⟨g, 0, none⟩ v0).setCell ⟨g, 2, none⟩ v2).setCell ⟨g, 3, none⟩ v3).setCell ⟨g, 4, none⟩ v4).setCell ⟨g, 5, none⟩ v5) :=
  ((((hB.setCell (p := ⟨g, 0, none⟩) hg _).setCell (p := ⟨g, 2, none⟩) hg _).setCell (p := ⟨g, 3, none⟩) hg _).setCell (p := ⟨g, 4, none⟩) hg _).setCell (p := ⟨g, 5, none⟩) hg _
theorem BK5f {W : World} {b g t : Nat} {cs : Array Value} {v0 v2 v3 v4 v5 : Value} (h : W.heap[b]? = some (.cells cs t (0, 0))) (hn : b ≠ g) :
    (((((W.setCell ⟨g, 0, none⟩ v0).setCell ⟨g, 2, none⟩ v2).setCell ⟨g, 3, none⟩ v3).setCell ⟨g, 4, none⟩ v4).setCell ⟨g, 5, none⟩ v5).heap[b]? = some (.cells cs t (0, 0)) :=
  blk_far (blk_far (blk_far (blk_far (blk_far h (p := ⟨g, 0, none⟩) hn _) (p := ⟨g, 2, none⟩) hn _) (p := ⟨g, 3, none⟩) hn _) (p := ⟨g, 4, none⟩) hn _) (p := ⟨g, 5, none⟩) hn _

set_option maxHeartbeats 8000000 in
set_option maxRecDepth 100000 in
theorem insolvencyref25_row.calls (k : Nat) (a0 : ByteArray) (r1 : Int) (r2 : Int) (r3 : Int) (r4 : Int) (r5 : Int) (r6 : Int) (r7 : Bool) (w : World) (h : insolvencyref25_row.f k a0 = some (r1, r2, r3, r4, r5, r6, r7)) :
    Calls Tryd.prog 55 #[.string a0] w fun e w' => e = .returned (.tuple #[.agg #[.int .i64 r1, .int .i64 r2, .int .i64 r3, .int .i64 r4, .int .i64 r5, .int .i64 r6], .bool r7]) ∧ Below w.heap.size w w' := by
  have hu39 := Tryd.underlying39
  have hu108 := Tryd.underlying108
  unfold insolvencyref25_row.f at h
  replace h := Option.bind_eq_some_iff.mp h
  obtain ⟨ws, A20, H⟩ := h
  have A2 := Aside0.mk A20
  clear A20
  by_cases c3 : (ws.length : Int) < 5
  · rw [if_pos c3] at H
    have c3b0 : decide ((ws.length : Int) < 5) = true := decide_eq_true c3
    have c3b1 : decide (ws.length < 5) = true := decide_eq_true (by omega)
    clear c3
    simp only [Option.some.injEq, Prod.mk.injEq] at H
    obtain ⟨rfl, rfl, rfl, rfl, rfl, rfl, rfl⟩ := H
    go_enter Tryd.func55, Tryd.ntmps55
    go_wp2_with fail
    refine (insolvencyref25_words.calls k a0 ws _ A2.out).mono ?_
    rintro e w1 ⟨v1, rfl, hR, hb⟩
    obtain ⟨A, c, hv, hc, hC⟩ := Kd.R_reads hR
    subst hv
    have HC := Aside0.mk hC
    have HB := Aside0.mk (below_step (below_alloc (Below.refl w.heap.size w) _) hb)
    have BK := Aside0.mk ((hb.block w.heap.size (by simp)).trans (heap_alloc_new w _))
    clear hR hb hC hc
    have hcz_0 : World.cell? w1 ⟨w.heap.size, 0, none⟩ = some (.int .i64 0) := (blk_cell BK.out 0).trans rfl
    have hcz_1 : World.cell? w1 ⟨w.heap.size, 1, none⟩ = some (.int .i64 0) := (blk_cell BK.out 1).trans rfl
    have hcz_2 : World.cell? w1 ⟨w.heap.size, 2, none⟩ = some (.int .i64 0) := (blk_cell BK.out 2).trans rfl
    have hcz_3 : World.cell? w1 ⟨w.heap.size, 3, none⟩ = some (.int .i64 0) := (blk_cell BK.out 3).trans rfl
    have hcz_4 : World.cell? w1 ⟨w.heap.size, 4, none⟩ = some (.int .i64 0) := (blk_cell BK.out 4).trans rfl
    have hcz_5 : World.cell? w1 ⟨w.heap.size, 5, none⟩ = some (.int .i64 0) := (blk_cell BK.out 5).trans rfl
    have hfz_0 := blk_frozen BK.out 0
    have hfz_1 := blk_frozen BK.out 1
    have hfz_2 := blk_frozen BK.out 2
    have hfz_3 := blk_frozen BK.out 3
    have hfz_4 := blk_frozen BK.out 4
    have hfz_5 := blk_frozen BK.out 5
    go_wp2
    refine bodyPost_ret (results_ct rfl _ _ w.heap.size 39 #[.int .i64 0, .int .i64 0, .int .i64 0, .int .i64 0, .int .i64 0, .int .i64 0] (0, 0) _ rfl (settle6 HB.out (Nat.le_refl _) BK.out (.int .i64 0) (.int .i64 0) (.int .i64 0) (.int .i64 0) (.int .i64 0) (.int .i64 0)).1.1 Tryd.underlying39 rfl (by kernel_rfl)) rfl ?_
    exact ⟨rfl, (settle6 HB.out (Nat.le_refl _) BK.out (.int .i64 0) (.int .i64 0) (.int .i64 0) (.int .i64 0) (.int .i64 0) (.int .i64 0)).1.2⟩
  · rw [if_neg c3] at H
    have c3b0 : decide ((ws.length : Int) < 5) = false := decide_eq_false c3
    have c3b1 : decide (ws.length < 5) = false := decide_eq_false (by omega)
    have c8b0 : decide (1 < (ws.length : Int)) = true := decide_eq_true (by omega)
    have c8b1 : decide (1 < ws.length) = true := decide_eq_true (by omega)
    have c8 : Aside0 (1 < (ws.length : Int)) := ⟨by omega⟩
    have qi1 : (1 < ws.length) = True := eq_true (by omega)
    have qi2 : (1 < (ws.length : Int)) = True := eq_true (by omega)
    clear c3
    by_cases d1 : (rdOf ByteArray.empty ws 1).toList = ([112, 97, 121, 109, 101, 110, 116] : List UInt8)
    · 
      rw [if_pos d1] at H
      unfold insolvencyref25_row.g at H
      have d1b : ((rdOf ByteArray.empty ws 1).toList == ([112, 97, 121, 109, 101, 110, 116] : List UInt8)) = true := beq_iff_eq.mpr d1
      clear d1
      rw [if_neg (by decide)] at H
      by_cases c9 : (ws.length : Int) = 5
      · rw [if_pos c9] at H
        have c9b0 : ((ws.length : Int) == 5) = true := beq_iff_eq.mpr c9
        have c9b1 : ((ws.length : Int) != 5) = false := bne_eq_false_iff_eq.mpr c9
        clear c9
        have H' := Aside0.mk H
        clear H
        go_enter Tryd.func55, Tryd.ntmps55
        go_wp2_with fail
        refine (insolvencyref25_words.calls k a0 ws _ A2.out).mono ?_
        rintro e w1 ⟨v1, rfl, hR, hb⟩
        obtain ⟨A, c, hv, hc, hC⟩ := Kd.R_reads hR
        subst hv
        have HC := Aside0.mk hC
        have HB := Aside0.mk (below_step (below_alloc (Below.refl w.heap.size w) _) hb)
        have BK := Aside0.mk ((hb.block w.heap.size (by simp)).trans (heap_alloc_new w _))
        clear hR hb hC hc
        obtain ⟨ad, e, hx⟩ := Kd.at_string HC.out 1 (by omega) c8.out
        cases e
        have hbl : ad.block < w1.heap.size := by have := World.block_lt_of_cell? w1 _ hx; rwa [add_block] at this
        have HBA := Aside0.mk (below_alloc (Below.refl w1.heap.size w1) (.cells #[.int .i64 0, .int .i64 0, .int .i64 0, .int .i64 0, .int .i64 0, .int .i64 0] 39))
        have hx1 : (w1.alloc (.cells #[.int .i64 0, .int .i64 0, .int .i64 0, .int .i64 0, .int .i64 0, .int .i64 0] 39)).cell? ⟨ad.block, ad.off + 1, none⟩ = some (.string (rdOf ByteArray.empty ws 1)) := (HBA.out.cell (p := ⟨ad.block, ad.off + 1, none⟩) hbl).trans (by simpa [Addr.add] using hx)
        clear hx
        go_wp2
        go_loopg [7] k (fun kq v7 w' => ∃ (ns : List Int) (x7 : Int), v7 = .int .i64 x7 ∧ Aside0 (ns.length = 6) ∧ Aside0 (0 ≤ x7) ∧ Aside0 (insolvencyref25_row.l0 kq ws 1 ns x7 = some (r1, r2, r3, r4, r5, r6, r7)) ∧ Aside0 (kq ≤ k) ∧ Aside0 (w'.heap[w1.heap.size]? = some (.cells #[.int .i64 0, .int .i64 1, .int .i64 0, .int .i64 0, .int .i64 0, .int .i64 0] 39 (0, 0))) ∧ Aside0 (w'.heap[w1.heap.size + 1]? = some (.cells (ns.map (Value.int .i64)).toArray 108 (0, 0))) ∧ Aside0 (Below w1.heap.size w1 w'))
        case atStart => exact ⟨[0, 0, 0, 0, 0, 0], 0, rfl, ⟨rfl⟩, ⟨Int.le_refl _⟩, H', ⟨Nat.le_refl _⟩, ⟨(Below.heap_alloc _ _ _ (by simp)).trans (heap_alloc_new w1 _)⟩, ⟨by have := heap_alloc_new (w1.alloc (.cells #[.int .i64 0, .int .i64 1, .int .i64 0, .int .i64 0, .int .i64 0, .int .i64 0] 39)) (.cells #[.int .i64 0, .int .i64 0, .int .i64 0, .int .i64 0, .int .i64 0, .int .i64 0] 108); simpa using this⟩, ⟨below_alloc (below_alloc (Below.refl _ _) _) _⟩⟩
        case round =>
          clear H' HBA hx1
          obtain ⟨ns, x7, rfl, HN, H0, HA, HK1, BK5, BK6, HB1⟩ := hrel
          have HBW := Aside0.mk (below_then HB.out HB.out.size HB1.out)
          have BKR := Aside0.mk ((HB1.out.block w.heap.size (blk_lt BK.out)).trans BK.out)
          cases gk with
          | zero => exact absurd HA.out (by simp [insolvencyref25_row.l0])
          | succ k1 =>
            have H := HA.out
            clear HA
            simp only [insolvencyref25_row.l0] at H
            by_cases c3 : x7 < (ws.length : Int)
            · rw [if_pos c3] at H
              have c3b0 : decide (x7 < (ws.length : Int)) = true := decide_eq_true c3
              by_cases c4 : x7 = 1
              · rw [if_pos c4] at H
                subst c4
                have H' := Aside0.mk H
                clear H c3
                go_wp2
                go_roundg k1
                case measure => have := HK1.out; omega
                case rel => exact ⟨ns, 2, rfl, HN, ⟨by omega⟩, H', ⟨by have := HK1.out; omega⟩, BK5, BK6, HB1⟩
              · rw [if_neg c4] at H
                have c4b0 : (x7 == 1) = false := beq_eq_false_iff_ne.mpr c4
                clear c4
                by_cases c5 : 0 ≤ x7
                · rw [if_pos c5] at H
                  by_cases c6 : x7 < 6
                  · rw [if_pos c6] at H
                    replace H := Option.bind_eq_some_iff.mp H
                    obtain ⟨⟨t1, t2⟩, A50, H⟩ := H
                    have A5 := Aside0.mk A50
                    clear A50
                    have hC1 := Kd.C_below HC.out HB1.out
                    obtain ⟨ad2, e2, hx⟩ := Kd.at_string hC1 x7 c5 c3
                    cases e2
                    clear hC1
                    have c5b0 : decide (0 ≤ x7) = true := decide_eq_true c5
                    have c6b0 : decide (x7 < 6) = true := decide_eq_true c6
                    have hn6 : x7.toNat < 6 := by omega
                    have hg6 : wr.cell? ⟨w1.heap.size + 1, x7.toNat, none⟩ = some (.int .i64 (ns.getD x7.toNat 0)) := by
                      refine (blk_cell BK6.out x7.toNat).trans ?_
                      have := HN.out
                      simp [List.getD, List.getElem?_eq_getElem (show x7.toNat < ns.length by omega)]
                    have hf6 := blk_frozen BK6.out x7.toNat
                    cases t2 with
                    | true =>
                      have H1 : insolvencyref25_row.l0 k1 ws 1 (ns.set x7.toNat t1) (x7 + 1) = some (r1, r2, r3, r4, r5, r6, r7) := by rw [if_pos rfl] at H; exact H
                      clear H
                      have H' := Aside0.mk H1
                      clear H1
                      have P3 := Aside0.mk c3
                      have P5 := Aside0.mk c5
                      have P6 := Aside0.mk c6
                      have p3 := eq_true c3
                      have p5 := eq_true c5
                      have p6 := eq_true c6
                      clear hn6
                      go_wp2_with (first | (go_at_call 64; (with_reducible refine (insolvencyref25_number.calls k1 _ t1 true _ A5.out).mono ?_); rintro e w8 ⟨rfl, ⟨nd, rfl⟩⟩))
                      go_roundg k1
                      case measure => have := HK1.out; omega
                      case rel => exact ⟨ns.set x7.toNat t1, x7 + 1, rfl, ⟨by rw [List.length_set]; exact HN.out⟩, ⟨by have := P5.out; omega⟩, H', ⟨by have := HK1.out; omega⟩, ⟨blk_far (blk_drewN BK5.out nd) (by simp) _⟩, ⟨blk_put (blk_drewN BK6.out nd) x7.toNat _ (by simp [List.map_set])⟩, ⟨(pw_below_drewN HB1.out nd).setCell (p := ⟨w1.heap.size + 1, x7.toNat, none⟩) (by simp) _⟩⟩
                    | false =>
                      have H1 : (some (0, 0, 0, 0, 0, 0, false) : Option (Int × Int × Int × Int × Int × Int × Bool)) = some (r1, r2, r3, r4, r5, r6, r7) := by rw [if_neg (show ¬ (false = true) by decide)] at H; exact H
                      clear H hg6 hf6
                      simp only [Option.some.injEq, Prod.mk.injEq] at H1
                      obtain ⟨rfl, rfl, rfl, rfl, rfl, rfl, rfl⟩ := H1
                      have p3 := eq_true c3
                      have p5 := eq_true c5
                      have p6 := eq_true c6
                      have hcz_0 : World.cell? wr ⟨w.heap.size, 0, none⟩ = some (.int .i64 0) := (blk_cell BKR.out 0).trans rfl
                      have hcz_1 : World.cell? wr ⟨w.heap.size, 1, none⟩ = some (.int .i64 0) := (blk_cell BKR.out 1).trans rfl
                      have hcz_2 : World.cell? wr ⟨w.heap.size, 2, none⟩ = some (.int .i64 0) := (blk_cell BKR.out 2).trans rfl
                      have hcz_3 : World.cell? wr ⟨w.heap.size, 3, none⟩ = some (.int .i64 0) := (blk_cell BKR.out 3).trans rfl
                      have hcz_4 : World.cell? wr ⟨w.heap.size, 4, none⟩ = some (.int .i64 0) := (blk_cell BKR.out 4).trans rfl
                      have hcz_5 : World.cell? wr ⟨w.heap.size, 5, none⟩ = some (.int .i64 0) := (blk_cell BKR.out 5).trans rfl
                      have hfz_0 := blk_frozen BKR.out 0
                      have hfz_1 := blk_frozen BKR.out 1
                      have hfz_2 := blk_frozen BKR.out 2
                      have hfz_3 := blk_frozen BKR.out 3
                      have hfz_4 := blk_frozen BKR.out 4
                      have hfz_5 := blk_frozen BKR.out 5
                      go_wp2_with (first | (go_at_call 64; (with_reducible refine (insolvencyref25_number.calls k1 _ t1 false _ A5.out).mono ?_); rintro e w8 ⟨rfl, ⟨nd, rfl⟩⟩))
                      refine bodyPost_ret (results_ct rfl _ _ w.heap.size 39 #[.int .i64 0, .int .i64 0, .int .i64 0, .int .i64 0, .int .i64 0, .int .i64 0] (0, 0) _ rfl (settle6 (pw_below_drewN HBW.out nd) (Nat.le_refl _) (blk_drewN BKR.out nd) (.int .i64 0) (.int .i64 0) (.int .i64 0) (.int .i64 0) (.int .i64 0) (.int .i64 0)).1.1 Tryd.underlying39 rfl (by kernel_rfl)) rfl ?_
                      exact ⟨rfl, (settle6 (pw_below_drewN HBW.out nd) (Nat.le_refl _) (blk_drewN BKR.out nd) (.int .i64 0) (.int .i64 0) (.int .i64 0) (.int .i64 0) (.int .i64 0) (.int .i64 0)).1.2⟩
                  · rw [if_neg c6] at H
                    exact absurd H (by simp)
                · rw [if_neg c5] at H
                  exact absurd H (by simp)
            · rw [if_neg c3] at H
              have c3b0 : decide (x7 < (ws.length : Int)) = false := decide_eq_false c3
              clear c3
              simp only [Option.some.injEq, Prod.mk.injEq] at H
              obtain ⟨rfl, rfl, rfl, rfl, rfl, rfl, rfl⟩ := H
              have hnA : w.heap.size ≠ w1.heap.size := by have := blk_lt BK.out; omega
              have hnB : w1.heap.size ≠ w.heap.size := by have := blk_lt BK.out; omega
              have hnC : w.heap.size ≠ w1.heap.size + 1 := by have := blk_lt BK.out; omega
              have hcz5_0 : World.cell? wr ⟨w1.heap.size, 0, none⟩ = some (.int .i64 0) := (blk_cell BK5.out 0).trans rfl
              have hcz5_1 : World.cell? wr ⟨w1.heap.size, 1, none⟩ = some (.int .i64 1) := (blk_cell BK5.out 1).trans rfl
              have hcz5_2 : World.cell? wr ⟨w1.heap.size, 2, none⟩ = some (.int .i64 0) := (blk_cell BK5.out 2).trans rfl
              have hcz5_3 : World.cell? wr ⟨w1.heap.size, 3, none⟩ = some (.int .i64 0) := (blk_cell BK5.out 3).trans rfl
              have hcz5_4 : World.cell? wr ⟨w1.heap.size, 4, none⟩ = some (.int .i64 0) := (blk_cell BK5.out 4).trans rfl
              have hcz5_5 : World.cell? wr ⟨w1.heap.size, 5, none⟩ = some (.int .i64 0) := (blk_cell BK5.out 5).trans rfl
              have hfz5_0 := blk_frozen BK5.out 0
              have hfz5_1 := blk_frozen BK5.out 1
              have hfz5_2 := blk_frozen BK5.out 2
              have hfz5_3 := blk_frozen BK5.out 3
              have hfz5_4 := blk_frozen BK5.out 4
              have hfz5_5 := blk_frozen BK5.out 5
              have hcz6_0 : wr.cell? ⟨w1.heap.size + 1, 0, none⟩ = some (.int .i64 (ns.getD 0 0)) := ns_cell BK6.out HN.out 0 (by omega)
              have hcz6_1 : wr.cell? ⟨w1.heap.size + 1, 1, none⟩ = some (.int .i64 (ns.getD 1 0)) := ns_cell BK6.out HN.out 1 (by omega)
              have hcz6_2 : wr.cell? ⟨w1.heap.size + 1, 2, none⟩ = some (.int .i64 (ns.getD 2 0)) := ns_cell BK6.out HN.out 2 (by omega)
              have hcz6_3 : wr.cell? ⟨w1.heap.size + 1, 3, none⟩ = some (.int .i64 (ns.getD 3 0)) := ns_cell BK6.out HN.out 3 (by omega)
              have hcz6_4 : wr.cell? ⟨w1.heap.size + 1, 4, none⟩ = some (.int .i64 (ns.getD 4 0)) := ns_cell BK6.out HN.out 4 (by omega)
              have hcz6_5 : wr.cell? ⟨w1.heap.size + 1, 5, none⟩ = some (.int .i64 (ns.getD 5 0)) := ns_cell BK6.out HN.out 5 (by omega)
              have hczr_0 : World.cell? wr ⟨w.heap.size, 0, none⟩ = some (.int .i64 0) := (blk_cell BKR.out 0).trans rfl
              have hczr_1 : World.cell? wr ⟨w.heap.size, 1, none⟩ = some (.int .i64 0) := (blk_cell BKR.out 1).trans rfl
              have hczr_2 : World.cell? wr ⟨w.heap.size, 2, none⟩ = some (.int .i64 0) := (blk_cell BKR.out 2).trans rfl
              have hczr_3 : World.cell? wr ⟨w.heap.size, 3, none⟩ = some (.int .i64 0) := (blk_cell BKR.out 3).trans rfl
              have hczr_4 : World.cell? wr ⟨w.heap.size, 4, none⟩ = some (.int .i64 0) := (blk_cell BKR.out 4).trans rfl
              have hczr_5 : World.cell? wr ⟨w.heap.size, 5, none⟩ = some (.int .i64 0) := (blk_cell BKR.out 5).trans rfl
              have hfzr_0 := blk_frozen BKR.out 0
              have hfzr_1 := blk_frozen BKR.out 1
              have hfzr_2 := blk_frozen BKR.out 2
              have hfzr_3 := blk_frozen BKR.out 3
              have hfzr_4 := blk_frozen BKR.out 4
              have hfzr_5 := blk_frozen BKR.out 5
              go_wp2
              refine bodyPost_ret (results_ct rfl _ _ w.heap.size 39 #[.int .i64 (ns.getD 0 0), .int .i64 1, .int .i64 (ns.getD 2 0), .int .i64 (ns.getD 3 0), .int .i64 (ns.getD 4 0), .int .i64 (ns.getD 5 0)] (0, 0) _ rfl (settle6 (HB5 HBW.out HB.out.size) (Nat.le_refl _) (BK5f BKR.out hnA) (.int .i64 (ns.getD 0 0)) (.int .i64 1) (.int .i64 (ns.getD 2 0)) (.int .i64 (ns.getD 3 0)) (.int .i64 (ns.getD 4 0)) (.int .i64 (ns.getD 5 0))).1.1 Tryd.underlying39 rfl (by kernel_rfl)) rfl ?_
              exact ⟨rfl, (settle6 (HB5 HBW.out HB.out.size) (Nat.le_refl _) (BK5f BKR.out hnA) (.int .i64 (ns.getD 0 0)) (.int .i64 1) (.int .i64 (ns.getD 2 0)) (.int .i64 (ns.getD 3 0)) (.int .i64 (ns.getD 4 0)) (.int .i64 (ns.getD 5 0))).1.2⟩
      · rw [if_neg c9] at H
        have c9b0 : ((ws.length : Int) == 5) = false := beq_eq_false_iff_ne.mpr c9
        have c9b1 : ((ws.length : Int) != 5) = true := bne_iff_ne.mpr c9
        clear c9
        simp only [Option.some.injEq, Prod.mk.injEq] at H
        obtain ⟨rfl, rfl, rfl, rfl, rfl, rfl, rfl⟩ := H
        go_enter Tryd.func55, Tryd.ntmps55
        go_wp2_with fail
        refine (insolvencyref25_words.calls k a0 ws _ A2.out).mono ?_
        rintro e w1 ⟨v1, rfl, hR, hb⟩
        obtain ⟨A, c, hv, hc, hC⟩ := Kd.R_reads hR
        subst hv
        have HC := Aside0.mk hC
        have HB := Aside0.mk (below_step (below_alloc (Below.refl w.heap.size w) _) hb)
        have BK := Aside0.mk ((hb.block w.heap.size (by simp)).trans (heap_alloc_new w _))
        clear hR hb hC hc
        obtain ⟨ad, e, hx⟩ := Kd.at_string HC.out 1 (by omega) c8.out
        cases e
        have hbl : ad.block < w1.heap.size := by have := World.block_lt_of_cell? w1 _ hx; rwa [add_block] at this
        have HBA := Aside0.mk (below_alloc (Below.refl w1.heap.size w1) (.cells #[.int .i64 0, .int .i64 0, .int .i64 0, .int .i64 0, .int .i64 0, .int .i64 0] 39))
        have hx1 : (w1.alloc (.cells #[.int .i64 0, .int .i64 0, .int .i64 0, .int .i64 0, .int .i64 0, .int .i64 0] 39)).cell? ⟨ad.block, ad.off + 1, none⟩ = some (.string (rdOf ByteArray.empty ws 1)) := (HBA.out.cell (p := ⟨ad.block, ad.off + 1, none⟩) hbl).trans (by simpa [Addr.add] using hx)
        clear hx
        have HB2 := Aside0.mk (below_alloc HB.out (.cells #[.int .i64 0, .int .i64 1, .int .i64 0, .int .i64 0, .int .i64 0, .int .i64 0] 39))
        have BK2 := Aside0.mk (((below_alloc (Below.refl w1.heap.size w1) (.cells #[.int .i64 0, .int .i64 1, .int .i64 0, .int .i64 0, .int .i64 0, .int .i64 0] 39)).block w.heap.size (blk_lt BK.out)).trans BK.out)
        have hcz_0 : World.cell? (w1.alloc (.cells #[.int .i64 0, .int .i64 1, .int .i64 0, .int .i64 0, .int .i64 0, .int .i64 0] 39)) ⟨w.heap.size, 0, none⟩ = some (.int .i64 0) := (blk_cell BK2.out 0).trans rfl
        have hcz_1 : World.cell? (w1.alloc (.cells #[.int .i64 0, .int .i64 1, .int .i64 0, .int .i64 0, .int .i64 0, .int .i64 0] 39)) ⟨w.heap.size, 1, none⟩ = some (.int .i64 0) := (blk_cell BK2.out 1).trans rfl
        have hcz_2 : World.cell? (w1.alloc (.cells #[.int .i64 0, .int .i64 1, .int .i64 0, .int .i64 0, .int .i64 0, .int .i64 0] 39)) ⟨w.heap.size, 2, none⟩ = some (.int .i64 0) := (blk_cell BK2.out 2).trans rfl
        have hcz_3 : World.cell? (w1.alloc (.cells #[.int .i64 0, .int .i64 1, .int .i64 0, .int .i64 0, .int .i64 0, .int .i64 0] 39)) ⟨w.heap.size, 3, none⟩ = some (.int .i64 0) := (blk_cell BK2.out 3).trans rfl
        have hcz_4 : World.cell? (w1.alloc (.cells #[.int .i64 0, .int .i64 1, .int .i64 0, .int .i64 0, .int .i64 0, .int .i64 0] 39)) ⟨w.heap.size, 4, none⟩ = some (.int .i64 0) := (blk_cell BK2.out 4).trans rfl
        have hcz_5 : World.cell? (w1.alloc (.cells #[.int .i64 0, .int .i64 1, .int .i64 0, .int .i64 0, .int .i64 0, .int .i64 0] 39)) ⟨w.heap.size, 5, none⟩ = some (.int .i64 0) := (blk_cell BK2.out 5).trans rfl
        have hfz_0 := blk_frozen BK2.out 0
        have hfz_1 := blk_frozen BK2.out 1
        have hfz_2 := blk_frozen BK2.out 2
        have hfz_3 := blk_frozen BK2.out 3
        have hfz_4 := blk_frozen BK2.out 4
        have hfz_5 := blk_frozen BK2.out 5
        go_wp2
        refine bodyPost_ret (results_ct rfl _ _ w.heap.size 39 #[.int .i64 0, .int .i64 0, .int .i64 0, .int .i64 0, .int .i64 0, .int .i64 0] (0, 0) _ rfl (settle6 HB2.out (Nat.le_refl _) BK2.out (.int .i64 0) (.int .i64 0) (.int .i64 0) (.int .i64 0) (.int .i64 0) (.int .i64 0)).1.1 Tryd.underlying39 rfl (by kernel_rfl)) rfl ?_
        exact ⟨rfl, (settle6 HB2.out (Nat.le_refl _) BK2.out (.int .i64 0) (.int .i64 0) (.int .i64 0) (.int .i64 0) (.int .i64 0) (.int .i64 0)).1.2⟩
    · by_cases d2 : (rdOf ByteArray.empty ws 1).toList = ([115, 117, 112, 112, 108, 121] : List UInt8)
      · 
        rw [if_neg d1, if_pos d2] at H
        unfold insolvencyref25_row.g at H
        have d1b : ((rdOf ByteArray.empty ws 1).toList == ([112, 97, 121, 109, 101, 110, 116] : List UInt8)) = false := beq_eq_false_iff_ne.mpr d1
        have d2b : ((rdOf ByteArray.empty ws 1).toList == ([115, 117, 112, 112, 108, 121] : List UInt8)) = true := beq_iff_eq.mpr d2
        clear d1 d2
        rw [if_neg (by decide)] at H
        by_cases c9 : (ws.length : Int) = 5
        · rw [if_pos c9] at H
          have c9b0 : ((ws.length : Int) == 5) = true := beq_iff_eq.mpr c9
          have c9b1 : ((ws.length : Int) != 5) = false := bne_eq_false_iff_eq.mpr c9
          clear c9
          have H' := Aside0.mk H
          clear H
          go_enter Tryd.func55, Tryd.ntmps55
          go_wp2_with fail
          refine (insolvencyref25_words.calls k a0 ws _ A2.out).mono ?_
          rintro e w1 ⟨v1, rfl, hR, hb⟩
          obtain ⟨A, c, hv, hc, hC⟩ := Kd.R_reads hR
          subst hv
          have HC := Aside0.mk hC
          have HB := Aside0.mk (below_step (below_alloc (Below.refl w.heap.size w) _) hb)
          have BK := Aside0.mk ((hb.block w.heap.size (by simp)).trans (heap_alloc_new w _))
          clear hR hb hC hc
          obtain ⟨ad, e, hx⟩ := Kd.at_string HC.out 1 (by omega) c8.out
          cases e
          have hbl : ad.block < w1.heap.size := by have := World.block_lt_of_cell? w1 _ hx; rwa [add_block] at this
          have HBA := Aside0.mk (below_alloc (Below.refl w1.heap.size w1) (.cells #[.int .i64 0, .int .i64 0, .int .i64 0, .int .i64 0, .int .i64 0, .int .i64 0] 39))
          have hx1 : (w1.alloc (.cells #[.int .i64 0, .int .i64 0, .int .i64 0, .int .i64 0, .int .i64 0, .int .i64 0] 39)).cell? ⟨ad.block, ad.off + 1, none⟩ = some (.string (rdOf ByteArray.empty ws 1)) := (HBA.out.cell (p := ⟨ad.block, ad.off + 1, none⟩) hbl).trans (by simpa [Addr.add] using hx)
          clear hx
          go_wp2
          go_loopg [7] k (fun kq v7 w' => ∃ (ns : List Int) (x7 : Int), v7 = .int .i64 x7 ∧ Aside0 (ns.length = 6) ∧ Aside0 (0 ≤ x7) ∧ Aside0 (insolvencyref25_row.l0 kq ws 2 ns x7 = some (r1, r2, r3, r4, r5, r6, r7)) ∧ Aside0 (kq ≤ k) ∧ Aside0 (w'.heap[w1.heap.size]? = some (.cells #[.int .i64 0, .int .i64 2, .int .i64 0, .int .i64 0, .int .i64 0, .int .i64 0] 39 (0, 0))) ∧ Aside0 (w'.heap[w1.heap.size + 1]? = some (.cells (ns.map (Value.int .i64)).toArray 108 (0, 0))) ∧ Aside0 (Below w1.heap.size w1 w'))
          case atStart => exact ⟨[0, 0, 0, 0, 0, 0], 0, rfl, ⟨rfl⟩, ⟨Int.le_refl _⟩, H', ⟨Nat.le_refl _⟩, ⟨(Below.heap_alloc _ _ _ (by simp)).trans (heap_alloc_new w1 _)⟩, ⟨by have := heap_alloc_new (w1.alloc (.cells #[.int .i64 0, .int .i64 2, .int .i64 0, .int .i64 0, .int .i64 0, .int .i64 0] 39)) (.cells #[.int .i64 0, .int .i64 0, .int .i64 0, .int .i64 0, .int .i64 0, .int .i64 0] 108); simpa using this⟩, ⟨below_alloc (below_alloc (Below.refl _ _) _) _⟩⟩
          case round =>
            clear H' HBA hx1
            obtain ⟨ns, x7, rfl, HN, H0, HA, HK1, BK5, BK6, HB1⟩ := hrel
            have HBW := Aside0.mk (below_then HB.out HB.out.size HB1.out)
            have BKR := Aside0.mk ((HB1.out.block w.heap.size (blk_lt BK.out)).trans BK.out)
            cases gk with
            | zero => exact absurd HA.out (by simp [insolvencyref25_row.l0])
            | succ k1 =>
              have H := HA.out
              clear HA
              simp only [insolvencyref25_row.l0] at H
              by_cases c3 : x7 < (ws.length : Int)
              · rw [if_pos c3] at H
                have c3b0 : decide (x7 < (ws.length : Int)) = true := decide_eq_true c3
                by_cases c4 : x7 = 1
                · rw [if_pos c4] at H
                  subst c4
                  have H' := Aside0.mk H
                  clear H c3
                  go_wp2
                  go_roundg k1
                  case measure => have := HK1.out; omega
                  case rel => exact ⟨ns, 2, rfl, HN, ⟨by omega⟩, H', ⟨by have := HK1.out; omega⟩, BK5, BK6, HB1⟩
                · rw [if_neg c4] at H
                  have c4b0 : (x7 == 1) = false := beq_eq_false_iff_ne.mpr c4
                  clear c4
                  by_cases c5 : 0 ≤ x7
                  · rw [if_pos c5] at H
                    by_cases c6 : x7 < 6
                    · rw [if_pos c6] at H
                      replace H := Option.bind_eq_some_iff.mp H
                      obtain ⟨⟨t1, t2⟩, A50, H⟩ := H
                      have A5 := Aside0.mk A50
                      clear A50
                      have hC1 := Kd.C_below HC.out HB1.out
                      obtain ⟨ad2, e2, hx⟩ := Kd.at_string hC1 x7 c5 c3
                      cases e2
                      clear hC1
                      have c5b0 : decide (0 ≤ x7) = true := decide_eq_true c5
                      have c6b0 : decide (x7 < 6) = true := decide_eq_true c6
                      have hn6 : x7.toNat < 6 := by omega
                      have hg6 : wr.cell? ⟨w1.heap.size + 1, x7.toNat, none⟩ = some (.int .i64 (ns.getD x7.toNat 0)) := by
                        refine (blk_cell BK6.out x7.toNat).trans ?_
                        have := HN.out
                        simp [List.getD, List.getElem?_eq_getElem (show x7.toNat < ns.length by omega)]
                      have hf6 := blk_frozen BK6.out x7.toNat
                      cases t2 with
                      | true =>
                        have H1 : insolvencyref25_row.l0 k1 ws 2 (ns.set x7.toNat t1) (x7 + 1) = some (r1, r2, r3, r4, r5, r6, r7) := by rw [if_pos rfl] at H; exact H
                        clear H
                        have H' := Aside0.mk H1
                        clear H1
                        have P3 := Aside0.mk c3
                        have P5 := Aside0.mk c5
                        have P6 := Aside0.mk c6
                        have p3 := eq_true c3
                        have p5 := eq_true c5
                        have p6 := eq_true c6
                        clear hn6
                        go_wp2_with (first | (go_at_call 64; (with_reducible refine (insolvencyref25_number.calls k1 _ t1 true _ A5.out).mono ?_); rintro e w8 ⟨rfl, ⟨nd, rfl⟩⟩))
                        go_roundg k1
                        case measure => have := HK1.out; omega
                        case rel => exact ⟨ns.set x7.toNat t1, x7 + 1, rfl, ⟨by rw [List.length_set]; exact HN.out⟩, ⟨by have := P5.out; omega⟩, H', ⟨by have := HK1.out; omega⟩, ⟨blk_far (blk_drewN BK5.out nd) (by simp) _⟩, ⟨blk_put (blk_drewN BK6.out nd) x7.toNat _ (by simp [List.map_set])⟩, ⟨(pw_below_drewN HB1.out nd).setCell (p := ⟨w1.heap.size + 1, x7.toNat, none⟩) (by simp) _⟩⟩
                      | false =>
                        have H1 : (some (0, 0, 0, 0, 0, 0, false) : Option (Int × Int × Int × Int × Int × Int × Bool)) = some (r1, r2, r3, r4, r5, r6, r7) := by rw [if_neg (show ¬ (false = true) by decide)] at H; exact H
                        clear H hg6 hf6
                        simp only [Option.some.injEq, Prod.mk.injEq] at H1
                        obtain ⟨rfl, rfl, rfl, rfl, rfl, rfl, rfl⟩ := H1
                        have p3 := eq_true c3
                        have p5 := eq_true c5
                        have p6 := eq_true c6
                        have hcz_0 : World.cell? wr ⟨w.heap.size, 0, none⟩ = some (.int .i64 0) := (blk_cell BKR.out 0).trans rfl
                        have hcz_1 : World.cell? wr ⟨w.heap.size, 1, none⟩ = some (.int .i64 0) := (blk_cell BKR.out 1).trans rfl
                        have hcz_2 : World.cell? wr ⟨w.heap.size, 2, none⟩ = some (.int .i64 0) := (blk_cell BKR.out 2).trans rfl
                        have hcz_3 : World.cell? wr ⟨w.heap.size, 3, none⟩ = some (.int .i64 0) := (blk_cell BKR.out 3).trans rfl
                        have hcz_4 : World.cell? wr ⟨w.heap.size, 4, none⟩ = some (.int .i64 0) := (blk_cell BKR.out 4).trans rfl
                        have hcz_5 : World.cell? wr ⟨w.heap.size, 5, none⟩ = some (.int .i64 0) := (blk_cell BKR.out 5).trans rfl
                        have hfz_0 := blk_frozen BKR.out 0
                        have hfz_1 := blk_frozen BKR.out 1
                        have hfz_2 := blk_frozen BKR.out 2
                        have hfz_3 := blk_frozen BKR.out 3
                        have hfz_4 := blk_frozen BKR.out 4
                        have hfz_5 := blk_frozen BKR.out 5
                        go_wp2_with (first | (go_at_call 64; (with_reducible refine (insolvencyref25_number.calls k1 _ t1 false _ A5.out).mono ?_); rintro e w8 ⟨rfl, ⟨nd, rfl⟩⟩))
                        refine bodyPost_ret (results_ct rfl _ _ w.heap.size 39 #[.int .i64 0, .int .i64 0, .int .i64 0, .int .i64 0, .int .i64 0, .int .i64 0] (0, 0) _ rfl (settle6 (pw_below_drewN HBW.out nd) (Nat.le_refl _) (blk_drewN BKR.out nd) (.int .i64 0) (.int .i64 0) (.int .i64 0) (.int .i64 0) (.int .i64 0) (.int .i64 0)).1.1 Tryd.underlying39 rfl (by kernel_rfl)) rfl ?_
                        exact ⟨rfl, (settle6 (pw_below_drewN HBW.out nd) (Nat.le_refl _) (blk_drewN BKR.out nd) (.int .i64 0) (.int .i64 0) (.int .i64 0) (.int .i64 0) (.int .i64 0) (.int .i64 0)).1.2⟩
                    · rw [if_neg c6] at H
                      exact absurd H (by simp)
                  · rw [if_neg c5] at H
                    exact absurd H (by simp)
              · rw [if_neg c3] at H
                have c3b0 : decide (x7 < (ws.length : Int)) = false := decide_eq_false c3
                clear c3
                simp only [Option.some.injEq, Prod.mk.injEq] at H
                obtain ⟨rfl, rfl, rfl, rfl, rfl, rfl, rfl⟩ := H
                have hnA : w.heap.size ≠ w1.heap.size := by have := blk_lt BK.out; omega
                have hnB : w1.heap.size ≠ w.heap.size := by have := blk_lt BK.out; omega
                have hnC : w.heap.size ≠ w1.heap.size + 1 := by have := blk_lt BK.out; omega
                have hcz5_0 : World.cell? wr ⟨w1.heap.size, 0, none⟩ = some (.int .i64 0) := (blk_cell BK5.out 0).trans rfl
                have hcz5_1 : World.cell? wr ⟨w1.heap.size, 1, none⟩ = some (.int .i64 2) := (blk_cell BK5.out 1).trans rfl
                have hcz5_2 : World.cell? wr ⟨w1.heap.size, 2, none⟩ = some (.int .i64 0) := (blk_cell BK5.out 2).trans rfl
                have hcz5_3 : World.cell? wr ⟨w1.heap.size, 3, none⟩ = some (.int .i64 0) := (blk_cell BK5.out 3).trans rfl
                have hcz5_4 : World.cell? wr ⟨w1.heap.size, 4, none⟩ = some (.int .i64 0) := (blk_cell BK5.out 4).trans rfl
                have hcz5_5 : World.cell? wr ⟨w1.heap.size, 5, none⟩ = some (.int .i64 0) := (blk_cell BK5.out 5).trans rfl
                have hfz5_0 := blk_frozen BK5.out 0
                have hfz5_1 := blk_frozen BK5.out 1
                have hfz5_2 := blk_frozen BK5.out 2
                have hfz5_3 := blk_frozen BK5.out 3
                have hfz5_4 := blk_frozen BK5.out 4
                have hfz5_5 := blk_frozen BK5.out 5
                have hcz6_0 : wr.cell? ⟨w1.heap.size + 1, 0, none⟩ = some (.int .i64 (ns.getD 0 0)) := ns_cell BK6.out HN.out 0 (by omega)
                have hcz6_1 : wr.cell? ⟨w1.heap.size + 1, 1, none⟩ = some (.int .i64 (ns.getD 1 0)) := ns_cell BK6.out HN.out 1 (by omega)
                have hcz6_2 : wr.cell? ⟨w1.heap.size + 1, 2, none⟩ = some (.int .i64 (ns.getD 2 0)) := ns_cell BK6.out HN.out 2 (by omega)
                have hcz6_3 : wr.cell? ⟨w1.heap.size + 1, 3, none⟩ = some (.int .i64 (ns.getD 3 0)) := ns_cell BK6.out HN.out 3 (by omega)
                have hcz6_4 : wr.cell? ⟨w1.heap.size + 1, 4, none⟩ = some (.int .i64 (ns.getD 4 0)) := ns_cell BK6.out HN.out 4 (by omega)
                have hcz6_5 : wr.cell? ⟨w1.heap.size + 1, 5, none⟩ = some (.int .i64 (ns.getD 5 0)) := ns_cell BK6.out HN.out 5 (by omega)
                have hczr_0 : World.cell? wr ⟨w.heap.size, 0, none⟩ = some (.int .i64 0) := (blk_cell BKR.out 0).trans rfl
                have hczr_1 : World.cell? wr ⟨w.heap.size, 1, none⟩ = some (.int .i64 0) := (blk_cell BKR.out 1).trans rfl
                have hczr_2 : World.cell? wr ⟨w.heap.size, 2, none⟩ = some (.int .i64 0) := (blk_cell BKR.out 2).trans rfl
                have hczr_3 : World.cell? wr ⟨w.heap.size, 3, none⟩ = some (.int .i64 0) := (blk_cell BKR.out 3).trans rfl
                have hczr_4 : World.cell? wr ⟨w.heap.size, 4, none⟩ = some (.int .i64 0) := (blk_cell BKR.out 4).trans rfl
                have hczr_5 : World.cell? wr ⟨w.heap.size, 5, none⟩ = some (.int .i64 0) := (blk_cell BKR.out 5).trans rfl
                have hfzr_0 := blk_frozen BKR.out 0
                have hfzr_1 := blk_frozen BKR.out 1
                have hfzr_2 := blk_frozen BKR.out 2
                have hfzr_3 := blk_frozen BKR.out 3
                have hfzr_4 := blk_frozen BKR.out 4
                have hfzr_5 := blk_frozen BKR.out 5
                go_wp2
                refine bodyPost_ret (results_ct rfl _ _ w.heap.size 39 #[.int .i64 (ns.getD 0 0), .int .i64 2, .int .i64 (ns.getD 2 0), .int .i64 (ns.getD 3 0), .int .i64 (ns.getD 4 0), .int .i64 (ns.getD 5 0)] (0, 0) _ rfl (settle6 (HB5 HBW.out HB.out.size) (Nat.le_refl _) (BK5f BKR.out hnA) (.int .i64 (ns.getD 0 0)) (.int .i64 2) (.int .i64 (ns.getD 2 0)) (.int .i64 (ns.getD 3 0)) (.int .i64 (ns.getD 4 0)) (.int .i64 (ns.getD 5 0))).1.1 Tryd.underlying39 rfl (by kernel_rfl)) rfl ?_
                exact ⟨rfl, (settle6 (HB5 HBW.out HB.out.size) (Nat.le_refl _) (BK5f BKR.out hnA) (.int .i64 (ns.getD 0 0)) (.int .i64 2) (.int .i64 (ns.getD 2 0)) (.int .i64 (ns.getD 3 0)) (.int .i64 (ns.getD 4 0)) (.int .i64 (ns.getD 5 0))).1.2⟩
        · rw [if_neg c9] at H
          have c9b0 : ((ws.length : Int) == 5) = false := beq_eq_false_iff_ne.mpr c9
          have c9b1 : ((ws.length : Int) != 5) = true := bne_iff_ne.mpr c9
          clear c9
          simp only [Option.some.injEq, Prod.mk.injEq] at H
          obtain ⟨rfl, rfl, rfl, rfl, rfl, rfl, rfl⟩ := H
          go_enter Tryd.func55, Tryd.ntmps55
          go_wp2_with fail
          refine (insolvencyref25_words.calls k a0 ws _ A2.out).mono ?_
          rintro e w1 ⟨v1, rfl, hR, hb⟩
          obtain ⟨A, c, hv, hc, hC⟩ := Kd.R_reads hR
          subst hv
          have HC := Aside0.mk hC
          have HB := Aside0.mk (below_step (below_alloc (Below.refl w.heap.size w) _) hb)
          have BK := Aside0.mk ((hb.block w.heap.size (by simp)).trans (heap_alloc_new w _))
          clear hR hb hC hc
          obtain ⟨ad, e, hx⟩ := Kd.at_string HC.out 1 (by omega) c8.out
          cases e
          have hbl : ad.block < w1.heap.size := by have := World.block_lt_of_cell? w1 _ hx; rwa [add_block] at this
          have HBA := Aside0.mk (below_alloc (Below.refl w1.heap.size w1) (.cells #[.int .i64 0, .int .i64 0, .int .i64 0, .int .i64 0, .int .i64 0, .int .i64 0] 39))
          have hx1 : (w1.alloc (.cells #[.int .i64 0, .int .i64 0, .int .i64 0, .int .i64 0, .int .i64 0, .int .i64 0] 39)).cell? ⟨ad.block, ad.off + 1, none⟩ = some (.string (rdOf ByteArray.empty ws 1)) := (HBA.out.cell (p := ⟨ad.block, ad.off + 1, none⟩) hbl).trans (by simpa [Addr.add] using hx)
          clear hx
          have HB2 := Aside0.mk (below_alloc HB.out (.cells #[.int .i64 0, .int .i64 2, .int .i64 0, .int .i64 0, .int .i64 0, .int .i64 0] 39))
          have BK2 := Aside0.mk (((below_alloc (Below.refl w1.heap.size w1) (.cells #[.int .i64 0, .int .i64 2, .int .i64 0, .int .i64 0, .int .i64 0, .int .i64 0] 39)).block w.heap.size (blk_lt BK.out)).trans BK.out)
          have hcz_0 : World.cell? (w1.alloc (.cells #[.int .i64 0, .int .i64 2, .int .i64 0, .int .i64 0, .int .i64 0, .int .i64 0] 39)) ⟨w.heap.size, 0, none⟩ = some (.int .i64 0) := (blk_cell BK2.out 0).trans rfl
          have hcz_1 : World.cell? (w1.alloc (.cells #[.int .i64 0, .int .i64 2, .int .i64 0, .int .i64 0, .int .i64 0, .int .i64 0] 39)) ⟨w.heap.size, 1, none⟩ = some (.int .i64 0) := (blk_cell BK2.out 1).trans rfl
          have hcz_2 : World.cell? (w1.alloc (.cells #[.int .i64 0, .int .i64 2, .int .i64 0, .int .i64 0, .int .i64 0, .int .i64 0] 39)) ⟨w.heap.size, 2, none⟩ = some (.int .i64 0) := (blk_cell BK2.out 2).trans rfl
          have hcz_3 : World.cell? (w1.alloc (.cells #[.int .i64 0, .int .i64 2, .int .i64 0, .int .i64 0, .int .i64 0, .int .i64 0] 39)) ⟨w.heap.size, 3, none⟩ = some (.int .i64 0) := (blk_cell BK2.out 3).trans rfl
          have hcz_4 : World.cell? (w1.alloc (.cells #[.int .i64 0, .int .i64 2, .int .i64 0, .int .i64 0, .int .i64 0, .int .i64 0] 39)) ⟨w.heap.size, 4, none⟩ = some (.int .i64 0) := (blk_cell BK2.out 4).trans rfl
          have hcz_5 : World.cell? (w1.alloc (.cells #[.int .i64 0, .int .i64 2, .int .i64 0, .int .i64 0, .int .i64 0, .int .i64 0] 39)) ⟨w.heap.size, 5, none⟩ = some (.int .i64 0) := (blk_cell BK2.out 5).trans rfl
          have hfz_0 := blk_frozen BK2.out 0
          have hfz_1 := blk_frozen BK2.out 1
          have hfz_2 := blk_frozen BK2.out 2
          have hfz_3 := blk_frozen BK2.out 3
          have hfz_4 := blk_frozen BK2.out 4
          have hfz_5 := blk_frozen BK2.out 5
          go_wp2
          refine bodyPost_ret (results_ct rfl _ _ w.heap.size 39 #[.int .i64 0, .int .i64 0, .int .i64 0, .int .i64 0, .int .i64 0, .int .i64 0] (0, 0) _ rfl (settle6 HB2.out (Nat.le_refl _) BK2.out (.int .i64 0) (.int .i64 0) (.int .i64 0) (.int .i64 0) (.int .i64 0) (.int .i64 0)).1.1 Tryd.underlying39 rfl (by kernel_rfl)) rfl ?_
          exact ⟨rfl, (settle6 HB2.out (Nat.le_refl _) BK2.out (.int .i64 0) (.int .i64 0) (.int .i64 0) (.int .i64 0) (.int .i64 0) (.int .i64 0)).1.2⟩
      · by_cases d3 : (rdOf ByteArray.empty ws 1).toList = ([116, 114, 97, 110, 115, 102, 101, 114] : List UInt8)
        · 
          rw [if_neg d1, if_neg d2, if_pos d3] at H
          unfold insolvencyref25_row.g at H
          have d1b : ((rdOf ByteArray.empty ws 1).toList == ([112, 97, 121, 109, 101, 110, 116] : List UInt8)) = false := beq_eq_false_iff_ne.mpr d1
          have d2b : ((rdOf ByteArray.empty ws 1).toList == ([115, 117, 112, 112, 108, 121] : List UInt8)) = false := beq_eq_false_iff_ne.mpr d2
          have d3b : ((rdOf ByteArray.empty ws 1).toList == ([116, 114, 97, 110, 115, 102, 101, 114] : List UInt8)) = true := beq_iff_eq.mpr d3
          clear d1 d2 d3
          rw [if_pos rfl] at H
          by_cases c9 : (ws.length : Int) = 6
          · rw [if_pos c9] at H
            have c9b0 : ((ws.length : Int) == 6) = true := beq_iff_eq.mpr c9
            have c9b1 : ((ws.length : Int) != 6) = false := bne_eq_false_iff_eq.mpr c9
            clear c9
            have H' := Aside0.mk H
            clear H
            go_enter Tryd.func55, Tryd.ntmps55
            go_wp2_with fail
            refine (insolvencyref25_words.calls k a0 ws _ A2.out).mono ?_
            rintro e w1 ⟨v1, rfl, hR, hb⟩
            obtain ⟨A, c, hv, hc, hC⟩ := Kd.R_reads hR
            subst hv
            have HC := Aside0.mk hC
            have HB := Aside0.mk (below_step (below_alloc (Below.refl w.heap.size w) _) hb)
            have BK := Aside0.mk ((hb.block w.heap.size (by simp)).trans (heap_alloc_new w _))
            clear hR hb hC hc
            obtain ⟨ad, e, hx⟩ := Kd.at_string HC.out 1 (by omega) c8.out
            cases e
            have hbl : ad.block < w1.heap.size := by have := World.block_lt_of_cell? w1 _ hx; rwa [add_block] at this
            have HBA := Aside0.mk (below_alloc (Below.refl w1.heap.size w1) (.cells #[.int .i64 0, .int .i64 0, .int .i64 0, .int .i64 0, .int .i64 0, .int .i64 0] 39))
            have hx1 : (w1.alloc (.cells #[.int .i64 0, .int .i64 0, .int .i64 0, .int .i64 0, .int .i64 0, .int .i64 0] 39)).cell? ⟨ad.block, ad.off + 1, none⟩ = some (.string (rdOf ByteArray.empty ws 1)) := (HBA.out.cell (p := ⟨ad.block, ad.off + 1, none⟩) hbl).trans (by simpa [Addr.add] using hx)
            clear hx
            go_wp2
            go_loopg [7] k (fun kq v7 w' => ∃ (ns : List Int) (x7 : Int), v7 = .int .i64 x7 ∧ Aside0 (ns.length = 6) ∧ Aside0 (0 ≤ x7) ∧ Aside0 (insolvencyref25_row.l0 kq ws 3 ns x7 = some (r1, r2, r3, r4, r5, r6, r7)) ∧ Aside0 (kq ≤ k) ∧ Aside0 (w'.heap[w1.heap.size]? = some (.cells #[.int .i64 0, .int .i64 3, .int .i64 0, .int .i64 0, .int .i64 0, .int .i64 0] 39 (0, 0))) ∧ Aside0 (w'.heap[w1.heap.size + 1]? = some (.cells (ns.map (Value.int .i64)).toArray 108 (0, 0))) ∧ Aside0 (Below w1.heap.size w1 w'))
            case atStart => exact ⟨[0, 0, 0, 0, 0, 0], 0, rfl, ⟨rfl⟩, ⟨Int.le_refl _⟩, H', ⟨Nat.le_refl _⟩, ⟨(Below.heap_alloc _ _ _ (by simp)).trans (heap_alloc_new w1 _)⟩, ⟨by have := heap_alloc_new (w1.alloc (.cells #[.int .i64 0, .int .i64 3, .int .i64 0, .int .i64 0, .int .i64 0, .int .i64 0] 39)) (.cells #[.int .i64 0, .int .i64 0, .int .i64 0, .int .i64 0, .int .i64 0, .int .i64 0] 108); simpa using this⟩, ⟨below_alloc (below_alloc (Below.refl _ _) _) _⟩⟩
            case round =>
              clear H' HBA hx1
              obtain ⟨ns, x7, rfl, HN, H0, HA, HK1, BK5, BK6, HB1⟩ := hrel
              have HBW := Aside0.mk (below_then HB.out HB.out.size HB1.out)
              have BKR := Aside0.mk ((HB1.out.block w.heap.size (blk_lt BK.out)).trans BK.out)
              cases gk with
              | zero => exact absurd HA.out (by simp [insolvencyref25_row.l0])
              | succ k1 =>
                have H := HA.out
                clear HA
                simp only [insolvencyref25_row.l0] at H
                by_cases c3 : x7 < (ws.length : Int)
                · rw [if_pos c3] at H
                  have c3b0 : decide (x7 < (ws.length : Int)) = true := decide_eq_true c3
                  by_cases c4 : x7 = 1
                  · rw [if_pos c4] at H
                    subst c4
                    have H' := Aside0.mk H
                    clear H c3
                    go_wp2
                    go_roundg k1
                    case measure => have := HK1.out; omega
                    case rel => exact ⟨ns, 2, rfl, HN, ⟨by omega⟩, H', ⟨by have := HK1.out; omega⟩, BK5, BK6, HB1⟩
                  · rw [if_neg c4] at H
                    have c4b0 : (x7 == 1) = false := beq_eq_false_iff_ne.mpr c4
                    clear c4
                    by_cases c5 : 0 ≤ x7
                    · rw [if_pos c5] at H
                      by_cases c6 : x7 < 6
                      · rw [if_pos c6] at H
                        replace H := Option.bind_eq_some_iff.mp H
                        obtain ⟨⟨t1, t2⟩, A50, H⟩ := H
                        have A5 := Aside0.mk A50
                        clear A50
                        have hC1 := Kd.C_below HC.out HB1.out
                        obtain ⟨ad2, e2, hx⟩ := Kd.at_string hC1 x7 c5 c3
                        cases e2
                        clear hC1
                        have c5b0 : decide (0 ≤ x7) = true := decide_eq_true c5
                        have c6b0 : decide (x7 < 6) = true := decide_eq_true c6
                        have hn6 : x7.toNat < 6 := by omega
                        have hg6 : wr.cell? ⟨w1.heap.size + 1, x7.toNat, none⟩ = some (.int .i64 (ns.getD x7.toNat 0)) := by
                          refine (blk_cell BK6.out x7.toNat).trans ?_
                          have := HN.out
                          simp [List.getD, List.getElem?_eq_getElem (show x7.toNat < ns.length by omega)]
                        have hf6 := blk_frozen BK6.out x7.toNat
                        cases t2 with
                        | true =>
                          have H1 : insolvencyref25_row.l0 k1 ws 3 (ns.set x7.toNat t1) (x7 + 1) = some (r1, r2, r3, r4, r5, r6, r7) := by rw [if_pos rfl] at H; exact H
                          clear H
                          have H' := Aside0.mk H1
                          clear H1
                          have P3 := Aside0.mk c3
                          have P5 := Aside0.mk c5
                          have P6 := Aside0.mk c6
                          have p3 := eq_true c3
                          have p5 := eq_true c5
                          have p6 := eq_true c6
                          clear hn6
                          go_wp2_with (first | (go_at_call 64; (with_reducible refine (insolvencyref25_number.calls k1 _ t1 true _ A5.out).mono ?_); rintro e w8 ⟨rfl, ⟨nd, rfl⟩⟩))
                          go_roundg k1
                          case measure => have := HK1.out; omega
                          case rel => exact ⟨ns.set x7.toNat t1, x7 + 1, rfl, ⟨by rw [List.length_set]; exact HN.out⟩, ⟨by have := P5.out; omega⟩, H', ⟨by have := HK1.out; omega⟩, ⟨blk_far (blk_drewN BK5.out nd) (by simp) _⟩, ⟨blk_put (blk_drewN BK6.out nd) x7.toNat _ (by simp [List.map_set])⟩, ⟨(pw_below_drewN HB1.out nd).setCell (p := ⟨w1.heap.size + 1, x7.toNat, none⟩) (by simp) _⟩⟩
                        | false =>
                          have H1 : (some (0, 0, 0, 0, 0, 0, false) : Option (Int × Int × Int × Int × Int × Int × Bool)) = some (r1, r2, r3, r4, r5, r6, r7) := by rw [if_neg (show ¬ (false = true) by decide)] at H; exact H
                          clear H hg6 hf6
                          simp only [Option.some.injEq, Prod.mk.injEq] at H1
                          obtain ⟨rfl, rfl, rfl, rfl, rfl, rfl, rfl⟩ := H1
                          have p3 := eq_true c3
                          have p5 := eq_true c5
                          have p6 := eq_true c6
                          have hcz_0 : World.cell? wr ⟨w.heap.size, 0, none⟩ = some (.int .i64 0) := (blk_cell BKR.out 0).trans rfl
                          have hcz_1 : World.cell? wr ⟨w.heap.size, 1, none⟩ = some (.int .i64 0) := (blk_cell BKR.out 1).trans rfl
                          have hcz_2 : World.cell? wr ⟨w.heap.size, 2, none⟩ = some (.int .i64 0) := (blk_cell BKR.out 2).trans rfl
                          have hcz_3 : World.cell? wr ⟨w.heap.size, 3, none⟩ = some (.int .i64 0) := (blk_cell BKR.out 3).trans rfl
                          have hcz_4 : World.cell? wr ⟨w.heap.size, 4, none⟩ = some (.int .i64 0) := (blk_cell BKR.out 4).trans rfl
                          have hcz_5 : World.cell? wr ⟨w.heap.size, 5, none⟩ = some (.int .i64 0) := (blk_cell BKR.out 5).trans rfl
                          have hfz_0 := blk_frozen BKR.out 0
                          have hfz_1 := blk_frozen BKR.out 1
                          have hfz_2 := blk_frozen BKR.out 2
                          have hfz_3 := blk_frozen BKR.out 3
                          have hfz_4 := blk_frozen BKR.out 4
                          have hfz_5 := blk_frozen BKR.out 5
                          go_wp2_with (first | (go_at_call 64; (with_reducible refine (insolvencyref25_number.calls k1 _ t1 false _ A5.out).mono ?_); rintro e w8 ⟨rfl, ⟨nd, rfl⟩⟩))
                          refine bodyPost_ret (results_ct rfl _ _ w.heap.size 39 #[.int .i64 0, .int .i64 0, .int .i64 0, .int .i64 0, .int .i64 0, .int .i64 0] (0, 0) _ rfl (settle6 (pw_below_drewN HBW.out nd) (Nat.le_refl _) (blk_drewN BKR.out nd) (.int .i64 0) (.int .i64 0) (.int .i64 0) (.int .i64 0) (.int .i64 0) (.int .i64 0)).1.1 Tryd.underlying39 rfl (by kernel_rfl)) rfl ?_
                          exact ⟨rfl, (settle6 (pw_below_drewN HBW.out nd) (Nat.le_refl _) (blk_drewN BKR.out nd) (.int .i64 0) (.int .i64 0) (.int .i64 0) (.int .i64 0) (.int .i64 0) (.int .i64 0)).1.2⟩
                      · rw [if_neg c6] at H
                        exact absurd H (by simp)
                    · rw [if_neg c5] at H
                      exact absurd H (by simp)
                · rw [if_neg c3] at H
                  have c3b0 : decide (x7 < (ws.length : Int)) = false := decide_eq_false c3
                  clear c3
                  simp only [Option.some.injEq, Prod.mk.injEq] at H
                  obtain ⟨rfl, rfl, rfl, rfl, rfl, rfl, rfl⟩ := H
                  have hnA : w.heap.size ≠ w1.heap.size := by have := blk_lt BK.out; omega
                  have hnB : w1.heap.size ≠ w.heap.size := by have := blk_lt BK.out; omega
                  have hnC : w.heap.size ≠ w1.heap.size + 1 := by have := blk_lt BK.out; omega
                  have hcz5_0 : World.cell? wr ⟨w1.heap.size, 0, none⟩ = some (.int .i64 0) := (blk_cell BK5.out 0).trans rfl
                  have hcz5_1 : World.cell? wr ⟨w1.heap.size, 1, none⟩ = some (.int .i64 3) := (blk_cell BK5.out 1).trans rfl
                  have hcz5_2 : World.cell? wr ⟨w1.heap.size, 2, none⟩ = some (.int .i64 0) := (blk_cell BK5.out 2).trans rfl
                  have hcz5_3 : World.cell? wr ⟨w1.heap.size, 3, none⟩ = some (.int .i64 0) := (blk_cell BK5.out 3).trans rfl
                  have hcz5_4 : World.cell? wr ⟨w1.heap.size, 4, none⟩ = some (.int .i64 0) := (blk_cell BK5.out 4).trans rfl
                  have hcz5_5 : World.cell? wr ⟨w1.heap.size, 5, none⟩ = some (.int .i64 0) := (blk_cell BK5.out 5).trans rfl
                  have hfz5_0 := blk_frozen BK5.out 0
                  have hfz5_1 := blk_frozen BK5.out 1
                  have hfz5_2 := blk_frozen BK5.out 2
                  have hfz5_3 := blk_frozen BK5.out 3
                  have hfz5_4 := blk_frozen BK5.out 4
                  have hfz5_5 := blk_frozen BK5.out 5
                  have hcz6_0 : wr.cell? ⟨w1.heap.size + 1, 0, none⟩ = some (.int .i64 (ns.getD 0 0)) := ns_cell BK6.out HN.out 0 (by omega)
                  have hcz6_1 : wr.cell? ⟨w1.heap.size + 1, 1, none⟩ = some (.int .i64 (ns.getD 1 0)) := ns_cell BK6.out HN.out 1 (by omega)
                  have hcz6_2 : wr.cell? ⟨w1.heap.size + 1, 2, none⟩ = some (.int .i64 (ns.getD 2 0)) := ns_cell BK6.out HN.out 2 (by omega)
                  have hcz6_3 : wr.cell? ⟨w1.heap.size + 1, 3, none⟩ = some (.int .i64 (ns.getD 3 0)) := ns_cell BK6.out HN.out 3 (by omega)
                  have hcz6_4 : wr.cell? ⟨w1.heap.size + 1, 4, none⟩ = some (.int .i64 (ns.getD 4 0)) := ns_cell BK6.out HN.out 4 (by omega)
                  have hcz6_5 : wr.cell? ⟨w1.heap.size + 1, 5, none⟩ = some (.int .i64 (ns.getD 5 0)) := ns_cell BK6.out HN.out 5 (by omega)
                  have hczr_0 : World.cell? wr ⟨w.heap.size, 0, none⟩ = some (.int .i64 0) := (blk_cell BKR.out 0).trans rfl
                  have hczr_1 : World.cell? wr ⟨w.heap.size, 1, none⟩ = some (.int .i64 0) := (blk_cell BKR.out 1).trans rfl
                  have hczr_2 : World.cell? wr ⟨w.heap.size, 2, none⟩ = some (.int .i64 0) := (blk_cell BKR.out 2).trans rfl
                  have hczr_3 : World.cell? wr ⟨w.heap.size, 3, none⟩ = some (.int .i64 0) := (blk_cell BKR.out 3).trans rfl
                  have hczr_4 : World.cell? wr ⟨w.heap.size, 4, none⟩ = some (.int .i64 0) := (blk_cell BKR.out 4).trans rfl
                  have hczr_5 : World.cell? wr ⟨w.heap.size, 5, none⟩ = some (.int .i64 0) := (blk_cell BKR.out 5).trans rfl
                  have hfzr_0 := blk_frozen BKR.out 0
                  have hfzr_1 := blk_frozen BKR.out 1
                  have hfzr_2 := blk_frozen BKR.out 2
                  have hfzr_3 := blk_frozen BKR.out 3
                  have hfzr_4 := blk_frozen BKR.out 4
                  have hfzr_5 := blk_frozen BKR.out 5
                  go_wp2
                  refine bodyPost_ret (results_ct rfl _ _ w.heap.size 39 #[.int .i64 (ns.getD 0 0), .int .i64 3, .int .i64 (ns.getD 2 0), .int .i64 (ns.getD 3 0), .int .i64 (ns.getD 4 0), .int .i64 (ns.getD 5 0)] (0, 0) _ rfl (settle6 (HB5 HBW.out HB.out.size) (Nat.le_refl _) (BK5f BKR.out hnA) (.int .i64 (ns.getD 0 0)) (.int .i64 3) (.int .i64 (ns.getD 2 0)) (.int .i64 (ns.getD 3 0)) (.int .i64 (ns.getD 4 0)) (.int .i64 (ns.getD 5 0))).1.1 Tryd.underlying39 rfl (by kernel_rfl)) rfl ?_
                  exact ⟨rfl, (settle6 (HB5 HBW.out HB.out.size) (Nat.le_refl _) (BK5f BKR.out hnA) (.int .i64 (ns.getD 0 0)) (.int .i64 3) (.int .i64 (ns.getD 2 0)) (.int .i64 (ns.getD 3 0)) (.int .i64 (ns.getD 4 0)) (.int .i64 (ns.getD 5 0))).1.2⟩
          · rw [if_neg c9] at H
            have c9b0 : ((ws.length : Int) == 6) = false := beq_eq_false_iff_ne.mpr c9
            have c9b1 : ((ws.length : Int) != 6) = true := bne_iff_ne.mpr c9
            clear c9
            simp only [Option.some.injEq, Prod.mk.injEq] at H
            obtain ⟨rfl, rfl, rfl, rfl, rfl, rfl, rfl⟩ := H
            go_enter Tryd.func55, Tryd.ntmps55
            go_wp2_with fail
            refine (insolvencyref25_words.calls k a0 ws _ A2.out).mono ?_
            rintro e w1 ⟨v1, rfl, hR, hb⟩
            obtain ⟨A, c, hv, hc, hC⟩ := Kd.R_reads hR
            subst hv
            have HC := Aside0.mk hC
            have HB := Aside0.mk (below_step (below_alloc (Below.refl w.heap.size w) _) hb)
            have BK := Aside0.mk ((hb.block w.heap.size (by simp)).trans (heap_alloc_new w _))
            clear hR hb hC hc
            obtain ⟨ad, e, hx⟩ := Kd.at_string HC.out 1 (by omega) c8.out
            cases e
            have hbl : ad.block < w1.heap.size := by have := World.block_lt_of_cell? w1 _ hx; rwa [add_block] at this
            have HBA := Aside0.mk (below_alloc (Below.refl w1.heap.size w1) (.cells #[.int .i64 0, .int .i64 0, .int .i64 0, .int .i64 0, .int .i64 0, .int .i64 0] 39))
            have hx1 : (w1.alloc (.cells #[.int .i64 0, .int .i64 0, .int .i64 0, .int .i64 0, .int .i64 0, .int .i64 0] 39)).cell? ⟨ad.block, ad.off + 1, none⟩ = some (.string (rdOf ByteArray.empty ws 1)) := (HBA.out.cell (p := ⟨ad.block, ad.off + 1, none⟩) hbl).trans (by simpa [Addr.add] using hx)
            clear hx
            have HB2 := Aside0.mk (below_alloc HB.out (.cells #[.int .i64 0, .int .i64 3, .int .i64 0, .int .i64 0, .int .i64 0, .int .i64 0] 39))
            have BK2 := Aside0.mk (((below_alloc (Below.refl w1.heap.size w1) (.cells #[.int .i64 0, .int .i64 3, .int .i64 0, .int .i64 0, .int .i64 0, .int .i64 0] 39)).block w.heap.size (blk_lt BK.out)).trans BK.out)
            have hcz_0 : World.cell? (w1.alloc (.cells #[.int .i64 0, .int .i64 3, .int .i64 0, .int .i64 0, .int .i64 0, .int .i64 0] 39)) ⟨w.heap.size, 0, none⟩ = some (.int .i64 0) := (blk_cell BK2.out 0).trans rfl
            have hcz_1 : World.cell? (w1.alloc (.cells #[.int .i64 0, .int .i64 3, .int .i64 0, .int .i64 0, .int .i64 0, .int .i64 0] 39)) ⟨w.heap.size, 1, none⟩ = some (.int .i64 0) := (blk_cell BK2.out 1).trans rfl
            have hcz_2 : World.cell? (w1.alloc (.cells #[.int .i64 0, .int .i64 3, .int .i64 0, .int .i64 0, .int .i64 0, .int .i64 0] 39)) ⟨w.heap.size, 2, none⟩ = some (.int .i64 0) := (blk_cell BK2.out 2).trans rfl
            have hcz_3 : World.cell? (w1.alloc (.cells #[.int .i64 0, .int .i64 3, .int .i64 0, .int .i64 0, .int .i64 0, .int .i64 0] 39)) ⟨w.heap.size, 3, none⟩ = some (.int .i64 0) := (blk_cell BK2.out 3).trans rfl
            have hcz_4 : World.cell? (w1.alloc (.cells #[.int .i64 0, .int .i64 3, .int .i64 0, .int .i64 0, .int .i64 0, .int .i64 0] 39)) ⟨w.heap.size, 4, none⟩ = some (.int .i64 0) := (blk_cell BK2.out 4).trans rfl
            have hcz_5 : World.cell? (w1.alloc (.cells #[.int .i64 0, .int .i64 3, .int .i64 0, .int .i64 0, .int .i64 0, .int .i64 0] 39)) ⟨w.heap.size, 5, none⟩ = some (.int .i64 0) := (blk_cell BK2.out 5).trans rfl
            have hfz_0 := blk_frozen BK2.out 0
            have hfz_1 := blk_frozen BK2.out 1
            have hfz_2 := blk_frozen BK2.out 2
            have hfz_3 := blk_frozen BK2.out 3
            have hfz_4 := blk_frozen BK2.out 4
            have hfz_5 := blk_frozen BK2.out 5
            go_wp2
            refine bodyPost_ret (results_ct rfl _ _ w.heap.size 39 #[.int .i64 0, .int .i64 0, .int .i64 0, .int .i64 0, .int .i64 0, .int .i64 0] (0, 0) _ rfl (settle6 HB2.out (Nat.le_refl _) BK2.out (.int .i64 0) (.int .i64 0) (.int .i64 0) (.int .i64 0) (.int .i64 0) (.int .i64 0)).1.1 Tryd.underlying39 rfl (by kernel_rfl)) rfl ?_
            exact ⟨rfl, (settle6 HB2.out (Nat.le_refl _) BK2.out (.int .i64 0) (.int .i64 0) (.int .i64 0) (.int .i64 0) (.int .i64 0) (.int .i64 0)).1.2⟩
        · rw [if_neg d1, if_neg d2, if_neg d3] at H
          simp only [Option.some.injEq, Prod.mk.injEq] at H
          obtain ⟨rfl, rfl, rfl, rfl, rfl, rfl, rfl⟩ := H
          have d1b : ((rdOf ByteArray.empty ws 1).toList == ([112, 97, 121, 109, 101, 110, 116] : List UInt8)) = false := beq_eq_false_iff_ne.mpr d1
          have d2b : ((rdOf ByteArray.empty ws 1).toList == ([115, 117, 112, 112, 108, 121] : List UInt8)) = false := beq_eq_false_iff_ne.mpr d2
          have d3b : ((rdOf ByteArray.empty ws 1).toList == ([116, 114, 97, 110, 115, 102, 101, 114] : List UInt8)) = false := beq_eq_false_iff_ne.mpr d3
          clear d1 d2 d3
          go_enter Tryd.func55, Tryd.ntmps55
          go_wp2_with fail
          refine (insolvencyref25_words.calls k a0 ws _ A2.out).mono ?_
          rintro e w1 ⟨v1, rfl, hR, hb⟩
          obtain ⟨A, c, hv, hc, hC⟩ := Kd.R_reads hR
          subst hv
          have HC := Aside0.mk hC
          have HB := Aside0.mk (below_step (below_alloc (Below.refl w.heap.size w) _) hb)
          have BK := Aside0.mk ((hb.block w.heap.size (by simp)).trans (heap_alloc_new w _))
          clear hR hb hC hc
          obtain ⟨ad, e, hx⟩ := Kd.at_string HC.out 1 (by omega) c8.out
          cases e
          have hbl : ad.block < w1.heap.size := by have := World.block_lt_of_cell? w1 _ hx; rwa [add_block] at this
          have HBA := Aside0.mk (below_alloc (Below.refl w1.heap.size w1) (.cells #[.int .i64 0, .int .i64 0, .int .i64 0, .int .i64 0, .int .i64 0, .int .i64 0] 39))
          have hx1 : (w1.alloc (.cells #[.int .i64 0, .int .i64 0, .int .i64 0, .int .i64 0, .int .i64 0, .int .i64 0] 39)).cell? ⟨ad.block, ad.off + 1, none⟩ = some (.string (rdOf ByteArray.empty ws 1)) := (HBA.out.cell (p := ⟨ad.block, ad.off + 1, none⟩) hbl).trans (by simpa [Addr.add] using hx)
          clear hx
          have HB2 := Aside0.mk (below_alloc HB.out (.cells #[.int .i64 0, .int .i64 0, .int .i64 0, .int .i64 0, .int .i64 0, .int .i64 0] 39))
          have BK2 := Aside0.mk ((HBA.out.block w.heap.size (blk_lt BK.out)).trans BK.out)
          clear HBA
          have hcz_0 : World.cell? (w1.alloc (.cells #[.int .i64 0, .int .i64 0, .int .i64 0, .int .i64 0, .int .i64 0, .int .i64 0] 39)) ⟨w.heap.size, 0, none⟩ = some (.int .i64 0) := (blk_cell BK2.out 0).trans rfl
          have hcz_1 : World.cell? (w1.alloc (.cells #[.int .i64 0, .int .i64 0, .int .i64 0, .int .i64 0, .int .i64 0, .int .i64 0] 39)) ⟨w.heap.size, 1, none⟩ = some (.int .i64 0) := (blk_cell BK2.out 1).trans rfl
          have hcz_2 : World.cell? (w1.alloc (.cells #[.int .i64 0, .int .i64 0, .int .i64 0, .int .i64 0, .int .i64 0, .int .i64 0] 39)) ⟨w.heap.size, 2, none⟩ = some (.int .i64 0) := (blk_cell BK2.out 2).trans rfl
          have hcz_3 : World.cell? (w1.alloc (.cells #[.int .i64 0, .int .i64 0, .int .i64 0, .int .i64 0, .int .i64 0, .int .i64 0] 39)) ⟨w.heap.size, 3, none⟩ = some (.int .i64 0) := (blk_cell BK2.out 3).trans rfl
          have hcz_4 : World.cell? (w1.alloc (.cells #[.int .i64 0, .int .i64 0, .int .i64 0, .int .i64 0, .int .i64 0, .int .i64 0] 39)) ⟨w.heap.size, 4, none⟩ = some (.int .i64 0) := (blk_cell BK2.out 4).trans rfl
          have hcz_5 : World.cell? (w1.alloc (.cells #[.int .i64 0, .int .i64 0, .int .i64 0, .int .i64 0, .int .i64 0, .int .i64 0] 39)) ⟨w.heap.size, 5, none⟩ = some (.int .i64 0) := (blk_cell BK2.out 5).trans rfl
          have hfz_0 := blk_frozen BK2.out 0
          have hfz_1 := blk_frozen BK2.out 1
          have hfz_2 := blk_frozen BK2.out 2
          have hfz_3 := blk_frozen BK2.out 3
          have hfz_4 := blk_frozen BK2.out 4
          have hfz_5 := blk_frozen BK2.out 5
          go_wp2
          refine bodyPost_ret (results_ct rfl _ _ w.heap.size 39 #[.int .i64 0, .int .i64 0, .int .i64 0, .int .i64 0, .int .i64 0, .int .i64 0] (0, 0) _ rfl (settle6 HB2.out (Nat.le_refl _) BK2.out (.int .i64 0) (.int .i64 0) (.int .i64 0) (.int .i64 0) (.int .i64 0) (.int .i64 0)).1.1 Tryd.underlying39 rfl (by kernel_rfl)) rfl ?_
          exact ⟨rfl, (settle6 HB2.out (Nat.le_refl _) BK2.out (.int .i64 0) (.int .i64 0) (.int .i64 0) (.int .i64 0) (.int .i64 0) (.int .i64 0)).1.2⟩

end Go.Proofs.YtcehmgmhlmbhnaaDoor.Pr
