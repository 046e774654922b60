-- Written by a program of this session (wip/tools/drive.py over the kit's print.py) out of the translation.
import Derived.Test.YtcehmgmhlmbhnaaDoorBz
import Derived.Test.YtcehmgmhlmbhnaaDoorConvB
import Derived.Test.YtcehmgmhlmbhnaaDoorK2
import Derived.Test.YtcehmgmhlmbhnaaDoorPr0
import Derived.Test.YtcehmgmhlmbhnaaDoorPr11
import Derived.Test.YtcehmgmhlmbhnaaDoorPr12
import Derived.Test.YtcehmgmhlmbhnaaDoorPr15
import Derived.Test.YtcehmgmhlmbhnaaDoorPr20
namespace Go.Proofs.YtcehmgmhlmbhnaaDoor.Pr
open Go.RowKit Go.Proofs.YtcehmgmhlmbhnaaDoorW.PrintWords Go.Proofs.YtcehmgmhlmbhnaaDoorW.PrintLast Go.Proofs.YtcehmgmhlmbhnaaDoorW.PrintMore
attribute [local go_sem] max2_int min2_int max_two min_two max_three min_three max_four min_four   -- for this text's walks alone
set_option linter.unusedVariables false
set_option linter.unusedSimpArgs false

theorem take_len_ {α : Type} (l : List α) (n : Nat) : l.take (l.take n).length = l.take n := by
 rw [List.length_take]
 rcases Nat.le_total n l.length with h | h
 ·rw [Nat.min_eq_left h]
 ·rw [Nat.min_eq_right h, List.take_of_length_le h, List.take_length]
/-! ### insolvencylaw25_HistoryParse: function 4 -/
def insolvencylaw25_HistoryParse.f (k : Nat) (a0 : ByteArray) (l1 : List (S67)) (a2 : Int) (a3 : Int) (a4 : Int) : Option (Bool) := if (a0.size : Int) > 300 then ((insolvencylaw25_awake.f k).bind fun t212 => (some t212)) else (if (l1.length : Int) > 24 then ((insolvencylaw25_awake.f k).bind fun t213 => (some t213)) else ((insolvencylaw0_Rows.f l1 4 20).bind fun t214 => ((insolvencyref25_Format.f k t214).bind fun t217 => (if t217.size ≤ 1000000 then (if ((strNums t217).length : Int) > 0 then (if ((strNums t217).length : Int) = 0 then (none) else (if (Int.tmod a4 4) = 0 then (if 0 ≤ (Int.tmod (wrap64 (a2)) ((strNums t217).length : Int)) then (if (Int.tmod (wrap64 (a2)) ((strNums t217).length : Int)) < ((strNums t217).length : Int) then ((insolvencylaw25_awake.f k).bind fun t260 => (if t260 = true then ((insolvencylaw25_same.f k a0).bind fun t261 => (if t261 = true then ((insolvencylaw25_same.f k (strOfNums ((strNums t217).set ((Int.tmod (wrap64 (a2)) ((strNums t217).length : Int)) : Int).toNat a3))).bind fun t262 => (some t262)) else (some false))) else (some false))) else (none)) else (none)) else (if (Int.tmod a4 4) = 1 then ((some (([] : List Int) : List Int)).bind fun y218 => (if 0 ≤ (Int.tmod (wrap64 (a2)) ((strNums t217).length : Int)) then (if (Int.tmod (wrap64 (a2)) ((strNums t217).length : Int)) ≤ ((strNums t217).length : Int) then (if y218.length + ((strNums t217).take ((Int.tmod (wrap64 (a2)) ((strNums t217).length : Int)) : Int).toNat).length < 140737488355328 then ((some (y218 ++ ((strNums t217).take ((Int.tmod (wrap64 (a2)) ((strNums t217).length : Int)) : Int).toNat) : List Int)).bind fun y222 => ((some (([a3] : List Int) : List Int)).bind fun y225 => (if y222.length + y225.length < 140737488355328 then ((some (y222 ++ y225 : List Int)).bind fun y228 => (if y228.length + ((strNums t217).drop ((Int.tmod (wrap64 (a2)) ((strNums t217).length : Int)) : Int).toNat).length < 140737488355328 then ((insolvencylaw25_awake.f k).bind fun t235 => (if t235 = true then ((insolvencylaw25_same.f k a0).bind fun t236 => (if t236 = true then ((insolvencylaw25_same.f k (strOfNums (y228 ++ ((strNums t217).drop ((Int.tmod (wrap64 (a2)) ((strNums t217).length : Int)) : Int).toNat)))).bind fun t237 => (some t237)) else (some false))) else (some false))) else (none))) else (none)))) else (none)) else (none)) else (none))) else (if (Int.tmod a4 4) = 2 then ((some (([] : List Int) : List Int)).bind fun y238 => (if 0 ≤ (Int.tmod (wrap64 (a2)) ((strNums t217).length : Int)) then (if (Int.tmod (wrap64 (a2)) ((strNums t217).length : Int)) ≤ ((strNums t217).length : Int) then (if y238.length + ((strNums t217).take ((Int.tmod (wrap64 (a2)) ((strNums t217).length : Int)) : Int).toNat).length < 140737488355328 then ((some (y238 ++ ((strNums t217).take ((Int.tmod (wrap64 (a2)) ((strNums t217).length : Int)) : Int).toNat) : List Int)).bind fun y242 => (if 0 ≤ (wrap64 ((Int.tmod (wrap64 (a2)) ((strNums t217).length : Int)) + 1)) then (if (wrap64 ((Int.tmod (wrap64 (a2)) ((strNums t217).length : Int)) + 1)) ≤ ((strNums t217).length : Int) then (if y242.length + ((strNums t217).drop ((wrap64 ((Int.tmod (wrap64 (a2)) ((strNums t217).length : Int)) + 1)) : Int).toNat).length < 140737488355328 then ((insolvencylaw25_awake.f k).bind fun t249 => (if t249 = true then ((insolvencylaw25_same.f k a0).bind fun t250 => (if t250 = true then ((insolvencylaw25_same.f k (strOfNums (y242 ++ ((strNums t217).drop ((wrap64 ((Int.tmod (wrap64 (a2)) ((strNums t217).length : Int)) + 1)) : Int).toNat)))).bind fun t251 => (some t251)) else (some false))) else (some false))) else (none)) else (none)) else (none))) else (none)) else (none)) else (none))) else ((insolvencylaw25_awake.f k).bind fun t252 => (if t252 = true then ((insolvencylaw25_same.f k a0).bind fun t253 => (if t253 = true then ((insolvencylaw25_same.f k (strOfNums (strNums t217))).bind fun t254 => (some t254)) else (some false))) else (some false))))))) else ((insolvencylaw25_awake.f k).bind fun t255 => (if t255 = true then ((insolvencylaw25_same.f k a0).bind fun t256 => (if t256 = true then ((insolvencylaw25_same.f k (strOfNums (strNums t217))).bind fun t257 => (some t257)) else (some false))) else (some false)))) else (none)))))
theorem insolvencylaw25_HistoryParse.mono : ∀ a0 a1 a2 a3 a4 k, LeO (insolvencylaw25_HistoryParse.f k a0 a1 a2 a3 a4) (insolvencylaw25_HistoryParse.f (k + 1) a0 a1 a2 a3 a4) := by
 intro a0 a1 a2 a3 a4 k
 unfold insolvencylaw25_HistoryParse.f
 repeat' first
   | (with_reducible exact insolvencylaw25_awake.mono _)
   | (with_reducible exact insolvencylaw25_same.mono _ _)
   | (with_reducible exact insolvencyref25_Format.mono _ _)
   | (with_reducible exact LeO.refl _)
   | (with_reducible exact LeO.none _)
   | (with_reducible refine LeO.ite ?_ ?_)
   | (with_reducible refine LeO.bind ?_ (fun _ => ?_))
   | exact insolvencylaw25_awake.mono _
   | exact insolvencylaw25_same.mono _ _
   | exact insolvencyref25_Format.mono _ _
   | exact LeO.none _
   | refine LeO.ite ?_ ?_
   | refine LeO.bind ?_ (fun _ => ?_)
def insolvencylaw25_HistoryParse.T10 : Bool × List (List Nat × List Nat) := (true, [([], []), ([], []), ([], []), ([1, 2], [1, 2]), ([0, 3], [0, 3]), ([], []), ([5], [5]), ([4, 6, 4], [4, 6]), ([], []), ([], []), ([8, 9], [8, 9]), ([7, 10, 7], [7, 10]), ([11, 11, 0, 1, 2, 3, 4, 5, 6, 7, 8, 9, 10, 11], [1, 8, 11])])
def insolvencylaw25_HistoryParse.B10 : List Nat := [0, 0, 0, 6, 15, 0, 32, 127, 0, 0, 768, 2047, 4095]
theorem insolvencylaw25_HistoryParse.tab10 : rtab .any (opsOf Tryd.f4 10) = insolvencylaw25_HistoryParse.T10 := by kernel_rfl
theorem insolvencylaw25_HistoryParse.bits10 : waitsOk insolvencylaw25_HistoryParse.T10.2 insolvencylaw25_HistoryParse.B10 = true := by kernel_rfl
def insolvencylaw25_HistoryParse.T12 : Bool × List (List Nat × List Nat) := (true, [([], []), ([], []), ([], []), ([1, 2], [1, 2]), ([0, 3], [0, 3]), ([], []), ([], []), ([6], [6]), ([5, 7], [5, 7]), ([4, 8, 4], [4, 8]), ([9, 9, 0, 1, 2, 3, 4, 5, 6, 7, 8, 9], [1, 5, 9])])
def insolvencylaw25_HistoryParse.B12 : List Nat := [0, 0, 0, 6, 15, 0, 0, 64, 224, 511, 1023]
theorem insolvencylaw25_HistoryParse.tab12 : rtab .any (opsOf Tryd.f4 12) = insolvencylaw25_HistoryParse.T12 := by kernel_rfl
theorem insolvencylaw25_HistoryParse.bits12 : waitsOk insolvencylaw25_HistoryParse.T12.2 insolvencylaw25_HistoryParse.B12 = true := by kernel_rfl
set_option maxHeartbeats 8000000 in
set_option maxRecDepth 100000 in
theorem insolvencylaw25_HistoryParse.calls (k : Nat) (a0 : ByteArray) (A1 : Option Addr) (c1 : Nat) (l1 : List (S67)) (a2 : Int) (a3 : Int) (a4 : Int) (r : Bool) (w : World) (hLd : LaidW w) (hr1 : Kd.C k67 w A1 l1.length l1) (hc1 : l1.length ≤ c1) (h : insolvencylaw25_HistoryParse.f k a0 l1 a2 a3 a4 = some r) :
  Calls Tryd.prog 4 #[.string a0, .slice A1 l1.length c1, .int .u16 a2, .int .u8 a3, .int .u8 a4] w fun e w' => e = .returned (.bool r) ∧ Below w.heap.size w w' := by
 obtain ⟨bo, hbo⟩ : ∃ b_ : Nat, b_ = w.heap.size := ⟨_, rfl⟩
 have HR1 := Aside0.mk hr1
 have HC1 := Aside0.mk hc1
 clear hr1 hc1
 have HB := Aside0.mk (Below.refl w.heap.size w)
 have HLd := Aside0.mk hLd
 clear hLd
 have H : (if (a0.size : Int) > 300 then ((insolvencylaw25_awake.f k).bind fun t212 => (some t212)) else (if (l1.length : Int) > 24 then ((insolvencylaw25_awake.f k).bind fun t213 => (some t213)) else ((insolvencylaw0_Rows.f l1 4 20).bind fun t214 => ((insolvencyref25_Format.f k t214).bind fun t217 => (if t217.size ≤ 1000000 then (if ((strNums t217).length : Int) > 0 then (if ((strNums t217).length : Int) = 0 then (none) else (if (Int.tmod a4 4) = 0 then (if 0 ≤ (Int.tmod (wrap64 (a2)) ((strNums t217).length : Int)) then (if (Int.tmod (wrap64 (a2)) ((strNums t217).length : Int)) < ((strNums t217).length : Int) then ((insolvencylaw25_awake.f k).bind fun t260 => (if t260 = true then ((insolvencylaw25_same.f k a0).bind fun t261 => (if t261 = true then ((insolvencylaw25_same.f k (strOfNums ((strNums t217).set ((Int.tmod (wrap64 (a2)) ((strNums t217).length : Int)) : Int).toNat a3))).bind fun t262 => (some t262)) else (some false))) else (some false))) else (none)) else (none)) else (if (Int.tmod a4 4) = 1 then ((some (([] : List Int) : List Int)).bind fun y218 => (if 0 ≤ (Int.tmod (wrap64 (a2)) ((strNums t217).length : Int)) then (if (Int.tmod (wrap64 (a2)) ((strNums t217).length : Int)) ≤ ((strNums t217).length : Int) then (if y218.length + ((strNums t217).take ((Int.tmod (wrap64 (a2)) ((strNums t217).length : Int)) : Int).toNat).length < 140737488355328 then ((some (y218 ++ ((strNums t217).take ((Int.tmod (wrap64 (a2)) ((strNums t217).length : Int)) : Int).toNat) : List Int)).bind fun y222 => ((some (([a3] : List Int) : List Int)).bind fun y225 => (if y222.length + y225.length < 140737488355328 then ((some (y222 ++ y225 : List Int)).bind fun y228 => (if y228.length + ((strNums t217).drop ((Int.tmod (wrap64 (a2)) ((strNums t217).length : Int)) : Int).toNat).length < 140737488355328 then ((insolvencylaw25_awake.f k).bind fun t235 => (if t235 = true then ((insolvencylaw25_same.f k a0).bind fun t236 => (if t236 = true then ((insolvencylaw25_same.f k (strOfNums (y228 ++ ((strNums t217).drop ((Int.tmod (wrap64 (a2)) ((strNums t217).length : Int)) : Int).toNat)))).bind fun t237 => (some t237)) else (some false))) else (some false))) else (none))) else (none)))) else (none)) else (none)) else (none))) else (if (Int.tmod a4 4) = 2 then ((some (([] : List Int) : List Int)).bind fun y238 => (if 0 ≤ (Int.tmod (wrap64 (a2)) ((strNums t217).length : Int)) then (if (Int.tmod (wrap64 (a2)) ((strNums t217).length : Int)) ≤ ((strNums t217).length : Int) then (if y238.length + ((strNums t217).take ((Int.tmod (wrap64 (a2)) ((strNums t217).length : Int)) : Int).toNat).length < 140737488355328 then ((some (y238 ++ ((strNums t217).take ((Int.tmod (wrap64 (a2)) ((strNums t217).length : Int)) : Int).toNat) : List Int)).bind fun y242 => (if 0 ≤ (wrap64 ((Int.tmod (wrap64 (a2)) ((strNums t217).length : Int)) + 1)) then (if (wrap64 ((Int.tmod (wrap64 (a2)) ((strNums t217).length : Int)) + 1)) ≤ ((strNums t217).length : Int) then (if y242.length + ((strNums t217).drop ((wrap64 ((Int.tmod (wrap64 (a2)) ((strNums t217).length : Int)) + 1)) : Int).toNat).length < 140737488355328 then ((insolvencylaw25_awake.f k).bind fun t249 => (if t249 = true then ((insolvencylaw25_same.f k a0).bind fun t250 => (if t250 = true then ((insolvencylaw25_same.f k (strOfNums (y242 ++ ((strNums t217).drop ((wrap64 ((Int.tmod (wrap64 (a2)) ((strNums t217).length : Int)) + 1)) : Int).toNat)))).bind fun t251 => (some t251)) else (some false))) else (some false))) else (none)) else (none)) else (none))) else (none)) else (none)) else (none))) else ((insolvencylaw25_awake.f k).bind fun t252 => (if t252 = true then ((insolvencylaw25_same.f k a0).bind fun t253 => (if t253 = true then ((insolvencylaw25_same.f k (strOfNums (strNums t217))).bind fun t254 => (some t254)) else (some false))) else (some false))))))) else ((insolvencylaw25_awake.f k).bind fun t255 => (if t255 = true then ((insolvencylaw25_same.f k a0).bind fun t256 => (if t256 = true then ((insolvencylaw25_same.f k (strOfNums (strNums t217))).bind fun t257 => (some t257)) else (some false))) else (some false)))) else (none)))))) = some r := h
 clear h
 by_cases c6 : (a0.size : Int) > 300
 ·rw [if_pos c6] at H
  have c6b0 : decide (300 < (a0.size : Int)) = true := decide_eq_true c6
  have c6b1 : decide (300 < a0.size) = true := decide_eq_true (by omega)
  clear c6
  replace H := Option.bind_eq_some_iff.mp H
  obtain ⟨t212, A70, H⟩ := H
  replace H : (some t212) = some r := H
  have A7 := Aside0.mk A70
  clear A70
  obtain rfl := Option.some.inj H
  go_enter Tryd.func4, Tryd.ntmps4
  go_wp2_with (first | ((with_reducible refine gate_callee (f := 13) rfl ?_); refine goesL_ (some 21) rfl rfl Tryd.func13 (by kernel_rfl) rfl #[] rfl (by (try simp only [List.map_toArray, List.map_cons, List.map_nil]); first | done | rfl | (simp only [List.length_drop, List.length_take]; rfl)) ?_; (with_reducible refine (insolvencylaw25_awake.calls k  t212 _ ?side1 A7.out).mono ?_); (case side1 => exact LaidW.below HLd.out (by repeat (first | (with_reducible first | exact HB.out | apply below_alloc | apply pw_below_drewN | apply below_drew1) | exact HB.out))); rintro e w8 ⟨rfl, hb⟩; refine ⟨_, rfl, ?_⟩; have n0_ := Aside0.mk (below_step (by repeat (first | (with_reducible first | exact HB.out | apply below_alloc | apply pw_below_drewN | apply below_drew1) | exact HB.out)) hb); clear HB; have HB := n0_; clear n0_; (try clear hb); (try clear hb2); (try clear hk); (try clear hi)))
  go_ret
  exact ⟨by first | rfl | (simp [errW_none, errW_some] <;> rfl) | (simp [*, errW_none, errW_some] <;> rfl), by repeat (first | (with_reducible first | exact HB.out | apply below_alloc | apply pw_below_drewN | apply below_drew1) | exact HB.out)⟩
 ·rw [if_neg c6] at H
  have c6b0 : decide (300 < (a0.size : Int)) = false := decide_eq_false c6
  have c6b1 : decide (300 < a0.size) = false := decide_eq_false (by omega)
  clear c6
  by_cases c9 : (l1.length : Int) > 24
  ·rw [if_pos c9] at H
   have c9b0 : decide (24 < (l1.length : Int)) = true := decide_eq_true c9
   have c9b1 : decide (24 < l1.length) = true := decide_eq_true (by omega)
   clear c9
   replace H := Option.bind_eq_some_iff.mp H
   obtain ⟨t213, A100, H⟩ := H
   replace H : (some t213) = some r := H
   have A10 := Aside0.mk A100
   clear A100
   obtain rfl := Option.some.inj H
   go_enter Tryd.func4, Tryd.ntmps4
   go_wp2_with (first | ((with_reducible refine gate_callee (f := 13) rfl ?_); refine goesL_ (some 21) rfl rfl Tryd.func13 (by kernel_rfl) rfl #[] rfl (by (try simp only [List.map_toArray, List.map_cons, List.map_nil]); first | done | rfl | (simp only [List.length_drop, List.length_take]; rfl)) ?_; (with_reducible refine (insolvencylaw25_awake.calls k  t213 _ ?side1 A10.out).mono ?_); (case side1 => exact LaidW.below HLd.out (by repeat (first | (with_reducible first | exact HB.out | apply below_alloc | apply pw_below_drewN | apply below_drew1) | exact HB.out))); rintro e w11 ⟨rfl, hb⟩; refine ⟨_, rfl, ?_⟩; have n0_ := Aside0.mk (below_step (by repeat (first | (with_reducible first | exact HB.out | apply below_alloc | apply pw_below_drewN | apply below_drew1) | exact HB.out)) hb); clear HB; have HB := n0_; clear n0_; (try clear hb); (try clear hb2); (try clear hk); (try clear hi)))
   go_ret
   exact ⟨by first | rfl | (simp [errW_none, errW_some] <;> rfl) | (simp [*, errW_none, errW_some] <;> rfl), by repeat (first | (with_reducible first | exact HB.out | apply below_alloc | apply pw_below_drewN | apply below_drew1) | exact HB.out)⟩
  ·rw [if_neg c9] at H
   have c9b0 : decide (24 < (l1.length : Int)) = false := decide_eq_false c9
   have c9b1 : decide (24 < l1.length) = false := decide_eq_false (by omega)
   clear c9
   replace H := Option.bind_eq_some_iff.mp H
   obtain ⟨t214, A120, H⟩ := H
   replace H : ((insolvencyref25_Format.f k t214).bind fun t217 => (if t217.size ≤ 1000000 then (if ((strNums t217).length : Int) > 0 then (if ((strNums t217).length : Int) = 0 then (none) else (if (Int.tmod a4 4) = 0 then (if 0 ≤ (Int.tmod (wrap64 (a2)) ((strNums t217).length : Int)) then (if (Int.tmod (wrap64 (a2)) ((strNums t217).length : Int)) < ((strNums t217).length : Int) then ((insolvencylaw25_awake.f k).bind fun t260 => (if t260 = true then ((insolvencylaw25_same.f k a0).bind fun t261 => (if t261 = true then ((insolvencylaw25_same.f k (strOfNums ((strNums t217).set ((Int.tmod (wrap64 (a2)) ((strNums t217).length : Int)) : Int).toNat a3))).bind fun t262 => (some t262)) else (some false))) else (some false))) else (none)) else (none)) else (if (Int.tmod a4 4) = 1 then ((some (([] : List Int) : List Int)).bind fun y218 => (if 0 ≤ (Int.tmod (wrap64 (a2)) ((strNums t217).length : Int)) then (if (Int.tmod (wrap64 (a2)) ((strNums t217).length : Int)) ≤ ((strNums t217).length : Int) then (if y218.length + ((strNums t217).take ((Int.tmod (wrap64 (a2)) ((strNums t217).length : Int)) : Int).toNat).length < 140737488355328 then ((some (y218 ++ ((strNums t217).take ((Int.tmod (wrap64 (a2)) ((strNums t217).length : Int)) : Int).toNat) : List Int)).bind fun y222 => ((some (([a3] : List Int) : List Int)).bind fun y225 => (if y222.length + y225.length < 140737488355328 then ((some (y222 ++ y225 : List Int)).bind fun y228 => (if y228.length + ((strNums t217).drop ((Int.tmod (wrap64 (a2)) ((strNums t217).length : Int)) : Int).toNat).length < 140737488355328 then ((insolvencylaw25_awake.f k).bind fun t235 => (if t235 = true then ((insolvencylaw25_same.f k a0).bind fun t236 => (if t236 = true then ((insolvencylaw25_same.f k (strOfNums (y228 ++ ((strNums t217).drop ((Int.tmod (wrap64 (a2)) ((strNums t217).length : Int)) : Int).toNat)))).bind fun t237 => (some t237)) else (some false))) else (some false))) else (none))) else (none)))) else (none)) else (none)) else (none))) else (if (Int.tmod a4 4) = 2 then ((some (([] : List Int) : List Int)).bind fun y238 => (if 0 ≤ (Int.tmod (wrap64 (a2)) ((strNums t217).length : Int)) then (if (Int.tmod (wrap64 (a2)) ((strNums t217).length : Int)) ≤ ((strNums t217).length : Int) then (if y238.length + ((strNums t217).take ((Int.tmod (wrap64 (a2)) ((strNums t217).length : Int)) : Int).toNat).length < 140737488355328 then ((some (y238 ++ ((strNums t217).take ((Int.tmod (wrap64 (a2)) ((strNums t217).length : Int)) : Int).toNat) : List Int)).bind fun y242 => (if 0 ≤ (wrap64 ((Int.tmod (wrap64 (a2)) ((strNums t217).length : Int)) + 1)) then (if (wrap64 ((Int.tmod (wrap64 (a2)) ((strNums t217).length : Int)) + 1)) ≤ ((strNums t217).length : Int) then (if y242.length + ((strNums t217).drop ((wrap64 ((Int.tmod (wrap64 (a2)) ((strNums t217).length : Int)) + 1)) : Int).toNat).length < 140737488355328 then ((insolvencylaw25_awake.f k).bind fun t249 => (if t249 = true then ((insolvencylaw25_same.f k a0).bind fun t250 => (if t250 = true then ((insolvencylaw25_same.f k (strOfNums (y242 ++ ((strNums t217).drop ((wrap64 ((Int.tmod (wrap64 (a2)) ((strNums t217).length : Int)) + 1)) : Int).toNat)))).bind fun t251 => (some t251)) else (some false))) else (some false))) else (none)) else (none)) else (none))) else (none)) else (none)) else (none))) else ((insolvencylaw25_awake.f k).bind fun t252 => (if t252 = true then ((insolvencylaw25_same.f k a0).bind fun t253 => (if t253 = true then ((insolvencylaw25_same.f k (strOfNums (strNums t217))).bind fun t254 => (some t254)) else (some false))) else (some false))))))) else ((insolvencylaw25_awake.f k).bind fun t255 => (if t255 = true then ((insolvencylaw25_same.f k a0).bind fun t256 => (if t256 = true then ((insolvencylaw25_same.f k (strOfNums (strNums t217))).bind fun t257 => (some t257)) else (some false))) else (some false)))) else (none))) = some r := H
   have A12 := Aside0.mk A120
   clear A120
   replace H := Option.bind_eq_some_iff.mp H
   obtain ⟨t217, A130, H⟩ := H
   replace H : (if t217.size ≤ 1000000 then (if ((strNums t217).length : Int) > 0 then (if ((strNums t217).length : Int) = 0 then (none) else (if (Int.tmod a4 4) = 0 then (if 0 ≤ (Int.tmod (wrap64 (a2)) ((strNums t217).length : Int)) then (if (Int.tmod (wrap64 (a2)) ((strNums t217).length : Int)) < ((strNums t217).length : Int) then ((insolvencylaw25_awake.f k).bind fun t260 => (if t260 = true then ((insolvencylaw25_same.f k a0).bind fun t261 => (if t261 = true then ((insolvencylaw25_same.f k (strOfNums ((strNums t217).set ((Int.tmod (wrap64 (a2)) ((strNums t217).length : Int)) : Int).toNat a3))).bind fun t262 => (some t262)) else (some false))) else (some false))) else (none)) else (none)) else (if (Int.tmod a4 4) = 1 then ((some (([] : List Int) : List Int)).bind fun y218 => (if 0 ≤ (Int.tmod (wrap64 (a2)) ((strNums t217).length : Int)) then (if (Int.tmod (wrap64 (a2)) ((strNums t217).length : Int)) ≤ ((strNums t217).length : Int) then (if y218.length + ((strNums t217).take ((Int.tmod (wrap64 (a2)) ((strNums t217).length : Int)) : Int).toNat).length < 140737488355328 then ((some (y218 ++ ((strNums t217).take ((Int.tmod (wrap64 (a2)) ((strNums t217).length : Int)) : Int).toNat) : List Int)).bind fun y222 => ((some (([a3] : List Int) : List Int)).bind fun y225 => (if y222.length + y225.length < 140737488355328 then ((some (y222 ++ y225 : List Int)).bind fun y228 => (if y228.length + ((strNums t217).drop ((Int.tmod (wrap64 (a2)) ((strNums t217).length : Int)) : Int).toNat).length < 140737488355328 then ((insolvencylaw25_awake.f k).bind fun t235 => (if t235 = true then ((insolvencylaw25_same.f k a0).bind fun t236 => (if t236 = true then ((insolvencylaw25_same.f k (strOfNums (y228 ++ ((strNums t217).drop ((Int.tmod (wrap64 (a2)) ((strNums t217).length : Int)) : Int).toNat)))).bind fun t237 => (some t237)) else (some false))) else (some false))) else (none))) else (none)))) else (none)) else (none)) else (none))) else (if (Int.tmod a4 4) = 2 then ((some (([] : List Int) : List Int)).bind fun y238 => (if 0 ≤ (Int.tmod (wrap64 (a2)) ((strNums t217).length : Int)) then (if (Int.tmod (wrap64 (a2)) ((strNums t217).length : Int)) ≤ ((strNums t217).length : Int) then (if y238.length + ((strNums t217).take ((Int.tmod (wrap64 (a2)) ((strNums t217).length : Int)) : Int).toNat).length < 140737488355328 then ((some (y238 ++ ((strNums t217).take ((Int.tmod (wrap64 (a2)) ((strNums t217).length : Int)) : Int).toNat) : List Int)).bind fun y242 => (if 0 ≤ (wrap64 ((Int.tmod (wrap64 (a2)) ((strNums t217).length : Int)) + 1)) then (if (wrap64 ((Int.tmod (wrap64 (a2)) ((strNums t217).length : Int)) + 1)) ≤ ((strNums t217).length : Int) then (if y242.length + ((strNums t217).drop ((wrap64 ((Int.tmod (wrap64 (a2)) ((strNums t217).length : Int)) + 1)) : Int).toNat).length < 140737488355328 then ((insolvencylaw25_awake.f k).bind fun t249 => (if t249 = true then ((insolvencylaw25_same.f k a0).bind fun t250 => (if t250 = true then ((insolvencylaw25_same.f k (strOfNums (y242 ++ ((strNums t217).drop ((wrap64 ((Int.tmod (wrap64 (a2)) ((strNums t217).length : Int)) + 1)) : Int).toNat)))).bind fun t251 => (some t251)) else (some false))) else (some false))) else (none)) else (none)) else (none))) else (none)) else (none)) else (none))) else ((insolvencylaw25_awake.f k).bind fun t252 => (if t252 = true then ((insolvencylaw25_same.f k a0).bind fun t253 => (if t253 = true then ((insolvencylaw25_same.f k (strOfNums (strNums t217))).bind fun t254 => (some t254)) else (some false))) else (some false))))))) else ((insolvencylaw25_awake.f k).bind fun t255 => (if t255 = true then ((insolvencylaw25_same.f k a0).bind fun t256 => (if t256 = true then ((insolvencylaw25_same.f k (strOfNums (strNums t217))).bind fun t257 => (some t257)) else (some false))) else (some false)))) else (none)) = some r := H
   have A13 := Aside0.mk A130
   clear A130
   by_cases hsz_ : t217.size ≤ 1000000
   case neg => rw [if_neg hsz_] at H; exact absurd H (by simp)
   rw [if_pos hsz_] at H
   go_enter Tryd.func4, Tryd.ntmps4
   go_upto_if 28 with (first | ((with_reducible refine gate_callee (f := 14) rfl ?_); refine goesL_ (some 23) rfl rfl Tryd.func14 (by kernel_rfl) rfl #[.slice A1 l1.length c1, .int .i64 4, .int .i64 20] rfl (by (try simp only [List.map_toArray, List.map_cons, List.map_nil]); first | done | rfl | (simp only [List.length_drop, List.length_take]; rfl)) ?_; (with_reducible refine (insolvencylaw0_Rows.calls _ _ l1 4 20 t214 _ ?side1 ?side2 A12.out).mono ?_); (case side1 => repeat (first | exact HR1.out | (with_reducible refine Kd.C_alloc ?_ _) | (with_reducible refine Kd.C_drewN ?_ _) | (with_reducible refine Kd.C_drew ?_))); (case side2 => exact HC1.out); rintro e w173 ⟨v215, rfl, ho0, hb⟩; refine ⟨_, rfl, ?_⟩; have n0_ := Aside0.mk (Kd.R_lower ho0 (below_size (by repeat (first | (with_reducible first | exact HB.out | apply below_alloc | apply pw_below_drewN | apply below_drew1) | exact HB.out)))); have n1_ := Aside0.mk (below_step (by repeat (first | (with_reducible first | exact HB.out | apply below_alloc | apply pw_below_drewN | apply below_drew1) | exact HB.out)) hb); clear HB; have HO216 := n0_; have HB := n1_; clear n0_ n1_; (try clear hb); (try clear hb2); (try clear hk); (try clear hi); (try clear ho0); obtain ⟨Ao174, co174, eo174⟩ := Kd.R_slice HO216.out; subst eo174) | ((with_reducible refine gate_callee (f := 16) rfl ?_); refine goesL_ (some 24) rfl rfl Tryd.func16 (by kernel_rfl) rfl #[.slice Ao174 t214.length co174] rfl (by (try simp only [List.map_toArray, List.map_cons, List.map_nil]); first | done | rfl | (simp only [List.length_drop, List.length_take]; rfl)) ?_; (with_reducible refine (insolvencyref25_Format.calls k _ _ t214 t217 _ ?side1 ?side2 A13.out).mono ?_); (case side1 => repeat (first | exact (Kd.R_reads' HO216.out).2.2 | (with_reducible refine Kd.C_alloc ?_ _) | (with_reducible refine Kd.C_drewN ?_ _) | (with_reducible refine Kd.C_drew ?_))); (case side2 => exact (Kd.R_reads' HO216.out).2.1); rintro e w175 ⟨rfl, hb⟩; refine ⟨_, rfl, ?_⟩; have n0_ := Aside0.mk (Kd.R_below (by (with_reducible repeat (first | apply Kd.R_alloc | apply Kd.R_drewN | apply Kd.R_drew)); exact HO216.out) hb); have n1_ := Aside0.mk (below_step (by repeat (first | (with_reducible first | exact HB.out | apply below_alloc | apply pw_below_drewN | apply below_drew1) | exact HB.out)) hb); clear HO216; clear HB; have HO216 := n0_; have HB := n1_; clear n0_ n1_; (try clear hb); (try clear hb2); (try clear hk); (try clear hi)) | ((with_reducible refine gate_dst (N := 25) rfl ?_); refine conv_list2 rfl (.tmp 24) rfl t217 rfl ?_; intro bcv ccv w hb1_ hge_ hBA_ hc1_))
   have HBo0 := HB
   have HBo := Aside0.mk (below_step HB.out hb1_)
   have HLd1 := Aside0.mk (LaidW.below HLd.out HBo.out)
   have HLd0 := HLd
   clear HB HLd
   have HLd := HLd1
   clear HLd1
   have hC1_ := hBA_.C (by rw [strNums_length]; omega)
   clear hsz_
   have Hge := Aside0.mk (Nat.le_trans HBo0.out.size hge_)
   clear hge_
   obtain ⟨Acv, hAcv⟩ : ∃ A_, A_ = some (⟨bcv, 0, none⟩ : Addr) := ⟨_, rfl⟩
   rw [← hAcv] at hC1_ ⊢
   have HAcv := Aside0.mk hAcv
   clear hAcv
   obtain ⟨xcv, hxcv_⟩ : ∃ x_, x_ = strNums t217 := ⟨_, rfl⟩
   rw [← hxcv_] at hC1_ hc1_ hBA_ H ⊢
   have HBA := Aside0.mk hBA_
   clear hBA_
   clear hxcv_
   have HRcv := Aside0.mk hC1_
   have HCcv := Aside0.mk hc1_
   clear hC1_ hc1_
   have HO216 := Aside0.mk (Kd.R_below (by (with_reducible repeat (first | apply Kd.R_alloc | apply Kd.R_drewN | apply Kd.R_drew)); exact HO216.out) hb1_)
   rw [← hbo] at HO216
   clear hb1_
   have HB := Aside0.mk (Below.refl w.heap.size w)
   by_cases c15 : (xcv.length : Int) > 0
   ·rw [if_pos c15] at H
    have c15b0 : decide (0 < (xcv.length : Int)) = true := decide_eq_true c15
    have c15b1 : decide (0 < xcv.length) = true := decide_eq_true (by omega)
    clear c15
    by_cases c16 : (xcv.length : Int) = 0
    ·rw [if_pos c16] at H
     exact absurd H (by simp)
    ·rw [if_neg c16] at H
     have c16b0 : ((xcv.length : Int) == 0) = false := beq_eq_false_iff_ne.mpr c16
     have c16b1 : ((xcv.length : Int) != 0) = true := bne_iff_ne.mpr c16
     have c16b2 : ¬ (xcv = []) := fun h_ => c16 (by rw [h_]; rfl)
     by_cases c17 : (Int.tmod a4 4) = 0
     ·rw [if_pos c17] at H
      have c17b0 : ((Int.tmod a4 4) == 0) = true := beq_iff_eq.mpr c17
      have c17b1 : ((Int.tmod a4 4) != 0) = false := bne_eq_false_iff_eq.mpr c17
      clear c17
      clear HO216
      obtain ⟨ji17, hji17⟩ : ∃ j_ : Int, (Int.tmod (wrap64 (a2)) (xcv.length : Int)) = j_ := ⟨_, rfl⟩
      rw [hji17] at H
      have hji17w : (Int.tmod (IntKind.i64.wrap a2) (xcv.length : Int)) = ji17 := by rw [i64_w]; exact hji17
      by_cases c18 : 0 ≤ ji17
      case neg => rw [if_neg c18] at H; exact absurd H (by simp)
      rw [if_pos c18] at H
      by_cases c19 : ji17 < (xcv.length : Int)
      case neg => rw [if_neg c19] at H; exact absurd H (by simp)
      rw [if_pos c19] at H
      obtain ⟨n17, rfl⟩ := Int.eq_ofNat_of_zero_le c18
      have hn_ : n17 < xcv.length := by omega
      rw [Int.toNat_natCast] at H
      have c18b := eq_true c18
      have c19b := eq_true c19
      have hAcv := HAcv.out
      subst hAcv
      have hcell_ : w.cell? ⟨bcv, n17, none⟩ = some (.int .u8 (xcv[n17])) := HBA.out.cell (List.getElem?_eq_getElem hn_)
      have hfz_ : w.frozen? ⟨bcv, n17, none⟩ = false := HBA.out.frozen hn_
      have HBs := Aside0.mk (below_set (j := n17) (v := Value.int .u8 a3) HBo.out Hge.out)
      have HLs := Aside0.mk (LaidW.below HLd0.out HBs.out)
      have HRs := Aside0.mk (BA.C (BA.set HBA.out n17 a3) (by rw [List.length_set]; exact HRcv.out.2.1))
      replace H := Option.bind_eq_some_iff.mp H
      obtain ⟨t260, A2600, H⟩ := H
      replace H : (if t260 = true then ((insolvencylaw25_same.f k a0).bind fun t261 => (if t261 = true then ((insolvencylaw25_same.f k (strOfNums (xcv.set n17 a3))).bind fun t262 => (some t262)) else (some false))) else (some false)) = some r := H
      have A260 := Aside0.mk A2600
      clear A2600
      cases t260 with
      | false =>
       rw [if_neg (by decide)] at H
       obtain rfl := Option.some.inj H
       go_wp2_with (first | ((with_reducible refine gate_callee (f := 13) rfl ?_); refine goesL_ (some 68) rfl rfl Tryd.func13 (by kernel_rfl) rfl #[] rfl (by (try simp only [List.map_toArray, List.map_cons, List.map_nil]); first | done | rfl) ?_; (with_reducible refine (insolvencylaw25_awake.calls k false _ HLs.out A260.out).mono ?_); rintro e w260 ⟨rfl, hb⟩; refine ⟨_, rfl, ?_⟩; have HB1 := Aside0.mk hb; clear hb))
       go_ret
       exact ⟨rfl, below_step HBs.out HB1.out⟩
      | true =>
       rw [if_pos rfl] at H
       replace H := Option.bind_eq_some_iff.mp H
       obtain ⟨t261, A2610, H⟩ := H
       replace H : (if t261 = true then ((insolvencylaw25_same.f k (strOfNums (xcv.set n17 a3))).bind fun t262 => (some t262)) else (some false)) = some r := H
       have A261 := Aside0.mk A2610
       clear A2610
       cases t261 with
       | false =>
        rw [if_neg (by decide)] at H
        obtain rfl := Option.some.inj H
        go_wp2_with (first | ((with_reducible refine gate_callee (f := 13) rfl ?_); refine goesL_ (some 68) rfl rfl Tryd.func13 (by kernel_rfl) rfl #[] rfl (by (try simp only [List.map_toArray, List.map_cons, List.map_nil]); first | done | rfl) ?_; (with_reducible refine (insolvencylaw25_awake.calls k true _ HLs.out A260.out).mono ?_); rintro e w260 ⟨rfl, hb⟩; refine ⟨_, rfl, ?_⟩; have HB1 := Aside0.mk hb; clear hb) | (go_at_call 17; (with_reducible refine (insolvencylaw25_same.calls k a0 false _ (LaidW.below HLs.out HB1.out) A261.out).mono ?_); rintro e w261 ⟨rfl, hb⟩; have HB2 := Aside0.mk (below_step HB1.out hb); clear hb))
        go_ret
        exact ⟨rfl, below_step HBs.out HB2.out⟩
       | true =>
        rw [if_pos rfl] at H
        replace H := Option.bind_eq_some_iff.mp H
        obtain ⟨t262, A2620, H⟩ := H
        have A262 := Aside0.mk A2620
        clear A2620
        obtain rfl := Option.some.inj H
        go_wp2_with (first | ((with_reducible refine gate_callee (f := 13) rfl ?_); refine goesL_ (some 68) rfl rfl Tryd.func13 (by kernel_rfl) rfl #[] rfl (by (try simp only [List.map_toArray, List.map_cons, List.map_nil]); first | done | rfl) ?_; (with_reducible refine (insolvencylaw25_awake.calls k true _ HLs.out A260.out).mono ?_); rintro e w260 ⟨rfl, hb⟩; refine ⟨_, rfl, ?_⟩; have HB1 := Aside0.mk hb; clear hb) | (go_at_call 17; (with_reducible refine (insolvencylaw25_same.calls k a0 true _ (LaidW.below HLs.out HB1.out) A261.out).mono ?_); rintro e w261 ⟨rfl, hb⟩; have HB2 := Aside0.mk (below_step HB1.out hb); clear hb; have hcv_ := Kd.C_string (P := Tryd.prog) (A := some ⟨bcv, 0, none⟩) (c := ccv) Tryd.underlying29 Tryd.underlying5 Tryd.underlying9 (Kd.C_below HRs.out HB2.out); rw [List.length_set] at hcv_) | (go_at_call 17; (with_reducible refine (insolvencylaw25_same.calls k (strOfNums (xcv.set n17 a3)) t262 _ (LaidW.below HLs.out HB2.out) A262.out).mono ?_); rintro e w262 ⟨rfl, hb⟩; have HB3 := Aside0.mk (below_step HB2.out hb); clear hb))
        go_ret
        exact ⟨rfl, below_step HBs.out HB3.out⟩
     ·rw [if_neg c17] at H
      have c17b0 : ((Int.tmod a4 4) == 0) = false := beq_eq_false_iff_ne.mpr c17
      have c17b1 : ((Int.tmod a4 4) != 0) = true := bne_iff_ne.mpr c17
      by_cases c18 : (Int.tmod a4 4) = 1
      ·rw [if_pos c18] at H
       have c18b0 : ((Int.tmod a4 4) == 1) = true := beq_iff_eq.mpr c18
       have c18b1 : ((Int.tmod a4 4) != 1) = false := bne_eq_false_iff_eq.mpr c18
       clear c18
       obtain ⟨y218, hy218⟩ : ∃ y_ : List Int, y_ = (([] : List Int)) := ⟨_, rfl⟩
       replace H : (if 0 ≤ (Int.tmod (wrap64 (a2)) (xcv.length : Int)) then (if (Int.tmod (wrap64 (a2)) (xcv.length : Int)) ≤ (xcv.length : Int) then (if y218.length + (xcv.take ((Int.tmod (wrap64 (a2)) (xcv.length : Int)) : Int).toNat).length < 140737488355328 then ((some (y218 ++ (xcv.take ((Int.tmod (wrap64 (a2)) (xcv.length : Int)) : Int).toNat) : List Int)).bind fun y222 => ((some (([a3] : List Int) : List Int)).bind fun y225 => (if y222.length + y225.length < 140737488355328 then ((some (y222 ++ y225 : List Int)).bind fun y228 => (if y228.length + (xcv.drop ((Int.tmod (wrap64 (a2)) (xcv.length : Int)) : Int).toNat).length < 140737488355328 then ((insolvencylaw25_awake.f k).bind fun t235 => (if t235 = true then ((insolvencylaw25_same.f k a0).bind fun t236 => (if t236 = true then ((insolvencylaw25_same.f k (strOfNums (y228 ++ (xcv.drop ((Int.tmod (wrap64 (a2)) (xcv.length : Int)) : Int).toNat)))).bind fun t237 => (some t237)) else (some false))) else (some false))) else (none))) else (none)))) else (none)) else (none)) else (none)) = some r := by first | (rw [hy218]; with_reducible exact H) | (have H2_ := (Option.bind_some _ _).symm.trans H; rw [hy218]; with_reducible exact H2_) | (have H2_ := (Option.bind_some _ _).symm.trans H; with_reducible exact H2_) | with_reducible exact H | (rw [hy218]; exact H) | exact H
       have Ny218 := Aside0.mk hy218
       clear hy218
       obtain ⟨ji19, hji19⟩ : ∃ j_ : Int, (Int.tmod (wrap64 (a2)) (xcv.length : Int)) = j_ := ⟨_, rfl⟩
       replace H : (if 0 ≤ (ji19) then (if (ji19) ≤ (xcv.length : Int) then (if y218.length + (xcv.take ((ji19) : Int).toNat).length < 140737488355328 then ((some (y218 ++ (xcv.take ((ji19) : Int).toNat) : List Int)).bind fun y222 => ((some (([a3] : List Int) : List Int)).bind fun y225 => (if y222.length + y225.length < 140737488355328 then ((some (y222 ++ y225 : List Int)).bind fun y228 => (if y228.length + (xcv.drop ((ji19) : Int).toNat).length < 140737488355328 then ((insolvencylaw25_awake.f k).bind fun t235 => (if t235 = true then ((insolvencylaw25_same.f k a0).bind fun t236 => (if t236 = true then ((insolvencylaw25_same.f k (strOfNums (y228 ++ (xcv.drop ((ji19) : Int).toNat)))).bind fun t237 => (some t237)) else (some false))) else (some false))) else (none))) else (none)))) else (none)) else (none)) else (none)) = some r := by first | (rw [hji19] at H; exact H) | (simp only [hji19] at H ⊢; exact H)
       (try rw [hji19] at A12)
       (try rw [hji19] at A13)
       by_cases c20 : 0 ≤ (ji19)
       ·rw [if_pos c20] at H
        have c20b0 := eq_true c20
        have c20b1 : decide (0 ≤ (ji19)) = true := decide_eq_true c20
        clear c20
        by_cases c21 : (ji19) ≤ (xcv.length : Int)
        ·rw [if_pos c21] at H
         have c21b0 := eq_true c21
         have c21b1 : decide ((ji19) ≤ (xcv.length : Int)) = true := decide_eq_true c21
         clear c21
         by_cases c22 : y218.length + (xcv.take ((ji19) : Int).toNat).length < 140737488355328
         ·rw [if_pos c22] at H
          have LMc22 := Aside0.mk c22
          clear c22
          obtain ⟨y222, hy222⟩ : ∃ y_ : List Int, y_ = (y218 ++ (xcv.take ((ji19) : Int).toNat)) := ⟨_, rfl⟩
          replace H : ((some (([a3] : List Int) : List Int)).bind fun y225 => (if y222.length + y225.length < 140737488355328 then ((some (y222 ++ y225 : List Int)).bind fun y228 => (if y228.length + (xcv.drop ((ji19) : Int).toNat).length < 140737488355328 then ((insolvencylaw25_awake.f k).bind fun t235 => (if t235 = true then ((insolvencylaw25_same.f k a0).bind fun t236 => (if t236 = true then ((insolvencylaw25_same.f k (strOfNums (y228 ++ (xcv.drop ((ji19) : Int).toNat)))).bind fun t237 => (some t237)) else (some false))) else (some false))) else (none))) else (none))) = some r := by first | (rw [hy222]; with_reducible exact H) | (have H2_ := (Option.bind_some _ _).symm.trans H; rw [hy222]; with_reducible exact H2_) | (have H2_ := (Option.bind_some _ _).symm.trans H; with_reducible exact H2_) | with_reducible exact H | (rw [hy222]; exact H) | exact H
          have Ny222 := Aside0.mk hy222
          clear hy222
          obtain ⟨y225, hy225⟩ : ∃ y_ : List Int, y_ = (([a3] : List Int)) := ⟨_, rfl⟩
          replace H : (if y222.length + y225.length < 140737488355328 then ((some (y222 ++ y225 : List Int)).bind fun y228 => (if y228.length + (xcv.drop ((ji19) : Int).toNat).length < 140737488355328 then ((insolvencylaw25_awake.f k).bind fun t235 => (if t235 = true then ((insolvencylaw25_same.f k a0).bind fun t236 => (if t236 = true then ((insolvencylaw25_same.f k (strOfNums (y228 ++ (xcv.drop ((ji19) : Int).toNat)))).bind fun t237 => (some t237)) else (some false))) else (some false))) else (none))) else (none)) = some r := by first | (rw [hy225]; with_reducible exact H) | (have H2_ := (Option.bind_some _ _).symm.trans H; rw [hy225]; with_reducible exact H2_) | (have H2_ := (Option.bind_some _ _).symm.trans H; with_reducible exact H2_) | with_reducible exact H | (rw [hy225]; exact H) | exact H
          have Ny225 := Aside0.mk hy225
          clear hy225
          by_cases c23 : y222.length + y225.length < 140737488355328
          ·rw [if_pos c23] at H
           have LMc23 := Aside0.mk c23
           clear c23
           obtain ⟨y228, hy228⟩ : ∃ y_ : List Int, y_ = (y222 ++ y225) := ⟨_, rfl⟩
           replace H : (if y228.length + (xcv.drop ((ji19) : Int).toNat).length < 140737488355328 then ((insolvencylaw25_awake.f k).bind fun t235 => (if t235 = true then ((insolvencylaw25_same.f k a0).bind fun t236 => (if t236 = true then ((insolvencylaw25_same.f k (strOfNums (y228 ++ (xcv.drop ((ji19) : Int).toNat)))).bind fun t237 => (some t237)) else (some false))) else (some false))) else (none)) = some r := by first | (rw [hy228]; with_reducible exact H) | (have H2_ := (Option.bind_some _ _).symm.trans H; rw [hy228]; with_reducible exact H2_) | (have H2_ := (Option.bind_some _ _).symm.trans H; with_reducible exact H2_) | with_reducible exact H | (rw [hy228]; exact H) | exact H
           have Ny228 := Aside0.mk hy228
           clear hy228
           have c24b0 := eq_true (of_decide_eq_true (by first | (with_reducible assumption) | assumption) : 0 ≤ (ji19))
           have c25b0 := eq_true (of_decide_eq_true (by first | (with_reducible assumption) | assumption) : (ji19) ≤ (xcv.length : Int))
           by_cases c26 : y228.length + (xcv.drop ((ji19) : Int).toNat).length < 140737488355328
           ·rw [if_pos c26] at H
            have LMc26 := Aside0.mk c26
            clear c26
            obtain ⟨y232, hy232⟩ : ∃ y_ : List Int, y_ = (y228 ++ (xcv.drop ((ji19) : Int).toNat)) := ⟨_, rfl⟩
            replace H : ((insolvencylaw25_awake.f k).bind fun t235 => (if t235 = true then ((insolvencylaw25_same.f k a0).bind fun t236 => (if t236 = true then ((insolvencylaw25_same.f k (strOfNums y232)).bind fun t237 => (some t237)) else (some false))) else (some false))) = some r := by first | (rw [hy232]; with_reducible exact H) | (have H2_ := (Option.bind_some _ _).symm.trans H; rw [hy232]; with_reducible exact H2_) | (have H2_ := (Option.bind_some _ _).symm.trans H; with_reducible exact H2_) | with_reducible exact H | (rw [hy232]; exact H) | exact H
            have Ny232 := Aside0.mk hy232
            clear hy232
            replace H := Option.bind_eq_some_iff.mp H
            obtain ⟨t235, A270, H⟩ := H
            replace H : (if t235 = true then ((insolvencylaw25_same.f k a0).bind fun t236 => (if t236 = true then ((insolvencylaw25_same.f k (strOfNums y232)).bind fun t237 => (some t237)) else (some false))) else (some false)) = some r := H
            have A27 := Aside0.mk A270
            clear A270
            by_cases c28 : t235 = true
            ·subst c28
             have H1 : ((insolvencylaw25_same.f k a0).bind fun t236 => (if t236 = true then ((insolvencylaw25_same.f k (strOfNums y232)).bind fun t237 => (some t237)) else (some false))) = some r := by rw [if_pos rfl] at H; exact H
             clear H
             have H := H1
             clear H1
             replace H := Option.bind_eq_some_iff.mp H
             obtain ⟨t236, A290, H⟩ := H
             replace H : (if t236 = true then ((insolvencylaw25_same.f k (strOfNums y232)).bind fun t237 => (some t237)) else (some false)) = some r := H
             have A29 := Aside0.mk A290
             clear A290
             by_cases c30 : t236 = true
             ·subst c30
              have H1 : ((insolvencylaw25_same.f k (strOfNums y232)).bind fun t237 => (some t237)) = some r := by rw [if_pos rfl] at H; exact H
              clear H
              have H := H1
              clear H1
              replace H := Option.bind_eq_some_iff.mp H
              obtain ⟨t237, A310, H⟩ := H
              replace H : (some t237) = some r := H
              have A31 := Aside0.mk A310
              clear A310
              obtain rfl := Option.some.inj H
              try go_wp2_with (first | ((with_reducible refine gate_callee (f := 14) rfl ?_); refine goesL_ (some 23) rfl rfl Tryd.func14 (by kernel_rfl) rfl #[.slice A1 l1.length c1, .int .i64 4, .int .i64 20] rfl (by (try simp only [List.map_toArray, List.map_cons, List.map_nil]); first | done | rfl | (simp only [List.length_drop, List.length_take]; rfl)) ?_; (with_reducible refine (insolvencylaw0_Rows.calls _ _ l1 4 20 t214 _ ?side1 ?side2 A12.out).mono ?_); (case side1 => repeat (first | exact HR1.out | (with_reducible refine Kd.C_alloc ?_ _) | (with_reducible refine Kd.C_drewN ?_ _) | (with_reducible refine Kd.C_drew ?_))); (case side2 => exact HC1.out); rintro e w32 ⟨v215, rfl, ho0, hb⟩; refine ⟨_, rfl, ?_⟩; have n0_ := Aside0.mk (Kd.R_lower ho0 (below_size (by repeat (first | (with_reducible first | exact HB.out | apply below_alloc | apply pw_below_drewN | apply below_drew1) | exact HB.out)))); have n1_ := Aside0.mk (below_step (by repeat (first | (with_reducible first | exact HB.out | apply below_alloc | apply pw_below_drewN | apply below_drew1) | exact HB.out)) hb); clear HB; have HO216 := n0_; have HB := n1_; clear n0_ n1_; (try clear hb); (try clear hb2); (try clear hk); (try clear hi); (try clear ho0); obtain ⟨Ao174, co174, eo33⟩ := Kd.R_slice HO216.out; subst eo33) | ((with_reducible refine gate_callee (f := 16) rfl ?_); refine goesL_ (some 24) rfl rfl Tryd.func16 (by kernel_rfl) rfl #[.slice Ao174 t214.length co174] rfl (by (try simp only [List.map_toArray, List.map_cons, List.map_nil]); first | done | rfl | (simp only [List.length_drop, List.length_take]; rfl)) ?_; (with_reducible refine (insolvencyref25_Format.calls k _ _ t214 t217 _ ?side1 ?side2 A13.out).mono ?_); (case side1 => repeat (first | exact (Kd.R_reads' HO216.out).2.2 | (with_reducible refine Kd.C_alloc ?_ _) | (with_reducible refine Kd.C_drewN ?_ _) | (with_reducible refine Kd.C_drew ?_))); (case side2 => exact (Kd.R_reads' HO216.out).2.1); rintro e w34 ⟨rfl, hb⟩; refine ⟨_, rfl, ?_⟩; have n0_ := Aside0.mk (Kd.R_below (by (with_reducible repeat (first | apply Kd.R_alloc | apply Kd.R_drewN | apply Kd.R_drew)); exact HO216.out) hb); have n1_ := Aside0.mk (below_step (by repeat (first | (with_reducible first | exact HB.out | apply below_alloc | apply pw_below_drewN | apply below_drew1) | exact HB.out)) hb); clear HO216; clear HB; have HO216 := n0_; have HB := n1_; clear n0_ n1_; (try clear hb); (try clear hb2); (try clear hk); (try clear hi)))
              have n0_ := Aside0.mk (Kd.R_drew HO216.out)
              have n1_ := Aside0.mk (below_drew1 HB.out)
              clear HO216
              clear HB
              have HO216 := n0_
              have HB := n1_
              clear n0_ n1_
              obtain ⟨i036, hi036, _, hsz36, _⟩ := info_parts info5
              obtain ⟨hcut36, hA36, hC36⟩ := print_take_of (P := Tryd.prog) (Value.int .u8) 0 29 5 .i64 Tryd.underlying29 hi036 hsz36 Acv ccv xcv (ji19) (of_decide_eq_true (by first | (with_reducible assumption) | assumption)) (of_decide_eq_true (by first | (with_reducible assumption) | assumption)) HCcv.out
              have HR221 := Aside0.mk (Kd.C_of_reads (h1 := fun _ => rfl) (hA36 _ (Kd.reads_of_C HRcv.out)))
              have HC221 := Aside0.mk hC36
              clear hA36 hC36 hi036 hsz36
              obtain ⟨i037, hi037, _, hsz37, _⟩ := info_parts info5
              obtain ⟨A37, hcut37, hA37, hC37⟩ := print_drop_of (P := Tryd.prog) (Value.int .u8) 0 29 5 .i64 Tryd.underlying29 hi037 hsz37 Acv ccv xcv (ji19) (of_decide_eq_true (by first | (with_reducible assumption) | assumption)) (of_decide_eq_true (by first | (with_reducible assumption) | assumption)) HCcv.out
              have HR231 := Aside0.mk (Kd.C_of_reads (h1 := fun _ => rfl) (hA37 _ (Kd.reads_of_C HRcv.out)))
              have HC231 := Aside0.mk hC37
              clear hA37 hC37 hi037 hsz37
              refine start_ (n := 13) (S := fun w' => True) (ds := []) (bz 13 0) (by kernel_rfl) rfl rfl trivial (fun hHeld => ?_); refine with_tabW insolvencylaw25_HistoryParse.tab10 insolvencylaw25_HistoryParse.bits10 (fun HT_ HW_ => ?_)
              generalize w.drew = w35 at HO216 HB HR221 HR231 hHeld ⊢
              refine pure_ (i := 1) (N := some 45) (v := ?_) (a' := ?_) (bz 13 2) rfl rfl (any_of HT_.out (by kernel_rfl)) (fun _ _ _ h => h) (Or.inl ⟨by rfl, ?_⟩) ?_ ?_
              rotate_left
              ·intro w'
               go_simp
               with_reducible rfl
              rotate_left
              ·simp only [Act.put, List.setIfInBounds_toArray, List.set_cons_zero, List.set_cons_succ, i64_w, i32_w]
               rfl
              refine pure_ (i := 2) (N := some 46) (v := ?_) (a' := ?_) (bz 13 6) rfl rfl (any_of HT_.out (by kernel_rfl)) (fun _ _ _ h => h) (Or.inl ⟨by rfl, ?_⟩) ?_ ?_
              rotate_left
              ·intro w'
               go_simp
               with_reducible rfl
              rotate_left
              ·simp only [Act.put, List.setIfInBounds_toArray, List.set_cons_zero, List.set_cons_succ, i64_w, i32_w]
               rfl
              refine pure_ (i := 3) (N := some 47) (v := ?_) (a' := ?_) (bz 13 14) rfl rfl (any_of HT_.out (by kernel_rfl)) (fun _ _ _ h => h) (Or.inl ⟨by rfl, ?_⟩) ?_ ?_
              rotate_left
              ·intro w'
               go_simp
               with_reducible rfl
              rotate_left
              ·simp only [Act.put, List.setIfInBounds_toArray, List.set_cons_zero, List.set_cons_succ, i64_w, i32_w]
               rfl
              refine pure_ (i := 5) (N := some 49) (v := ?_) (a' := ?_) (bz 13 46) rfl rfl (any_of HT_.out (by kernel_rfl)) (fun _ _ _ h => h) (Or.inl ⟨by rfl, ?_⟩) ?_ ?_
              rotate_left
              ·intro w'
               go_simp
               with_reducible rfl
              rotate_left
              ·simp only [Act.put, List.setIfInBounds_toArray, List.set_cons_zero, List.set_cons_succ, i64_w, i32_w]
               rfl
              refine pure_ (i := 8) (N := some 52) (v := ?_) (a' := ?_) (bz 13 302) rfl rfl (any_of HT_.out (by kernel_rfl)) (fun _ _ _ h => h) (Or.inl ⟨by rfl, ?_⟩) ?_ ?_
              rotate_left
              ·intro w'
               go_simp
               with_reducible rfl
              rotate_left
              ·simp only [Act.put, List.setIfInBounds_toArray, List.set_cons_zero, List.set_cons_succ, i64_w, i32_w]
               rfl
              refine pure_ (i := 9) (N := some 53) (v := ?_) (a' := ?_) (bz 13 814) rfl rfl (any_of HT_.out (by kernel_rfl)) (fun _ _ _ h => h) (Or.inl ⟨by rfl, ?_⟩) ?_ ?_
              rotate_left
              ·intro w'
               go_simp
               with_reducible rfl
              rotate_left
              ·simp only [Act.put, List.setIfInBounds_toArray, List.set_cons_zero, List.set_cons_succ, i64_w, i32_w]
               rfl
              refine pure_ (i := 10) (N := some 54) (v := ?_) (a' := ?_) (bz 13 1838) rfl rfl (any_of HT_.out (by kernel_rfl)) (fun _ _ _ h => h) (Or.inl ⟨by rfl, ?_⟩) ?_ ?_
              rotate_left
              ·intro w'
               go_simp
               with_reducible rfl
              rotate_left
              ·simp only [Act.put, List.setIfInBounds_toArray, List.set_cons_zero, List.set_cons_succ, i64_w, i32_w]
               rfl
              refine join_ (σ := Value × Value × Value) 3 (bz 13 1919) (fun s_ => [(44, s_.1), (48, s_.2.1), (50, s_.2.2)]) (fun s_ w' => (Kd.R k39 39 w' bo (fun _ => True) (.slice Ao174 t214.length co174) t214) ∧ (Kd.R (Kd.int .u8) 5 w' w.heap.size (fun k_ => some k_ ≠ (s_.2.2 : Value).ownBlock) s_.2.1 y222) ∧ (Kd.R (Kd.int .u8) 5 w' w.heap.size (fun k_ => some k_ ≠ (s_.2.1 : Value).ownBlock) s_.2.2 y225) ∧ (Below w.heap.size w w')) ?_ ?_
              rotate_left
              ·intro hCont
               refine two_ (i := 0) (j := 6) (Ni := some 44) (Nj := some 50) (bz 13 1839) (bz 13 1902) rfl rfl rfl rfl (two_of HT_.out (by kernel_rfl)) (by decide) (by decide) (fun K hK => ?_) (fun K hK => ?_)
               ·skip
                refine Kd.R_lit_step (Kd.int .u8) _ 5 ?hg (N := 44) ?hd (xs := ([] : List Int)) (inner := []) (ok := fun _ => True) (okp := fun _ => True) ?hr ?hp (fun _ hk => hk) trivial (Below.refl _ _) (Nat.le_refl _) (by simp) ?_; (case hd => rfl); (case hg => rfl); (case hr => first | (go_simp; done) | (go_simp; rfl)); (case hp => exact (Reps.none _ _))
                intro v219 w38 ho39 hb hg_ hnew_
                clear hg_ hnew_
                (first | rw [← Ny218.out] at ho39 | (simp only [Int.reduceToNat] at ho39; rw [← Ny218.out] at ho39))
                have n0_ := Aside0.mk (Kd.R_below (by (with_reducible repeat (first | apply Kd.R_alloc | apply Kd.R_drewN | apply Kd.R_drew)); exact HO216.out) hb)
                have n1_ := Aside0.mk (Kd.R_lower ho39 (below_size (by repeat (first | (with_reducible first | exact HB.out | apply below_alloc | apply pw_below_drewN | apply below_drew1) | exact HB.out))))
                have n2_ := Aside0.mk (below_step (by repeat (first | (with_reducible first | exact HB.out | apply below_alloc | apply pw_below_drewN | apply below_drew1) | exact HB.out)) hb)
                clear HO216
                clear HB
                have HO216 := n0_
                have HO220 := n1_
                have HB := n2_
                clear n0_ n1_ n2_
                clear hb ho39
                refine hK.out _ _ trivial (fun hHeld => ?_)
                clear hK K
                refine norm_ (a' := ?_) ?_ ?_
                rotate_left
                ·show Act.put _ (some 44) _ = _
                 simp only [Act.put, List.setIfInBounds_toArray, List.set_cons_zero, List.set_cons_succ, i64_w, i32_w]
                 rfl
                refine two_ (i := 4) (j := 6) (Ni := some 48) (Nj := some 50) (bz 13 1855) (bz 13 1903) rfl rfl rfl rfl (two_of HT_.out (by kernel_rfl)) (by decide) (by decide) (fun K hK => ?_) (fun K hK => ?_)
                ·skip
                 refine Kd.R_append_rows_step (Kd.int .u8) (w0 := w) w.heap.size (by rfl) (.tmp 44) (.tmp 47) 29 5 (.int .u8 0) 1 rfl Tryd.underlying29 info5 rfl (by decide) (by omega) v219 y218 (xcv.take ((ji19) : Int).toNat) _ _ _ (fun _ => True) (fun _ => False) rfl rfl ?aO ?aR (fun _ _ h => h) (fun _ h => h.elim) ?aF ?aB ?aS ?aL ?_
                 (case aR => first | (rw [← show (xcv.take ((ji19) : Int).toNat).length = (ji19).toNat from (by rw [List.length_take]; have h_ : ((ji19) : Int) ≤ (xcv.length : Int) := of_decide_eq_true (by first | (with_reducible assumption) | assumption); omega)]; (try rw [take_len_]); repeat (first | exact (Kd.C_below HR221.out HB.out) | (with_reducible refine Kd.C_alloc ?_ _) | (with_reducible refine Kd.C_drewN ?_ _) | (with_reducible refine Kd.C_drew ?_))) | (repeat (first | exact (Kd.C_below HR221.out HB.out) | (with_reducible refine Kd.C_alloc ?_ _) | (with_reducible refine Kd.C_drewN ?_ _) | (with_reducible refine Kd.C_drew ?_))))
                 (case aB => exact (by repeat (first | (with_reducible first | exact HB.out | apply below_alloc | apply pw_below_drewN | apply below_drew1) | exact HB.out)))
                 (case aF => exact (fun _ _ => trivial))
                 (case aO => exact (by (with_reducible repeat (first | apply Kd.R_alloc | apply Kd.R_drewN | apply Kd.R_drew)); exact HO220.out))
                 (case aS => exact (below_size (by repeat (first | (with_reducible first | exact HB.out | apply below_alloc | apply pw_below_drewN | apply below_drew1) | exact HB.out))))
                 (case aL => have := LMc22.out; have hlx_ := (show (xcv.take ((ji19) : Int).toNat).length = (ji19).toNat from (by rw [List.length_take]; have h_ : ((ji19) : Int) ≤ (xcv.length : Int) := of_decide_eq_true (by first | (with_reducible assumption) | assumption); omega)); omega)
                 intro v223 w40 ho hb hg hat
                 rw [← Ny222.out] at ho
                 have n0_ := Aside0.mk (Kd.R_over' (by (with_reducible repeat (first | apply Kd.R_alloc | apply Kd.R_drewN | apply Kd.R_drew)); exact HO216.out) (Kd.R_typed (by (with_reducible repeat (first | apply Kd.R_alloc | apply Kd.R_drewN | apply Kd.R_drew)); exact HO220.out)) (by decide) hg)
                 have n1_ := Aside0.mk (hb)
                 have n2_ := Aside0.mk (ho)
                 clear HO216
                 clear HB
                 clear HO220
                 have HO216 := n0_
                 have HB := n1_
                 have HO224 := n2_
                 clear n0_ n1_ n2_
                 clear ho hb hg hat
                 refine hK.out _ _ trivial (fun hHeld => ?_)
                 clear hK K
                 refine norm_ (a' := ?_) ?_ ?_
                 rotate_left
                 ·show Act.put _ (some 48) _ = _
                  simp only [Act.put, List.setIfInBounds_toArray, List.set_cons_zero, List.set_cons_succ, i64_w, i32_w]
                  rfl
                 refine one_ (i := 6) (N := some 50) (bz 13 1919) rfl rfl (one_of HT_.out (by kernel_rfl)) (by decide) (fun K hK => ?_)
                 refine Kd.R_lit_step (Kd.int .u8) _ 5 ?hg (N := 50) ?hd (xs := ([a3] : List Int)) (inner := [.int .u8 a3]) (ok := fun _ => True) (okp := fun _ => True) ?hr ?hp (fun _ hk => hk) trivial (Below.refl _ _) (Nat.le_refl _) (by simp) ?_; (case hd => rfl); (case hg => rfl); (case hr => first | (go_simp; done) | (go_simp; rfl)); (case hp => exact (Reps.one (show Kd.M (Kd.int .u8) _ _ _ a3 [.int .u8 a3] from rfl) (Reps.none _ _)))
                 intro v226 w41 ho42 hb hg_ hnew_
                 clear hg_ hnew_
                 (first | rw [← Ny225.out] at ho42 | (simp only [Int.reduceToNat] at ho42; rw [← Ny225.out] at ho42))
                 have n0_ := Aside0.mk (Kd.R_below (by (with_reducible repeat (first | apply Kd.R_alloc | apply Kd.R_drewN | apply Kd.R_drew)); exact HO216.out) hb)
                 have n1_ := Aside0.mk (Kd.R_elder' (by (with_reducible repeat (first | apply Kd.R_alloc | apply Kd.R_drewN | apply Kd.R_drew)); exact HO224.out) (Kd.R_base ho42) hb)
                 have n2_ := Aside0.mk (Kd.R_lower (Kd.R_new' ho42 (Kd.R_lt (by (with_reducible repeat (first | apply Kd.R_alloc | apply Kd.R_drewN | apply Kd.R_drew)); exact HO224.out))) (below_size (by repeat (first | (with_reducible first | exact HB.out | apply below_alloc | apply pw_below_drewN | apply below_drew1) | exact HB.out))))
                 have n3_ := Aside0.mk (below_step (by repeat (first | (with_reducible first | exact HB.out | apply below_alloc | apply pw_below_drewN | apply below_drew1) | exact HB.out)) hb)
                 clear HO216
                 clear HO224
                 clear HB
                 have HO216 := n0_
                 have HO224 := n1_
                 have HO227 := n2_
                 have HB := n3_
                 clear n0_ n1_ n2_ n3_
                 clear hb ho42
                 refine hK.out _ _ trivial (fun hHeld => ?_)
                 clear hK K
                 refine norm_ (a' := ?_) ?_ ?_
                 rotate_left
                 ·show Act.put _ (some 50) _ = _
                  simp only [Act.put, List.setIfInBounds_toArray, List.set_cons_zero, List.set_cons_succ, i64_w, i32_w]
                  rfl
                 exact norm_ (by simp only [putAll, Act.put, List.setIfInBounds_toArray, List.set_cons_zero, List.set_cons_succ]) (hCont (v219, v223, v226) _ ⟨(by (with_reducible repeat (first | apply Kd.R_alloc | apply Kd.R_drewN | apply Kd.R_drew)); exact HO216.out), (by (with_reducible repeat (first | apply Kd.R_alloc | apply Kd.R_drewN | apply Kd.R_drew)); exact Kd.R_mono HO224.out (fun _ hk => hk.2)), (by (with_reducible repeat (first | apply Kd.R_alloc | apply Kd.R_drewN | apply Kd.R_drew)); exact Kd.R_mono HO227.out (fun _ hk => hk.2)), (by repeat (first | (with_reducible first | exact HB.out | apply below_alloc | apply pw_below_drewN | apply below_drew1) | exact HB.out))⟩)
                ·skip
                 refine Kd.R_lit_step (Kd.int .u8) _ 5 ?hg (N := 50) ?hd (xs := ([a3] : List Int)) (inner := [.int .u8 a3]) (ok := fun _ => True) (okp := fun _ => True) ?hr ?hp (fun _ hk => hk) trivial (Below.refl _ _) (Nat.le_refl _) (by simp) ?_; (case hd => rfl); (case hg => rfl); (case hr => first | (go_simp; done) | (go_simp; rfl)); (case hp => exact (Reps.one (show Kd.M (Kd.int .u8) _ _ _ a3 [.int .u8 a3] from rfl) (Reps.none _ _)))
                 intro v226 w40 ho41 hb hg_ hnew_
                 clear hg_ hnew_
                 (first | rw [← Ny225.out] at ho41 | (simp only [Int.reduceToNat] at ho41; rw [← Ny225.out] at ho41))
                 have n0_ := Aside0.mk (Kd.R_below (by (with_reducible repeat (first | apply Kd.R_alloc | apply Kd.R_drewN | apply Kd.R_drew)); exact HO216.out) hb)
                 have n1_ := Aside0.mk (Kd.R_elder' (by (with_reducible repeat (first | apply Kd.R_alloc | apply Kd.R_drewN | apply Kd.R_drew)); exact HO220.out) (Kd.R_base ho41) hb)
                 have n2_ := Aside0.mk (Kd.R_lower (Kd.R_new' ho41 (Kd.R_lt (by (with_reducible repeat (first | apply Kd.R_alloc | apply Kd.R_drewN | apply Kd.R_drew)); exact HO220.out))) (below_size (by repeat (first | (with_reducible first | exact HB.out | apply below_alloc | apply pw_below_drewN | apply below_drew1) | exact HB.out))))
                 have n3_ := Aside0.mk (below_step (by repeat (first | (with_reducible first | exact HB.out | apply below_alloc | apply pw_below_drewN | apply below_drew1) | exact HB.out)) hb)
                 clear HO216
                 clear HO220
                 clear HB
                 have HO216 := n0_
                 have HO220 := n1_
                 have HO227 := n2_
                 have HB := n3_
                 clear n0_ n1_ n2_ n3_
                 clear hb ho41
                 refine hK.out _ _ trivial (fun hHeld => ?_)
                 clear hK K
                 refine norm_ (a' := ?_) ?_ ?_
                 rotate_left
                 ·show Act.put _ (some 50) _ = _
                  simp only [Act.put, List.setIfInBounds_toArray, List.set_cons_zero, List.set_cons_succ, i64_w, i32_w]
                  rfl
                 refine one_ (i := 4) (N := some 48) (bz 13 1919) rfl rfl (one_of HT_.out (by kernel_rfl)) (by decide) (fun K hK => ?_)
                 refine Kd.R_append_rows_step (Kd.int .u8) (w0 := w) w.heap.size (by rfl) (.tmp 44) (.tmp 47) 29 5 (.int .u8 0) 1 rfl Tryd.underlying29 info5 rfl (by decide) (by omega) v219 y218 (xcv.take ((ji19) : Int).toNat) _ _ _ (fun k_ => some k_ ≠ (v226 : Value).ownBlock) (fun _ => False) rfl rfl ?aO ?aR (fun _ _ h => h) (fun _ h => h.elim) ?aF ?aB ?aS ?aL ?_
                 (case aR => first | (rw [← show (xcv.take ((ji19) : Int).toNat).length = (ji19).toNat from (by rw [List.length_take]; have h_ : ((ji19) : Int) ≤ (xcv.length : Int) := of_decide_eq_true (by first | (with_reducible assumption) | assumption); omega)]; (try rw [take_len_]); repeat (first | exact (Kd.C_below HR221.out HB.out) | (with_reducible refine Kd.C_alloc ?_ _) | (with_reducible refine Kd.C_drewN ?_ _) | (with_reducible refine Kd.C_drew ?_))) | (repeat (first | exact (Kd.C_below HR221.out HB.out) | (with_reducible refine Kd.C_alloc ?_ _) | (with_reducible refine Kd.C_drewN ?_ _) | (with_reducible refine Kd.C_drew ?_))))
                 (case aB => exact (by repeat (first | (with_reducible first | exact HB.out | apply below_alloc | apply pw_below_drewN | apply below_drew1) | exact HB.out)))
                 (case aF => exact (fun k_ hk => Kd.fresh' (Kd.R_lt (by (with_reducible repeat (first | apply Kd.R_alloc | apply Kd.R_drewN | apply Kd.R_drew)); exact HO227.out)) k_ hk))
                 (case aO => exact (by (with_reducible repeat (first | apply Kd.R_alloc | apply Kd.R_drewN | apply Kd.R_drew)); exact Kd.R_mono HO220.out (fun _ hk => hk.2)))
                 (case aS => exact (below_size (by repeat (first | (with_reducible first | exact HB.out | apply below_alloc | apply pw_below_drewN | apply below_drew1) | exact HB.out))))
                 (case aL => have := LMc22.out; have hlx_ := (show (xcv.take ((ji19) : Int).toNat).length = (ji19).toNat from (by rw [List.length_take]; have h_ : ((ji19) : Int) ≤ (xcv.length : Int) := of_decide_eq_true (by first | (with_reducible assumption) | assumption); omega)); omega)
                 intro v223 w42 ho hb hg hat
                 rw [← Ny222.out] at ho
                 have n0_ := Aside0.mk (Kd.R_over' (by (with_reducible repeat (first | apply Kd.R_alloc | apply Kd.R_drewN | apply Kd.R_drew)); exact HO216.out) (Kd.R_typed (by (with_reducible repeat (first | apply Kd.R_alloc | apply Kd.R_drewN | apply Kd.R_drew)); exact HO220.out)) (by decide) hg)
                 have n1_ := Aside0.mk (Kd.R_after (ok := (fun _ => True)) (by (with_reducible repeat (first | apply Kd.R_alloc | apply Kd.R_drewN | apply Kd.R_drew)); exact HO227.out) hg hat)
                 have n2_ := Aside0.mk (hb)
                 have n3_ := Aside0.mk (ho)
                 clear HO216
                 clear HO227
                 clear HB
                 clear HO220
                 have HO216 := n0_
                 have HO227 := n1_
                 have HB := n2_
                 have HO224 := n3_
                 clear n0_ n1_ n2_ n3_
                 clear ho hb hg hat
                 refine hK.out _ _ trivial (fun hHeld => ?_)
                 clear hK K
                 refine norm_ (a' := ?_) ?_ ?_
                 rotate_left
                 ·show Act.put _ (some 48) _ = _
                  simp only [Act.put, List.setIfInBounds_toArray, List.set_cons_zero, List.set_cons_succ, i64_w, i32_w]
                  rfl
                 exact norm_ (by simp only [putAll, Act.put, List.setIfInBounds_toArray, List.set_cons_zero, List.set_cons_succ]) (hCont (v219, v223, v226) _ ⟨(by (with_reducible repeat (first | apply Kd.R_alloc | apply Kd.R_drewN | apply Kd.R_drew)); exact HO216.out), (by (with_reducible repeat (first | apply Kd.R_alloc | apply Kd.R_drewN | apply Kd.R_drew)); exact HO224.out), (by (with_reducible repeat (first | apply Kd.R_alloc | apply Kd.R_drewN | apply Kd.R_drew)); exact Kd.R_mono HO227.out (fun _ hk => hk.2)), (by repeat (first | (with_reducible first | exact HB.out | apply below_alloc | apply pw_below_drewN | apply below_drew1) | exact HB.out))⟩)
               ·skip
                refine Kd.R_lit_step (Kd.int .u8) _ 5 ?hg (N := 50) ?hd (xs := ([a3] : List Int)) (inner := [.int .u8 a3]) (ok := fun _ => True) (okp := fun _ => True) ?hr ?hp (fun _ hk => hk) trivial (Below.refl _ _) (Nat.le_refl _) (by simp) ?_; (case hd => rfl); (case hg => rfl); (case hr => first | (go_simp; done) | (go_simp; rfl)); (case hp => exact (Reps.one (show Kd.M (Kd.int .u8) _ _ _ a3 [.int .u8 a3] from rfl) (Reps.none _ _)))
                intro v226 w38 ho39 hb hg_ hnew_
                clear hg_ hnew_
                (first | rw [← Ny225.out] at ho39 | (simp only [Int.reduceToNat] at ho39; rw [← Ny225.out] at ho39))
                have n0_ := Aside0.mk (Kd.R_below (by (with_reducible repeat (first | apply Kd.R_alloc | apply Kd.R_drewN | apply Kd.R_drew)); exact HO216.out) hb)
                have n1_ := Aside0.mk (Kd.R_lower ho39 (below_size (by repeat (first | (with_reducible first | exact HB.out | apply below_alloc | apply pw_below_drewN | apply below_drew1) | exact HB.out))))
                have n2_ := Aside0.mk (below_step (by repeat (first | (with_reducible first | exact HB.out | apply below_alloc | apply pw_below_drewN | apply below_drew1) | exact HB.out)) hb)
                clear HO216
                clear HB
                have HO216 := n0_
                have HO227 := n1_
                have HB := n2_
                clear n0_ n1_ n2_
                clear hb ho39
                refine hK.out _ _ trivial (fun hHeld => ?_)
                clear hK K
                refine norm_ (a' := ?_) ?_ ?_
                rotate_left
                ·show Act.put _ (some 50) _ = _
                 simp only [Act.put, List.setIfInBounds_toArray, List.set_cons_zero, List.set_cons_succ, i64_w, i32_w]
                 rfl
                refine one_ (i := 0) (N := some 44) (bz 13 1903) rfl rfl (one_of HT_.out (by kernel_rfl)) (by decide) (fun K hK => ?_)
                refine Kd.R_lit_step (Kd.int .u8) _ 5 ?hg (N := 44) ?hd (xs := ([] : List Int)) (inner := []) (ok := fun _ => True) (okp := fun _ => True) ?hr ?hp (fun _ hk => hk) trivial (Below.refl _ _) (Nat.le_refl _) (by simp) ?_; (case hd => rfl); (case hg => rfl); (case hr => first | (go_simp; done) | (go_simp; rfl)); (case hp => exact (Reps.none _ _))
                intro v219 w40 ho41 hb hg_ hnew_
                clear hg_ hnew_
                (first | rw [← Ny218.out] at ho41 | (simp only [Int.reduceToNat] at ho41; rw [← Ny218.out] at ho41))
                have n0_ := Aside0.mk (Kd.R_below (by (with_reducible repeat (first | apply Kd.R_alloc | apply Kd.R_drewN | apply Kd.R_drew)); exact HO216.out) hb)
                have n1_ := Aside0.mk (Kd.R_elder' (by (with_reducible repeat (first | apply Kd.R_alloc | apply Kd.R_drewN | apply Kd.R_drew)); exact HO227.out) (Kd.R_base ho41) hb)
                have n2_ := Aside0.mk (Kd.R_lower (Kd.R_new' ho41 (Kd.R_lt (by (with_reducible repeat (first | apply Kd.R_alloc | apply Kd.R_drewN | apply Kd.R_drew)); exact HO227.out))) (below_size (by repeat (first | (with_reducible first | exact HB.out | apply below_alloc | apply pw_below_drewN | apply below_drew1) | exact HB.out))))
                have n3_ := Aside0.mk (below_step (by repeat (first | (with_reducible first | exact HB.out | apply below_alloc | apply pw_below_drewN | apply below_drew1) | exact HB.out)) hb)
                clear HO216
                clear HO227
                clear HB
                have HO216 := n0_
                have HO227 := n1_
                have HO220 := n2_
                have HB := n3_
                clear n0_ n1_ n2_ n3_
                clear hb ho41
                refine hK.out _ _ trivial (fun hHeld => ?_)
                clear hK K
                refine norm_ (a' := ?_) ?_ ?_
                rotate_left
                ·show Act.put _ (some 44) _ = _
                 simp only [Act.put, List.setIfInBounds_toArray, List.set_cons_zero, List.set_cons_succ, i64_w, i32_w]
                 rfl
                refine one_ (i := 4) (N := some 48) (bz 13 1919) rfl rfl (one_of HT_.out (by kernel_rfl)) (by decide) (fun K hK => ?_)
                refine Kd.R_append_rows_step (Kd.int .u8) (w0 := w) w.heap.size (by rfl) (.tmp 44) (.tmp 47) 29 5 (.int .u8 0) 1 rfl Tryd.underlying29 info5 rfl (by decide) (by omega) v219 y218 (xcv.take ((ji19) : Int).toNat) _ _ _ (fun k_ => some k_ ≠ (v226 : Value).ownBlock) (fun _ => False) rfl rfl ?aO ?aR (fun _ _ h => h) (fun _ h => h.elim) ?aF ?aB ?aS ?aL ?_
                (case aR => first | (rw [← show (xcv.take ((ji19) : Int).toNat).length = (ji19).toNat from (by rw [List.length_take]; have h_ : ((ji19) : Int) ≤ (xcv.length : Int) := of_decide_eq_true (by first | (with_reducible assumption) | assumption); omega)]; (try rw [take_len_]); repeat (first | exact (Kd.C_below HR221.out HB.out) | (with_reducible refine Kd.C_alloc ?_ _) | (with_reducible refine Kd.C_drewN ?_ _) | (with_reducible refine Kd.C_drew ?_))) | (repeat (first | exact (Kd.C_below HR221.out HB.out) | (with_reducible refine Kd.C_alloc ?_ _) | (with_reducible refine Kd.C_drewN ?_ _) | (with_reducible refine Kd.C_drew ?_))))
                (case aB => exact (by repeat (first | (with_reducible first | exact HB.out | apply below_alloc | apply pw_below_drewN | apply below_drew1) | exact HB.out)))
                (case aF => exact (fun k_ hk => Kd.fresh' (Kd.R_lt (by (with_reducible repeat (first | apply Kd.R_alloc | apply Kd.R_drewN | apply Kd.R_drew)); exact HO227.out)) k_ hk))
                (case aO => exact (by (with_reducible repeat (first | apply Kd.R_alloc | apply Kd.R_drewN | apply Kd.R_drew)); exact Kd.R_mono HO220.out (fun _ hk => hk.2)))
                (case aS => exact (below_size (by repeat (first | (with_reducible first | exact HB.out | apply below_alloc | apply pw_below_drewN | apply below_drew1) | exact HB.out))))
                (case aL => have := LMc22.out; have hlx_ := (show (xcv.take ((ji19) : Int).toNat).length = (ji19).toNat from (by rw [List.length_take]; have h_ : ((ji19) : Int) ≤ (xcv.length : Int) := of_decide_eq_true (by first | (with_reducible assumption) | assumption); omega)); omega)
                intro v223 w42 ho hb hg hat
                rw [← Ny222.out] at ho
                have n0_ := Aside0.mk (Kd.R_over' (by (with_reducible repeat (first | apply Kd.R_alloc | apply Kd.R_drewN | apply Kd.R_drew)); exact HO216.out) (Kd.R_typed (by (with_reducible repeat (first | apply Kd.R_alloc | apply Kd.R_drewN | apply Kd.R_drew)); exact HO220.out)) (by decide) hg)
                have n1_ := Aside0.mk (Kd.R_after (ok := (fun _ => True)) (by (with_reducible repeat (first | apply Kd.R_alloc | apply Kd.R_drewN | apply Kd.R_drew)); exact HO227.out) hg hat)
                have n2_ := Aside0.mk (hb)
                have n3_ := Aside0.mk (ho)
                clear HO216
                clear HO227
                clear HB
                clear HO220
                have HO216 := n0_
                have HO227 := n1_
                have HB := n2_
                have HO224 := n3_
                clear n0_ n1_ n2_ n3_
                clear ho hb hg hat
                refine hK.out _ _ trivial (fun hHeld => ?_)
                clear hK K
                refine norm_ (a' := ?_) ?_ ?_
                rotate_left
                ·show Act.put _ (some 48) _ = _
                 simp only [Act.put, List.setIfInBounds_toArray, List.set_cons_zero, List.set_cons_succ, i64_w, i32_w]
                 rfl
                exact norm_ (by simp only [putAll, Act.put, List.setIfInBounds_toArray, List.set_cons_zero, List.set_cons_succ]) (hCont (v219, v223, v226) _ ⟨(by (with_reducible repeat (first | apply Kd.R_alloc | apply Kd.R_drewN | apply Kd.R_drew)); exact HO216.out), (by (with_reducible repeat (first | apply Kd.R_alloc | apply Kd.R_drewN | apply Kd.R_drew)); exact HO224.out), (by (with_reducible repeat (first | apply Kd.R_alloc | apply Kd.R_drewN | apply Kd.R_drew)); exact Kd.R_mono HO227.out (fun _ hk => hk.2)), (by repeat (first | (with_reducible first | exact HB.out | apply below_alloc | apply pw_below_drewN | apply below_drew1) | exact HB.out))⟩)
              rintro ⟨v219, v223, v226⟩ w43 ⟨h0_, h1_, h2_, h3_⟩
              have n0_ : Aside0 (Kd.R k39 39 w43 bo (fun _ => True) (.slice Ao174 t214.length co174) t214) := ⟨h0_⟩
              have n1_ : Aside0 (Kd.R (Kd.int .u8) 5 w43 w.heap.size (fun k_ => some k_ ≠ (v226 : Value).ownBlock) v223 y222) := ⟨h1_⟩
              have n2_ : Aside0 (Kd.R (Kd.int .u8) 5 w43 w.heap.size (fun k_ => some k_ ≠ (v223 : Value).ownBlock) v226 y225) := ⟨h2_⟩
              have n3_ : Aside0 (Below w.heap.size w w43) := ⟨h3_⟩
              clear HO216
              clear HB
              clear h0_ h1_ h2_ h3_
              have HO216 := n0_
              have HO224 := n1_
              have HO227 := n2_
              have HB := n3_
              clear n0_ n1_ n2_ n3_
              have hHeld := trivial
              obtain ⟨Ao174, co174, eo45⟩ := Kd.R_slice HO227.out
              (first | subst eo45 | (injection eo45 with f1_ f2_ f3_; have f4_ := f1_.symm; have f5_ := f3_.symm; clear f1_ f2_ f3_; subst f4_; subst f5_))
              refine norm_ (a' := ?_) ?_ ?_
              rotate_left
              ·simp only [putAll, Act.put, List.setIfInBounds_toArray, List.set_cons_zero, List.set_cons_succ]
               rfl
              refine one_ (i := 7) (N := some 51) (bz 13 2047) rfl rfl (one_of HT_.out (by kernel_rfl)) (by decide) (fun K hK => ?_)
              refine Kd.R_append_rows_step (Kd.int .u8) (w0 := w) w.heap.size (by rfl) (.tmp 48) (.tmp 50) 29 5 (.int .u8 0) 1 rfl Tryd.underlying29 info5 rfl (by decide) (by omega) v223 y222 y225 _ _ _ (fun k_ => some k_ ≠ (.slice Ao174 y225.length co174 : Value).ownBlock) (fun _ => False) rfl rfl ?aO ?aR (fun _ _ h => h) (fun _ h => h.elim) ?aF ?aB ?aS ?aL ?_
              (case aR => repeat (first | exact (Kd.R_reads' HO227.out).2.2 | (with_reducible refine Kd.C_alloc ?_ _) | (with_reducible refine Kd.C_drewN ?_ _) | (with_reducible refine Kd.C_drew ?_)))
              (case aB => exact (by repeat (first | (with_reducible first | exact HB.out | apply below_alloc | apply pw_below_drewN | apply below_drew1) | exact HB.out)))
              (case aF => exact (fun k_ hk => Kd.fresh' (Kd.R_lt (by (with_reducible repeat (first | apply Kd.R_alloc | apply Kd.R_drewN | apply Kd.R_drew)); exact HO227.out)) k_ hk))
              (case aO => exact (by (with_reducible repeat (first | apply Kd.R_alloc | apply Kd.R_drewN | apply Kd.R_drew)); exact HO224.out))
              (case aS => exact (below_size (by repeat (first | (with_reducible first | exact HB.out | apply below_alloc | apply pw_below_drewN | apply below_drew1) | exact HB.out))))
              (case aL => have := LMc23.out; omega)
              intro v229 w44 ho hb hg hat
              rw [← Ny228.out] at ho
              have n0_ := Aside0.mk (Kd.R_over' (by (with_reducible repeat (first | apply Kd.R_alloc | apply Kd.R_drewN | apply Kd.R_drew)); exact HO216.out) (Kd.R_typed (by (with_reducible repeat (first | apply Kd.R_alloc | apply Kd.R_drewN | apply Kd.R_drew)); exact HO224.out)) (by decide) hg)
              have n1_ := Aside0.mk (Kd.R_after (ok := (fun _ => True)) (by (with_reducible repeat (first | apply Kd.R_alloc | apply Kd.R_drewN | apply Kd.R_drew)); exact Kd.R_mono HO227.out (fun _ hk => ⟨trivial, hk⟩)) hg hat)
              have n2_ := Aside0.mk (hb)
              have n3_ := Aside0.mk (ho)
              clear HO216
              clear HO227
              clear HB
              clear HO224
              have HO216 := n0_
              have HO227 := n1_
              have HB := n2_
              have HO230 := n3_
              clear n0_ n1_ n2_ n3_
              clear ho hb hg hat
              refine hK.out _ _ trivial (fun hHeld => ?_)
              clear hK K
              refine norm_ (a' := ?_) ?_ ?_
              rotate_left
              ·show Act.put _ (some 51) _ = _
               simp only [Act.put, List.setIfInBounds_toArray, List.set_cons_zero, List.set_cons_succ, i64_w, i32_w]
               rfl
              refine one_ (i := 11) (N := some 55) (bz 13 4095) rfl rfl (one_of HT_.out (by kernel_rfl)) (by decide) (fun K hK => ?_)
              refine Kd.R_append_rows_step (Kd.int .u8) (w0 := w) w.heap.size (by rfl) (.tmp 51) (.tmp 54) 29 5 (.int .u8 0) 1 rfl Tryd.underlying29 info5 rfl (by decide) (by omega) v229 y228 (xcv.drop ((ji19) : Int).toNat) _ _ _ (fun k_ => some k_ ≠ (.slice Ao174 y225.length co174 : Value).ownBlock) (fun _ => False) rfl rfl ?aO ?aR (fun _ _ h => h) (fun _ h => h.elim) ?aF ?aB ?aS ?aL ?_
              (case aR => first | (rw [← show (xcv.drop ((ji19) : Int).toNat).length = (xcv.length - (ji19).toNat) from List.length_drop]; repeat (first | exact (Kd.C_below HR231.out HB.out) | (with_reducible refine Kd.C_alloc ?_ _) | (with_reducible refine Kd.C_drewN ?_ _) | (with_reducible refine Kd.C_drew ?_))) | (repeat (first | exact (Kd.C_below HR231.out HB.out) | (with_reducible refine Kd.C_alloc ?_ _) | (with_reducible refine Kd.C_drewN ?_ _) | (with_reducible refine Kd.C_drew ?_))))
              (case aB => exact (by repeat (first | (with_reducible first | exact HB.out | apply below_alloc | apply pw_below_drewN | apply below_drew1) | exact HB.out)))
              (case aF => exact (fun k_ hk => Kd.fresh' (Kd.R_lt (by (with_reducible repeat (first | apply Kd.R_alloc | apply Kd.R_drewN | apply Kd.R_drew)); exact HO227.out)) k_ hk))
              (case aO => exact (by (with_reducible repeat (first | apply Kd.R_alloc | apply Kd.R_drewN | apply Kd.R_drew)); exact HO230.out))
              (case aS => exact (below_size (by repeat (first | (with_reducible first | exact HB.out | apply below_alloc | apply pw_below_drewN | apply below_drew1) | exact HB.out))))
              (case aL => have := LMc26.out; have hlx_ := (show (xcv.drop ((ji19) : Int).toNat).length = (xcv.length - (ji19).toNat) from List.length_drop); omega)
              intro v233 w46 ho hb hg hat
              rw [← Ny232.out] at ho
              have n0_ := Aside0.mk (Kd.R_over' (by (with_reducible repeat (first | apply Kd.R_alloc | apply Kd.R_drewN | apply Kd.R_drew)); exact HO216.out) (Kd.R_typed (by (with_reducible repeat (first | apply Kd.R_alloc | apply Kd.R_drewN | apply Kd.R_drew)); exact HO230.out)) (by decide) hg)
              have n1_ := Aside0.mk (Kd.R_after (ok := (fun _ => True)) (by (with_reducible repeat (first | apply Kd.R_alloc | apply Kd.R_drewN | apply Kd.R_drew)); exact HO227.out) hg hat)
              have n2_ := Aside0.mk (hb)
              have n3_ := Aside0.mk (ho)
              clear HO216
              clear HO227
              clear HB
              clear HO230
              have HO216 := n0_
              have HO227 := n1_
              have HB := n2_
              have HO234 := n3_
              clear n0_ n1_ n2_ n3_
              clear ho hb hg hat
              refine hK.out _ _ trivial (fun hHeld => ?_)
              clear hK K
              refine norm_ (a' := ?_) ?_ ?_
              rotate_left
              ·show Act.put _ (some 55) _ = _
               simp only [Act.put, List.setIfInBounds_toArray, List.set_cons_zero, List.set_cons_succ, i64_w, i32_w]
               rfl
              refine pure_ (i := 12) (N := some 11) (v := ?_) (a' := ?_) (bz 13 8191) rfl rfl (any_of HT_.out (by kernel_rfl)) (fun _ _ _ h => h) (Or.inl ⟨by rfl, ?_⟩) ?_ ?_
              rotate_left
              ·intro w'
               go_simp
               with_reducible rfl
              rotate_left
              ·simp only [Act.put, List.setIfInBounds_toArray, List.set_cons_zero, List.set_cons_succ, i64_w, i32_w]
               rfl
              refine done_ (done_of HT_.out (by kernel_rfl)) ?_
              try go_wp2_with (first | ((with_reducible refine gate_callee (f := 13) rfl ?_); refine goesL_ (some 68) rfl rfl Tryd.func13 (by kernel_rfl) rfl #[] rfl (by (try simp only [List.map_toArray, List.map_cons, List.map_nil]); first | done | rfl | (simp only [List.length_drop, List.length_take]; rfl)) ?_; (with_reducible refine (insolvencylaw25_awake.calls k  true _ ?side1 A27.out).mono ?_); (case side1 => exact LaidW.below HLd.out (by repeat (first | (with_reducible first | exact HB.out | apply below_alloc | apply pw_below_drewN | apply below_drew1) | exact HB.out))); rintro e w47 ⟨rfl, hb⟩; refine ⟨_, rfl, ?_⟩; have n0_ := Aside0.mk (Kd.R_below (by (with_reducible repeat (first | apply Kd.R_alloc | apply Kd.R_drewN | apply Kd.R_drew)); exact HO216.out) hb); have n1_ := Aside0.mk (Kd.R_below (by (with_reducible repeat (first | apply Kd.R_alloc | apply Kd.R_drewN | apply Kd.R_drew)); exact HO227.out) hb); have n2_ := Aside0.mk (Kd.R_below (by (with_reducible repeat (first | apply Kd.R_alloc | apply Kd.R_drewN | apply Kd.R_drew)); exact HO234.out) hb); have n3_ := Aside0.mk (below_step (by repeat (first | (with_reducible first | exact HB.out | apply below_alloc | apply pw_below_drewN | apply below_drew1) | exact HB.out)) hb); clear HO216; clear HO227; clear HO234; clear HB; have HO216 := n0_; have HO227 := n1_; have HO234 := n2_; have HB := n3_; clear n0_ n1_ n2_ n3_; (try clear hb); (try clear hb2); (try clear hk); (try clear hi)) | (go_at_call 17; (with_reducible refine (insolvencylaw25_same.calls k a0 true _ ?side1 A29.out).mono ?_); (case side1 => exact LaidW.below HLd.out (by repeat (first | (with_reducible first | exact HB.out | apply below_alloc | apply pw_below_drewN | apply below_drew1) | exact HB.out))); rintro e w48 ⟨rfl, hb⟩; have n0_ := Aside0.mk (Kd.R_below (by (with_reducible repeat (first | apply Kd.R_alloc | apply Kd.R_drewN | apply Kd.R_drew)); exact HO216.out) hb); have n1_ := Aside0.mk (Kd.R_below (by (with_reducible repeat (first | apply Kd.R_alloc | apply Kd.R_drewN | apply Kd.R_drew)); exact HO227.out) hb); have n2_ := Aside0.mk (Kd.R_below (by (with_reducible repeat (first | apply Kd.R_alloc | apply Kd.R_drewN | apply Kd.R_drew)); exact HO234.out) hb); have n3_ := Aside0.mk (below_step (by repeat (first | (with_reducible first | exact HB.out | apply below_alloc | apply pw_below_drewN | apply below_drew1) | exact HB.out)) hb); clear HO216; clear HO227; clear HO234; clear HB; have HO216 := n0_; have HO227 := n1_; have HO234 := n2_; have HB := n3_; clear n0_ n1_ n2_ n3_; (try clear hb); (try clear hb2); (try clear hk); (try clear hi); have hcv49 := own_string (P := Tryd.prog) Tryd.underlying29 Tryd.underlying5 Tryd.underlying9 (Kd.own_of_R HO234.out)) | (go_at_call 17; (with_reducible refine (insolvencylaw25_same.calls k (strOfNums y232) t237 _ ?side1 A31.out).mono ?_); (case side1 => exact LaidW.below HLd.out (by repeat (first | (with_reducible first | exact HB.out | apply below_alloc | apply pw_below_drewN | apply below_drew1) | exact HB.out))); rintro e w50 ⟨rfl, hb⟩; have n0_ := Aside0.mk (Kd.R_below (by (with_reducible repeat (first | apply Kd.R_alloc | apply Kd.R_drewN | apply Kd.R_drew)); exact HO216.out) hb); have n1_ := Aside0.mk (Kd.R_below (by (with_reducible repeat (first | apply Kd.R_alloc | apply Kd.R_drewN | apply Kd.R_drew)); exact HO227.out) hb); have n2_ := Aside0.mk (Kd.R_below (by (with_reducible repeat (first | apply Kd.R_alloc | apply Kd.R_drewN | apply Kd.R_drew)); exact HO234.out) hb); have n3_ := Aside0.mk (below_step (by repeat (first | (with_reducible first | exact HB.out | apply below_alloc | apply pw_below_drewN | apply below_drew1) | exact HB.out)) hb); clear HO216; clear HO227; clear HO234; clear HB; have HO216 := n0_; have HO227 := n1_; have HO234 := n2_; have HB := n3_; clear n0_ n1_ n2_ n3_; (try clear hb); (try clear hb2); (try clear hk); (try clear hi)))
              go_ret
              exact ⟨by first | rfl | (simp [errW_none, errW_some] <;> rfl) | (simp only [← hji19]; first | rfl | (simp [errW_none, errW_some] <;> rfl)) | (simp [*, errW_none, errW_some] <;> rfl), below_step HBo.out (by repeat (first | (with_reducible first | exact HB.out | apply below_alloc | apply pw_below_drewN | apply below_drew1) | exact HB.out))⟩
             ·replace c30 := Bool.eq_false_iff.mpr c30
              subst c30
              have H1 : (some false) = some r := by rw [if_neg (show ¬ (false = true) by decide)] at H; exact H
              clear H
              have H := H1
              clear H1
              obtain rfl := Option.some.inj H
              try go_wp2_with (first | ((with_reducible refine gate_callee (f := 14) rfl ?_); refine goesL_ (some 23) rfl rfl Tryd.func14 (by kernel_rfl) rfl #[.slice A1 l1.length c1, .int .i64 4, .int .i64 20] rfl (by (try simp only [List.map_toArray, List.map_cons, List.map_nil]); first | done | rfl | (simp only [List.length_drop, List.length_take]; rfl)) ?_; (with_reducible refine (insolvencylaw0_Rows.calls _ _ l1 4 20 t214 _ ?side1 ?side2 A12.out).mono ?_); (case side1 => repeat (first | exact HR1.out | (with_reducible refine Kd.C_alloc ?_ _) | (with_reducible refine Kd.C_drewN ?_ _) | (with_reducible refine Kd.C_drew ?_))); (case side2 => exact HC1.out); rintro e w51 ⟨v215, rfl, ho0, hb⟩; refine ⟨_, rfl, ?_⟩; have n0_ := Aside0.mk (Kd.R_lower ho0 (below_size (by repeat (first | (with_reducible first | exact HB.out | apply below_alloc | apply pw_below_drewN | apply below_drew1) | exact HB.out)))); have n1_ := Aside0.mk (below_step (by repeat (first | (with_reducible first | exact HB.out | apply below_alloc | apply pw_below_drewN | apply below_drew1) | exact HB.out)) hb); clear HB; have HO216 := n0_; have HB := n1_; clear n0_ n1_; (try clear hb); (try clear hb2); (try clear hk); (try clear hi); (try clear ho0); obtain ⟨Ao174, co174, eo52⟩ := Kd.R_slice HO216.out; subst eo52) | ((with_reducible refine gate_callee (f := 16) rfl ?_); refine goesL_ (some 24) rfl rfl Tryd.func16 (by kernel_rfl) rfl #[.slice Ao174 t214.length co174] rfl (by (try simp only [List.map_toArray, List.map_cons, List.map_nil]); first | done | rfl | (simp only [List.length_drop, List.length_take]; rfl)) ?_; (with_reducible refine (insolvencyref25_Format.calls k _ _ t214 t217 _ ?side1 ?side2 A13.out).mono ?_); (case side1 => repeat (first | exact (Kd.R_reads' HO216.out).2.2 | (with_reducible refine Kd.C_alloc ?_ _) | (with_reducible refine Kd.C_drewN ?_ _) | (with_reducible refine Kd.C_drew ?_))); (case side2 => exact (Kd.R_reads' HO216.out).2.1); rintro e w53 ⟨rfl, hb⟩; refine ⟨_, rfl, ?_⟩; have n0_ := Aside0.mk (Kd.R_below (by (with_reducible repeat (first | apply Kd.R_alloc | apply Kd.R_drewN | apply Kd.R_drew)); exact HO216.out) hb); have n1_ := Aside0.mk (below_step (by repeat (first | (with_reducible first | exact HB.out | apply below_alloc | apply pw_below_drewN | apply below_drew1) | exact HB.out)) hb); clear HO216; clear HB; have HO216 := n0_; have HB := n1_; clear n0_ n1_; (try clear hb); (try clear hb2); (try clear hk); (try clear hi)))
              have n0_ := Aside0.mk (Kd.R_drew HO216.out)
              have n1_ := Aside0.mk (below_drew1 HB.out)
              clear HO216
              clear HB
              have HO216 := n0_
              have HB := n1_
              clear n0_ n1_
              obtain ⟨i055, hi055, _, hsz55, _⟩ := info_parts info5
              obtain ⟨hcut55, hA55, hC55⟩ := print_take_of (P := Tryd.prog) (Value.int .u8) 0 29 5 .i64 Tryd.underlying29 hi055 hsz55 Acv ccv xcv (ji19) (of_decide_eq_true (by first | (with_reducible assumption) | assumption)) (of_decide_eq_true (by first | (with_reducible assumption) | assumption)) HCcv.out
              have HR221 := Aside0.mk (Kd.C_of_reads (h1 := fun _ => rfl) (hA55 _ (Kd.reads_of_C HRcv.out)))
              have HC221 := Aside0.mk hC55
              clear hA55 hC55 hi055 hsz55
              obtain ⟨i056, hi056, _, hsz56, _⟩ := info_parts info5
              obtain ⟨A56, hcut56, hA56, hC56⟩ := print_drop_of (P := Tryd.prog) (Value.int .u8) 0 29 5 .i64 Tryd.underlying29 hi056 hsz56 Acv ccv xcv (ji19) (of_decide_eq_true (by first | (with_reducible assumption) | assumption)) (of_decide_eq_true (by first | (with_reducible assumption) | assumption)) HCcv.out
              have HR231 := Aside0.mk (Kd.C_of_reads (h1 := fun _ => rfl) (hA56 _ (Kd.reads_of_C HRcv.out)))
              have HC231 := Aside0.mk hC56
              clear hA56 hC56 hi056 hsz56
              refine start_ (n := 13) (S := fun w' => True) (ds := []) (bz 13 0) (by kernel_rfl) rfl rfl trivial (fun hHeld => ?_); refine with_tabW insolvencylaw25_HistoryParse.tab10 insolvencylaw25_HistoryParse.bits10 (fun HT_ HW_ => ?_)
              generalize w.drew = w54 at HO216 HB HR221 HR231 hHeld ⊢
              refine pure_ (i := 1) (N := some 45) (v := ?_) (a' := ?_) (bz 13 2) rfl rfl (any_of HT_.out (by kernel_rfl)) (fun _ _ _ h => h) (Or.inl ⟨by rfl, ?_⟩) ?_ ?_
              rotate_left
              ·intro w'
               go_simp
               with_reducible rfl
              rotate_left
              ·simp only [Act.put, List.setIfInBounds_toArray, List.set_cons_zero, List.set_cons_succ, i64_w, i32_w]
               rfl
              refine pure_ (i := 2) (N := some 46) (v := ?_) (a' := ?_) (bz 13 6) rfl rfl (any_of HT_.out (by kernel_rfl)) (fun _ _ _ h => h) (Or.inl ⟨by rfl, ?_⟩) ?_ ?_
              rotate_left
              ·intro w'
               go_simp
               with_reducible rfl
              rotate_left
              ·simp only [Act.put, List.setIfInBounds_toArray, List.set_cons_zero, List.set_cons_succ, i64_w, i32_w]
               rfl
              refine pure_ (i := 3) (N := some 47) (v := ?_) (a' := ?_) (bz 13 14) rfl rfl (any_of HT_.out (by kernel_rfl)) (fun _ _ _ h => h) (Or.inl ⟨by rfl, ?_⟩) ?_ ?_
              rotate_left
              ·intro w'
               go_simp
               with_reducible rfl
              rotate_left
              ·simp only [Act.put, List.setIfInBounds_toArray, List.set_cons_zero, List.set_cons_succ, i64_w, i32_w]
               rfl
              refine pure_ (i := 5) (N := some 49) (v := ?_) (a' := ?_) (bz 13 46) rfl rfl (any_of HT_.out (by kernel_rfl)) (fun _ _ _ h => h) (Or.inl ⟨by rfl, ?_⟩) ?_ ?_
              rotate_left
              ·intro w'
               go_simp
               with_reducible rfl
              rotate_left
              ·simp only [Act.put, List.setIfInBounds_toArray, List.set_cons_zero, List.set_cons_succ, i64_w, i32_w]
               rfl
              refine pure_ (i := 8) (N := some 52) (v := ?_) (a' := ?_) (bz 13 302) rfl rfl (any_of HT_.out (by kernel_rfl)) (fun _ _ _ h => h) (Or.inl ⟨by rfl, ?_⟩) ?_ ?_
              rotate_left
              ·intro w'
               go_simp
               with_reducible rfl
              rotate_left
              ·simp only [Act.put, List.setIfInBounds_toArray, List.set_cons_zero, List.set_cons_succ, i64_w, i32_w]
               rfl
              refine pure_ (i := 9) (N := some 53) (v := ?_) (a' := ?_) (bz 13 814) rfl rfl (any_of HT_.out (by kernel_rfl)) (fun _ _ _ h => h) (Or.inl ⟨by rfl, ?_⟩) ?_ ?_
              rotate_left
              ·intro w'
               go_simp
               with_reducible rfl
              rotate_left
              ·simp only [Act.put, List.setIfInBounds_toArray, List.set_cons_zero, List.set_cons_succ, i64_w, i32_w]
               rfl
              refine pure_ (i := 10) (N := some 54) (v := ?_) (a' := ?_) (bz 13 1838) rfl rfl (any_of HT_.out (by kernel_rfl)) (fun _ _ _ h => h) (Or.inl ⟨by rfl, ?_⟩) ?_ ?_
              rotate_left
              ·intro w'
               go_simp
               with_reducible rfl
              rotate_left
              ·simp only [Act.put, List.setIfInBounds_toArray, List.set_cons_zero, List.set_cons_succ, i64_w, i32_w]
               rfl
              refine join_ (σ := Value × Value × Value) 3 (bz 13 1919) (fun s_ => [(44, s_.1), (48, s_.2.1), (50, s_.2.2)]) (fun s_ w' => (Kd.R k39 39 w' bo (fun _ => True) (.slice Ao174 t214.length co174) t214) ∧ (Kd.R (Kd.int .u8) 5 w' w.heap.size (fun k_ => some k_ ≠ (s_.2.2 : Value).ownBlock) s_.2.1 y222) ∧ (Kd.R (Kd.int .u8) 5 w' w.heap.size (fun k_ => some k_ ≠ (s_.2.1 : Value).ownBlock) s_.2.2 y225) ∧ (Below w.heap.size w w')) ?_ ?_
              rotate_left
              ·intro hCont
               refine two_ (i := 0) (j := 6) (Ni := some 44) (Nj := some 50) (bz 13 1839) (bz 13 1902) rfl rfl rfl rfl (two_of HT_.out (by kernel_rfl)) (by decide) (by decide) (fun K hK => ?_) (fun K hK => ?_)
               ·skip
                refine Kd.R_lit_step (Kd.int .u8) _ 5 ?hg (N := 44) ?hd (xs := ([] : List Int)) (inner := []) (ok := fun _ => True) (okp := fun _ => True) ?hr ?hp (fun _ hk => hk) trivial (Below.refl _ _) (Nat.le_refl _) (by simp) ?_; (case hd => rfl); (case hg => rfl); (case hr => first | (go_simp; done) | (go_simp; rfl)); (case hp => exact (Reps.none _ _))
                intro v219 w57 ho58 hb hg_ hnew_
                clear hg_ hnew_
                (first | rw [← Ny218.out] at ho58 | (simp only [Int.reduceToNat] at ho58; rw [← Ny218.out] at ho58))
                have n0_ := Aside0.mk (Kd.R_below (by (with_reducible repeat (first | apply Kd.R_alloc | apply Kd.R_drewN | apply Kd.R_drew)); exact HO216.out) hb)
                have n1_ := Aside0.mk (Kd.R_lower ho58 (below_size (by repeat (first | (with_reducible first | exact HB.out | apply below_alloc | apply pw_below_drewN | apply below_drew1) | exact HB.out))))
                have n2_ := Aside0.mk (below_step (by repeat (first | (with_reducible first | exact HB.out | apply below_alloc | apply pw_below_drewN | apply below_drew1) | exact HB.out)) hb)
                clear HO216
                clear HB
                have HO216 := n0_
                have HO220 := n1_
                have HB := n2_
                clear n0_ n1_ n2_
                clear hb ho58
                refine hK.out _ _ trivial (fun hHeld => ?_)
                clear hK K
                refine norm_ (a' := ?_) ?_ ?_
                rotate_left
                ·show Act.put _ (some 44) _ = _
                 simp only [Act.put, List.setIfInBounds_toArray, List.set_cons_zero, List.set_cons_succ, i64_w, i32_w]
                 rfl
                refine two_ (i := 4) (j := 6) (Ni := some 48) (Nj := some 50) (bz 13 1855) (bz 13 1903) rfl rfl rfl rfl (two_of HT_.out (by kernel_rfl)) (by decide) (by decide) (fun K hK => ?_) (fun K hK => ?_)
                ·skip
                 refine Kd.R_append_rows_step (Kd.int .u8) (w0 := w) w.heap.size (by rfl) (.tmp 44) (.tmp 47) 29 5 (.int .u8 0) 1 rfl Tryd.underlying29 info5 rfl (by decide) (by omega) v219 y218 (xcv.take ((ji19) : Int).toNat) _ _ _ (fun _ => True) (fun _ => False) rfl rfl ?aO ?aR (fun _ _ h => h) (fun _ h => h.elim) ?aF ?aB ?aS ?aL ?_
                 (case aR => first | (rw [← show (xcv.take ((ji19) : Int).toNat).length = (ji19).toNat from (by rw [List.length_take]; have h_ : ((ji19) : Int) ≤ (xcv.length : Int) := of_decide_eq_true (by first | (with_reducible assumption) | assumption); omega)]; (try rw [take_len_]); repeat (first | exact (Kd.C_below HR221.out HB.out) | (with_reducible refine Kd.C_alloc ?_ _) | (with_reducible refine Kd.C_drewN ?_ _) | (with_reducible refine Kd.C_drew ?_))) | (repeat (first | exact (Kd.C_below HR221.out HB.out) | (with_reducible refine Kd.C_alloc ?_ _) | (with_reducible refine Kd.C_drewN ?_ _) | (with_reducible refine Kd.C_drew ?_))))
                 (case aB => exact (by repeat (first | (with_reducible first | exact HB.out | apply below_alloc | apply pw_below_drewN | apply below_drew1) | exact HB.out)))
                 (case aF => exact (fun _ _ => trivial))
                 (case aO => exact (by (with_reducible repeat (first | apply Kd.R_alloc | apply Kd.R_drewN | apply Kd.R_drew)); exact HO220.out))
                 (case aS => exact (below_size (by repeat (first | (with_reducible first | exact HB.out | apply below_alloc | apply pw_below_drewN | apply below_drew1) | exact HB.out))))
                 (case aL => have := LMc22.out; have hlx_ := (show (xcv.take ((ji19) : Int).toNat).length = (ji19).toNat from (by rw [List.length_take]; have h_ : ((ji19) : Int) ≤ (xcv.length : Int) := of_decide_eq_true (by first | (with_reducible assumption) | assumption); omega)); omega)
                 intro v223 w59 ho hb hg hat
                 rw [← Ny222.out] at ho
                 have n0_ := Aside0.mk (Kd.R_over' (by (with_reducible repeat (first | apply Kd.R_alloc | apply Kd.R_drewN | apply Kd.R_drew)); exact HO216.out) (Kd.R_typed (by (with_reducible repeat (first | apply Kd.R_alloc | apply Kd.R_drewN | apply Kd.R_drew)); exact HO220.out)) (by decide) hg)
                 have n1_ := Aside0.mk (hb)
                 have n2_ := Aside0.mk (ho)
                 clear HO216
                 clear HB
                 clear HO220
                 have HO216 := n0_
                 have HB := n1_
                 have HO224 := n2_
                 clear n0_ n1_ n2_
                 clear ho hb hg hat
                 refine hK.out _ _ trivial (fun hHeld => ?_)
                 clear hK K
                 refine norm_ (a' := ?_) ?_ ?_
                 rotate_left
                 ·show Act.put _ (some 48) _ = _
                  simp only [Act.put, List.setIfInBounds_toArray, List.set_cons_zero, List.set_cons_succ, i64_w, i32_w]
                  rfl
                 refine one_ (i := 6) (N := some 50) (bz 13 1919) rfl rfl (one_of HT_.out (by kernel_rfl)) (by decide) (fun K hK => ?_)
                 refine Kd.R_lit_step (Kd.int .u8) _ 5 ?hg (N := 50) ?hd (xs := ([a3] : List Int)) (inner := [.int .u8 a3]) (ok := fun _ => True) (okp := fun _ => True) ?hr ?hp (fun _ hk => hk) trivial (Below.refl _ _) (Nat.le_refl _) (by simp) ?_; (case hd => rfl); (case hg => rfl); (case hr => first | (go_simp; done) | (go_simp; rfl)); (case hp => exact (Reps.one (show Kd.M (Kd.int .u8) _ _ _ a3 [.int .u8 a3] from rfl) (Reps.none _ _)))
                 intro v226 w60 ho61 hb hg_ hnew_
                 clear hg_ hnew_
                 (first | rw [← Ny225.out] at ho61 | (simp only [Int.reduceToNat] at ho61; rw [← Ny225.out] at ho61))
                 have n0_ := Aside0.mk (Kd.R_below (by (with_reducible repeat (first | apply Kd.R_alloc | apply Kd.R_drewN | apply Kd.R_drew)); exact HO216.out) hb)
                 have n1_ := Aside0.mk (Kd.R_elder' (by (with_reducible repeat (first | apply Kd.R_alloc | apply Kd.R_drewN | apply Kd.R_drew)); exact HO224.out) (Kd.R_base ho61) hb)
                 have n2_ := Aside0.mk (Kd.R_lower (Kd.R_new' ho61 (Kd.R_lt (by (with_reducible repeat (first | apply Kd.R_alloc | apply Kd.R_drewN | apply Kd.R_drew)); exact HO224.out))) (below_size (by repeat (first | (with_reducible first | exact HB.out | apply below_alloc | apply pw_below_drewN | apply below_drew1) | exact HB.out))))
                 have n3_ := Aside0.mk (below_step (by repeat (first | (with_reducible first | exact HB.out | apply below_alloc | apply pw_below_drewN | apply below_drew1) | exact HB.out)) hb)
                 clear HO216
                 clear HO224
                 clear HB
                 have HO216 := n0_
                 have HO224 := n1_
                 have HO227 := n2_
                 have HB := n3_
                 clear n0_ n1_ n2_ n3_
                 clear hb ho61
                 refine hK.out _ _ trivial (fun hHeld => ?_)
                 clear hK K
                 refine norm_ (a' := ?_) ?_ ?_
                 rotate_left
                 ·show Act.put _ (some 50) _ = _
                  simp only [Act.put, List.setIfInBounds_toArray, List.set_cons_zero, List.set_cons_succ, i64_w, i32_w]
                  rfl
                 exact norm_ (by simp only [putAll, Act.put, List.setIfInBounds_toArray, List.set_cons_zero, List.set_cons_succ]) (hCont (v219, v223, v226) _ ⟨(by (with_reducible repeat (first | apply Kd.R_alloc | apply Kd.R_drewN | apply Kd.R_drew)); exact HO216.out), (by (with_reducible repeat (first | apply Kd.R_alloc | apply Kd.R_drewN | apply Kd.R_drew)); exact Kd.R_mono HO224.out (fun _ hk => hk.2)), (by (with_reducible repeat (first | apply Kd.R_alloc | apply Kd.R_drewN | apply Kd.R_drew)); exact Kd.R_mono HO227.out (fun _ hk => hk.2)), (by repeat (first | (with_reducible first | exact HB.out | apply below_alloc | apply pw_below_drewN | apply below_drew1) | exact HB.out))⟩)
                ·skip
                 refine Kd.R_lit_step (Kd.int .u8) _ 5 ?hg (N := 50) ?hd (xs := ([a3] : List Int)) (inner := [.int .u8 a3]) (ok := fun _ => True) (okp := fun _ => True) ?hr ?hp (fun _ hk => hk) trivial (Below.refl _ _) (Nat.le_refl _) (by simp) ?_; (case hd => rfl); (case hg => rfl); (case hr => first | (go_simp; done) | (go_simp; rfl)); (case hp => exact (Reps.one (show Kd.M (Kd.int .u8) _ _ _ a3 [.int .u8 a3] from rfl) (Reps.none _ _)))
                 intro v226 w59 ho60 hb hg_ hnew_
                 clear hg_ hnew_
                 (first | rw [← Ny225.out] at ho60 | (simp only [Int.reduceToNat] at ho60; rw [← Ny225.out] at ho60))
                 have n0_ := Aside0.mk (Kd.R_below (by (with_reducible repeat (first | apply Kd.R_alloc | apply Kd.R_drewN | apply Kd.R_drew)); exact HO216.out) hb)
                 have n1_ := Aside0.mk (Kd.R_elder' (by (with_reducible repeat (first | apply Kd.R_alloc | apply Kd.R_drewN | apply Kd.R_drew)); exact HO220.out) (Kd.R_base ho60) hb)
                 have n2_ := Aside0.mk (Kd.R_lower (Kd.R_new' ho60 (Kd.R_lt (by (with_reducible repeat (first | apply Kd.R_alloc | apply Kd.R_drewN | apply Kd.R_drew)); exact HO220.out))) (below_size (by repeat (first | (with_reducible first | exact HB.out | apply below_alloc | apply pw_below_drewN | apply below_drew1) | exact HB.out))))
                 have n3_ := Aside0.mk (below_step (by repeat (first | (with_reducible first | exact HB.out | apply below_alloc | apply pw_below_drewN | apply below_drew1) | exact HB.out)) hb)
                 clear HO216
                 clear HO220
                 clear HB
                 have HO216 := n0_
                 have HO220 := n1_
                 have HO227 := n2_
                 have HB := n3_
                 clear n0_ n1_ n2_ n3_
                 clear hb ho60
                 refine hK.out _ _ trivial (fun hHeld => ?_)
                 clear hK K
                 refine norm_ (a' := ?_) ?_ ?_
                 rotate_left
                 ·show Act.put _ (some 50) _ = _
                  simp only [Act.put, List.setIfInBounds_toArray, List.set_cons_zero, List.set_cons_succ, i64_w, i32_w]
                  rfl
                 refine one_ (i := 4) (N := some 48) (bz 13 1919) rfl rfl (one_of HT_.out (by kernel_rfl)) (by decide) (fun K hK => ?_)
                 refine Kd.R_append_rows_step (Kd.int .u8) (w0 := w) w.heap.size (by rfl) (.tmp 44) (.tmp 47) 29 5 (.int .u8 0) 1 rfl Tryd.underlying29 info5 rfl (by decide) (by omega) v219 y218 (xcv.take ((ji19) : Int).toNat) _ _ _ (fun k_ => some k_ ≠ (v226 : Value).ownBlock) (fun _ => False) rfl rfl ?aO ?aR (fun _ _ h => h) (fun _ h => h.elim) ?aF ?aB ?aS ?aL ?_
                 (case aR => first | (rw [← show (xcv.take ((ji19) : Int).toNat).length = (ji19).toNat from (by rw [List.length_take]; have h_ : ((ji19) : Int) ≤ (xcv.length : Int) := of_decide_eq_true (by first | (with_reducible assumption) | assumption); omega)]; (try rw [take_len_]); repeat (first | exact (Kd.C_below HR221.out HB.out) | (with_reducible refine Kd.C_alloc ?_ _) | (with_reducible refine Kd.C_drewN ?_ _) | (with_reducible refine Kd.C_drew ?_))) | (repeat (first | exact (Kd.C_below HR221.out HB.out) | (with_reducible refine Kd.C_alloc ?_ _) | (with_reducible refine Kd.C_drewN ?_ _) | (with_reducible refine Kd.C_drew ?_))))
                 (case aB => exact (by repeat (first | (with_reducible first | exact HB.out | apply below_alloc | apply pw_below_drewN | apply below_drew1) | exact HB.out)))
                 (case aF => exact (fun k_ hk => Kd.fresh' (Kd.R_lt (by (with_reducible repeat (first | apply Kd.R_alloc | apply Kd.R_drewN | apply Kd.R_drew)); exact HO227.out)) k_ hk))
                 (case aO => exact (by (with_reducible repeat (first | apply Kd.R_alloc | apply Kd.R_drewN | apply Kd.R_drew)); exact Kd.R_mono HO220.out (fun _ hk => hk.2)))
                 (case aS => exact (below_size (by repeat (first | (with_reducible first | exact HB.out | apply below_alloc | apply pw_below_drewN | apply below_drew1) | exact HB.out))))
                 (case aL => have := LMc22.out; have hlx_ := (show (xcv.take ((ji19) : Int).toNat).length = (ji19).toNat from (by rw [List.length_take]; have h_ : ((ji19) : Int) ≤ (xcv.length : Int) := of_decide_eq_true (by first | (with_reducible assumption) | assumption); omega)); omega)
                 intro v223 w61 ho hb hg hat
                 rw [← Ny222.out] at ho
                 have n0_ := Aside0.mk (Kd.R_over' (by (with_reducible repeat (first | apply Kd.R_alloc | apply Kd.R_drewN | apply Kd.R_drew)); exact HO216.out) (Kd.R_typed (by (with_reducible repeat (first | apply Kd.R_alloc | apply Kd.R_drewN | apply Kd.R_drew)); exact HO220.out)) (by decide) hg)
                 have n1_ := Aside0.mk (Kd.R_after (ok := (fun _ => True)) (by (with_reducible repeat (first | apply Kd.R_alloc | apply Kd.R_drewN | apply Kd.R_drew)); exact HO227.out) hg hat)
                 have n2_ := Aside0.mk (hb)
                 have n3_ := Aside0.mk (ho)
                 clear HO216
                 clear HO227
                 clear HB
                 clear HO220
                 have HO216 := n0_
                 have HO227 := n1_
                 have HB := n2_
                 have HO224 := n3_
                 clear n0_ n1_ n2_ n3_
                 clear ho hb hg hat
                 refine hK.out _ _ trivial (fun hHeld => ?_)
                 clear hK K
                 refine norm_ (a' := ?_) ?_ ?_
                 rotate_left
                 ·show Act.put _ (some 48) _ = _
                  simp only [Act.put, List.setIfInBounds_toArray, List.set_cons_zero, List.set_cons_succ, i64_w, i32_w]
                  rfl
                 exact norm_ (by simp only [putAll, Act.put, List.setIfInBounds_toArray, List.set_cons_zero, List.set_cons_succ]) (hCont (v219, v223, v226) _ ⟨(by (with_reducible repeat (first | apply Kd.R_alloc | apply Kd.R_drewN | apply Kd.R_drew)); exact HO216.out), (by (with_reducible repeat (first | apply Kd.R_alloc | apply Kd.R_drewN | apply Kd.R_drew)); exact HO224.out), (by (with_reducible repeat (first | apply Kd.R_alloc | apply Kd.R_drewN | apply Kd.R_drew)); exact Kd.R_mono HO227.out (fun _ hk => hk.2)), (by repeat (first | (with_reducible first | exact HB.out | apply below_alloc | apply pw_below_drewN | apply below_drew1) | exact HB.out))⟩)
               ·skip
                refine Kd.R_lit_step (Kd.int .u8) _ 5 ?hg (N := 50) ?hd (xs := ([a3] : List Int)) (inner := [.int .u8 a3]) (ok := fun _ => True) (okp := fun _ => True) ?hr ?hp (fun _ hk => hk) trivial (Below.refl _ _) (Nat.le_refl _) (by simp) ?_; (case hd => rfl); (case hg => rfl); (case hr => first | (go_simp; done) | (go_simp; rfl)); (case hp => exact (Reps.one (show Kd.M (Kd.int .u8) _ _ _ a3 [.int .u8 a3] from rfl) (Reps.none _ _)))
                intro v226 w57 ho58 hb hg_ hnew_
                clear hg_ hnew_
                (first | rw [← Ny225.out] at ho58 | (simp only [Int.reduceToNat] at ho58; rw [← Ny225.out] at ho58))
                have n0_ := Aside0.mk (Kd.R_below (by (with_reducible repeat (first | apply Kd.R_alloc | apply Kd.R_drewN | apply Kd.R_drew)); exact HO216.out) hb)
                have n1_ := Aside0.mk (Kd.R_lower ho58 (below_size (by repeat (first | (with_reducible first | exact HB.out | apply below_alloc | apply pw_below_drewN | apply below_drew1) | exact HB.out))))
                have n2_ := Aside0.mk (below_step (by repeat (first | (with_reducible first | exact HB.out | apply below_alloc | apply pw_below_drewN | apply below_drew1) | exact HB.out)) hb)
                clear HO216
                clear HB
                have HO216 := n0_
                have HO227 := n1_
                have HB := n2_
                clear n0_ n1_ n2_
                clear hb ho58
                refine hK.out _ _ trivial (fun hHeld => ?_)
                clear hK K
                refine norm_ (a' := ?_) ?_ ?_
                rotate_left
                ·show Act.put _ (some 50) _ = _
                 simp only [Act.put, List.setIfInBounds_toArray, List.set_cons_zero, List.set_cons_succ, i64_w, i32_w]
                 rfl
                refine one_ (i := 0) (N := some 44) (bz 13 1903) rfl rfl (one_of HT_.out (by kernel_rfl)) (by decide) (fun K hK => ?_)
                refine Kd.R_lit_step (Kd.int .u8) _ 5 ?hg (N := 44) ?hd (xs := ([] : List Int)) (inner := []) (ok := fun _ => True) (okp := fun _ => True) ?hr ?hp (fun _ hk => hk) trivial (Below.refl _ _) (Nat.le_refl _) (by simp) ?_; (case hd => rfl); (case hg => rfl); (case hr => first | (go_simp; done) | (go_simp; rfl)); (case hp => exact (Reps.none _ _))
                intro v219 w59 ho60 hb hg_ hnew_
                clear hg_ hnew_
                (first | rw [← Ny218.out] at ho60 | (simp only [Int.reduceToNat] at ho60; rw [← Ny218.out] at ho60))
                have n0_ := Aside0.mk (Kd.R_below (by (with_reducible repeat (first | apply Kd.R_alloc | apply Kd.R_drewN | apply Kd.R_drew)); exact HO216.out) hb)
                have n1_ := Aside0.mk (Kd.R_elder' (by (with_reducible repeat (first | apply Kd.R_alloc | apply Kd.R_drewN | apply Kd.R_drew)); exact HO227.out) (Kd.R_base ho60) hb)
                have n2_ := Aside0.mk (Kd.R_lower (Kd.R_new' ho60 (Kd.R_lt (by (with_reducible repeat (first | apply Kd.R_alloc | apply Kd.R_drewN | apply Kd.R_drew)); exact HO227.out))) (below_size (by repeat (first | (with_reducible first | exact HB.out | apply below_alloc | apply pw_below_drewN | apply below_drew1) | exact HB.out))))
                have n3_ := Aside0.mk (below_step (by repeat (first | (with_reducible first | exact HB.out | apply below_alloc | apply pw_below_drewN | apply below_drew1) | exact HB.out)) hb)
                clear HO216
                clear HO227
                clear HB
                have HO216 := n0_
                have HO227 := n1_
                have HO220 := n2_
                have HB := n3_
                clear n0_ n1_ n2_ n3_
                clear hb ho60
                refine hK.out _ _ trivial (fun hHeld => ?_)
                clear hK K
                refine norm_ (a' := ?_) ?_ ?_
                rotate_left
                ·show Act.put _ (some 44) _ = _
                 simp only [Act.put, List.setIfInBounds_toArray, List.set_cons_zero, List.set_cons_succ, i64_w, i32_w]
                 rfl
                refine one_ (i := 4) (N := some 48) (bz 13 1919) rfl rfl (one_of HT_.out (by kernel_rfl)) (by decide) (fun K hK => ?_)
                refine Kd.R_append_rows_step (Kd.int .u8) (w0 := w) w.heap.size (by rfl) (.tmp 44) (.tmp 47) 29 5 (.int .u8 0) 1 rfl Tryd.underlying29 info5 rfl (by decide) (by omega) v219 y218 (xcv.take ((ji19) : Int).toNat) _ _ _ (fun k_ => some k_ ≠ (v226 : Value).ownBlock) (fun _ => False) rfl rfl ?aO ?aR (fun _ _ h => h) (fun _ h => h.elim) ?aF ?aB ?aS ?aL ?_
                (case aR => first | (rw [← show (xcv.take ((ji19) : Int).toNat).length = (ji19).toNat from (by rw [List.length_take]; have h_ : ((ji19) : Int) ≤ (xcv.length : Int) := of_decide_eq_true (by first | (with_reducible assumption) | assumption); omega)]; (try rw [take_len_]); repeat (first | exact (Kd.C_below HR221.out HB.out) | (with_reducible refine Kd.C_alloc ?_ _) | (with_reducible refine Kd.C_drewN ?_ _) | (with_reducible refine Kd.C_drew ?_))) | (repeat (first | exact (Kd.C_below HR221.out HB.out) | (with_reducible refine Kd.C_alloc ?_ _) | (with_reducible refine Kd.C_drewN ?_ _) | (with_reducible refine Kd.C_drew ?_))))
                (case aB => exact (by repeat (first | (with_reducible first | exact HB.out | apply below_alloc | apply pw_below_drewN | apply below_drew1) | exact HB.out)))
                (case aF => exact (fun k_ hk => Kd.fresh' (Kd.R_lt (by (with_reducible repeat (first | apply Kd.R_alloc | apply Kd.R_drewN | apply Kd.R_drew)); exact HO227.out)) k_ hk))
                (case aO => exact (by (with_reducible repeat (first | apply Kd.R_alloc | apply Kd.R_drewN | apply Kd.R_drew)); exact Kd.R_mono HO220.out (fun _ hk => hk.2)))
                (case aS => exact (below_size (by repeat (first | (with_reducible first | exact HB.out | apply below_alloc | apply pw_below_drewN | apply below_drew1) | exact HB.out))))
                (case aL => have := LMc22.out; have hlx_ := (show (xcv.take ((ji19) : Int).toNat).length = (ji19).toNat from (by rw [List.length_take]; have h_ : ((ji19) : Int) ≤ (xcv.length : Int) := of_decide_eq_true (by first | (with_reducible assumption) | assumption); omega)); omega)
                intro v223 w61 ho hb hg hat
                rw [← Ny222.out] at ho
                have n0_ := Aside0.mk (Kd.R_over' (by (with_reducible repeat (first | apply Kd.R_alloc | apply Kd.R_drewN | apply Kd.R_drew)); exact HO216.out) (Kd.R_typed (by (with_reducible repeat (first | apply Kd.R_alloc | apply Kd.R_drewN | apply Kd.R_drew)); exact HO220.out)) (by decide) hg)
                have n1_ := Aside0.mk (Kd.R_after (ok := (fun _ => True)) (by (with_reducible repeat (first | apply Kd.R_alloc | apply Kd.R_drewN | apply Kd.R_drew)); exact HO227.out) hg hat)
                have n2_ := Aside0.mk (hb)
                have n3_ := Aside0.mk (ho)
                clear HO216
                clear HO227
                clear HB
                clear HO220
                have HO216 := n0_
                have HO227 := n1_
                have HB := n2_
                have HO224 := n3_
                clear n0_ n1_ n2_ n3_
                clear ho hb hg hat
                refine hK.out _ _ trivial (fun hHeld => ?_)
                clear hK K
                refine norm_ (a' := ?_) ?_ ?_
                rotate_left
                ·show Act.put _ (some 48) _ = _
                 simp only [Act.put, List.setIfInBounds_toArray, List.set_cons_zero, List.set_cons_succ, i64_w, i32_w]
                 rfl
                exact norm_ (by simp only [putAll, Act.put, List.setIfInBounds_toArray, List.set_cons_zero, List.set_cons_succ]) (hCont (v219, v223, v226) _ ⟨(by (with_reducible repeat (first | apply Kd.R_alloc | apply Kd.R_drewN | apply Kd.R_drew)); exact HO216.out), (by (with_reducible repeat (first | apply Kd.R_alloc | apply Kd.R_drewN | apply Kd.R_drew)); exact HO224.out), (by (with_reducible repeat (first | apply Kd.R_alloc | apply Kd.R_drewN | apply Kd.R_drew)); exact Kd.R_mono HO227.out (fun _ hk => hk.2)), (by repeat (first | (with_reducible first | exact HB.out | apply below_alloc | apply pw_below_drewN | apply below_drew1) | exact HB.out))⟩)
              rintro ⟨v219, v223, v226⟩ w62 ⟨h0_, h1_, h2_, h3_⟩
              have n0_ : Aside0 (Kd.R k39 39 w62 bo (fun _ => True) (.slice Ao174 t214.length co174) t214) := ⟨h0_⟩
              have n1_ : Aside0 (Kd.R (Kd.int .u8) 5 w62 w.heap.size (fun k_ => some k_ ≠ (v226 : Value).ownBlock) v223 y222) := ⟨h1_⟩
              have n2_ : Aside0 (Kd.R (Kd.int .u8) 5 w62 w.heap.size (fun k_ => some k_ ≠ (v223 : Value).ownBlock) v226 y225) := ⟨h2_⟩
              have n3_ : Aside0 (Below w.heap.size w w62) := ⟨h3_⟩
              clear HO216
              clear HB
              clear h0_ h1_ h2_ h3_
              have HO216 := n0_
              have HO224 := n1_
              have HO227 := n2_
              have HB := n3_
              clear n0_ n1_ n2_ n3_
              have hHeld := trivial
              obtain ⟨Ao174, co174, eo64⟩ := Kd.R_slice HO227.out
              (first | subst eo64 | (injection eo64 with f1_ f2_ f3_; have f4_ := f1_.symm; have f5_ := f3_.symm; clear f1_ f2_ f3_; subst f4_; subst f5_))
              refine norm_ (a' := ?_) ?_ ?_
              rotate_left
              ·simp only [putAll, Act.put, List.setIfInBounds_toArray, List.set_cons_zero, List.set_cons_succ]
               rfl
              refine one_ (i := 7) (N := some 51) (bz 13 2047) rfl rfl (one_of HT_.out (by kernel_rfl)) (by decide) (fun K hK => ?_)
              refine Kd.R_append_rows_step (Kd.int .u8) (w0 := w) w.heap.size (by rfl) (.tmp 48) (.tmp 50) 29 5 (.int .u8 0) 1 rfl Tryd.underlying29 info5 rfl (by decide) (by omega) v223 y222 y225 _ _ _ (fun k_ => some k_ ≠ (.slice Ao174 y225.length co174 : Value).ownBlock) (fun _ => False) rfl rfl ?aO ?aR (fun _ _ h => h) (fun _ h => h.elim) ?aF ?aB ?aS ?aL ?_
              (case aR => repeat (first | exact (Kd.R_reads' HO227.out).2.2 | (with_reducible refine Kd.C_alloc ?_ _) | (with_reducible refine Kd.C_drewN ?_ _) | (with_reducible refine Kd.C_drew ?_)))
              (case aB => exact (by repeat (first | (with_reducible first | exact HB.out | apply below_alloc | apply pw_below_drewN | apply below_drew1) | exact HB.out)))
              (case aF => exact (fun k_ hk => Kd.fresh' (Kd.R_lt (by (with_reducible repeat (first | apply Kd.R_alloc | apply Kd.R_drewN | apply Kd.R_drew)); exact HO227.out)) k_ hk))
              (case aO => exact (by (with_reducible repeat (first | apply Kd.R_alloc | apply Kd.R_drewN | apply Kd.R_drew)); exact HO224.out))
              (case aS => exact (below_size (by repeat (first | (with_reducible first | exact HB.out | apply below_alloc | apply pw_below_drewN | apply below_drew1) | exact HB.out))))
              (case aL => have := LMc23.out; omega)
              intro v229 w63 ho hb hg hat
              rw [← Ny228.out] at ho
              have n0_ := Aside0.mk (Kd.R_over' (by (with_reducible repeat (first | apply Kd.R_alloc | apply Kd.R_drewN | apply Kd.R_drew)); exact HO216.out) (Kd.R_typed (by (with_reducible repeat (first | apply Kd.R_alloc | apply Kd.R_drewN | apply Kd.R_drew)); exact HO224.out)) (by decide) hg)
              have n1_ := Aside0.mk (Kd.R_after (ok := (fun _ => True)) (by (with_reducible repeat (first | apply Kd.R_alloc | apply Kd.R_drewN | apply Kd.R_drew)); exact Kd.R_mono HO227.out (fun _ hk => ⟨trivial, hk⟩)) hg hat)
              have n2_ := Aside0.mk (hb)
              have n3_ := Aside0.mk (ho)
              clear HO216
              clear HO227
              clear HB
              clear HO224
              have HO216 := n0_
              have HO227 := n1_
              have HB := n2_
              have HO230 := n3_
              clear n0_ n1_ n2_ n3_
              clear ho hb hg hat
              refine hK.out _ _ trivial (fun hHeld => ?_)
              clear hK K
              refine norm_ (a' := ?_) ?_ ?_
              rotate_left
              ·show Act.put _ (some 51) _ = _
               simp only [Act.put, List.setIfInBounds_toArray, List.set_cons_zero, List.set_cons_succ, i64_w, i32_w]
               rfl
              refine one_ (i := 11) (N := some 55) (bz 13 4095) rfl rfl (one_of HT_.out (by kernel_rfl)) (by decide) (fun K hK => ?_)
              refine Kd.R_append_rows_step (Kd.int .u8) (w0 := w) w.heap.size (by rfl) (.tmp 51) (.tmp 54) 29 5 (.int .u8 0) 1 rfl Tryd.underlying29 info5 rfl (by decide) (by omega) v229 y228 (xcv.drop ((ji19) : Int).toNat) _ _ _ (fun k_ => some k_ ≠ (.slice Ao174 y225.length co174 : Value).ownBlock) (fun _ => False) rfl rfl ?aO ?aR (fun _ _ h => h) (fun _ h => h.elim) ?aF ?aB ?aS ?aL ?_
              (case aR => first | (rw [← show (xcv.drop ((ji19) : Int).toNat).length = (xcv.length - (ji19).toNat) from List.length_drop]; repeat (first | exact (Kd.C_below HR231.out HB.out) | (with_reducible refine Kd.C_alloc ?_ _) | (with_reducible refine Kd.C_drewN ?_ _) | (with_reducible refine Kd.C_drew ?_))) | (repeat (first | exact (Kd.C_below HR231.out HB.out) | (with_reducible refine Kd.C_alloc ?_ _) | (with_reducible refine Kd.C_drewN ?_ _) | (with_reducible refine Kd.C_drew ?_))))
              (case aB => exact (by repeat (first | (with_reducible first | exact HB.out | apply below_alloc | apply pw_below_drewN | apply below_drew1) | exact HB.out)))
              (case aF => exact (fun k_ hk => Kd.fresh' (Kd.R_lt (by (with_reducible repeat (first | apply Kd.R_alloc | apply Kd.R_drewN | apply Kd.R_drew)); exact HO227.out)) k_ hk))
              (case aO => exact (by (with_reducible repeat (first | apply Kd.R_alloc | apply Kd.R_drewN | apply Kd.R_drew)); exact HO230.out))
              (case aS => exact (below_size (by repeat (first | (with_reducible first | exact HB.out | apply below_alloc | apply pw_below_drewN | apply below_drew1) | exact HB.out))))
              (case aL => have := LMc26.out; have hlx_ := (show (xcv.drop ((ji19) : Int).toNat).length = (xcv.length - (ji19).toNat) from List.length_drop); omega)
              intro v233 w65 ho hb hg hat
              rw [← Ny232.out] at ho
              have n0_ := Aside0.mk (Kd.R_over' (by (with_reducible repeat (first | apply Kd.R_alloc | apply Kd.R_drewN | apply Kd.R_drew)); exact HO216.out) (Kd.R_typed (by (with_reducible repeat (first | apply Kd.R_alloc | apply Kd.R_drewN | apply Kd.R_drew)); exact HO230.out)) (by decide) hg)
              have n1_ := Aside0.mk (Kd.R_after (ok := (fun _ => True)) (by (with_reducible repeat (first | apply Kd.R_alloc | apply Kd.R_drewN | apply Kd.R_drew)); exact HO227.out) hg hat)
              have n2_ := Aside0.mk (hb)
              have n3_ := Aside0.mk (ho)
              clear HO216
              clear HO227
              clear HB
              clear HO230
              have HO216 := n0_
              have HO227 := n1_
              have HB := n2_
              have HO234 := n3_
              clear n0_ n1_ n2_ n3_
              clear ho hb hg hat
              refine hK.out _ _ trivial (fun hHeld => ?_)
              clear hK K
              refine norm_ (a' := ?_) ?_ ?_
              rotate_left
              ·show Act.put _ (some 55) _ = _
               simp only [Act.put, List.setIfInBounds_toArray, List.set_cons_zero, List.set_cons_succ, i64_w, i32_w]
               rfl
              refine pure_ (i := 12) (N := some 11) (v := ?_) (a' := ?_) (bz 13 8191) rfl rfl (any_of HT_.out (by kernel_rfl)) (fun _ _ _ h => h) (Or.inl ⟨by rfl, ?_⟩) ?_ ?_
              rotate_left
              ·intro w'
               go_simp
               with_reducible rfl
              rotate_left
              ·simp only [Act.put, List.setIfInBounds_toArray, List.set_cons_zero, List.set_cons_succ, i64_w, i32_w]
               rfl
              refine done_ (done_of HT_.out (by kernel_rfl)) ?_
              try go_wp2_with (first | ((with_reducible refine gate_callee (f := 13) rfl ?_); refine goesL_ (some 68) rfl rfl Tryd.func13 (by kernel_rfl) rfl #[] rfl (by (try simp only [List.map_toArray, List.map_cons, List.map_nil]); first | done | rfl | (simp only [List.length_drop, List.length_take]; rfl)) ?_; (with_reducible refine (insolvencylaw25_awake.calls k  true _ ?side1 A27.out).mono ?_); (case side1 => exact LaidW.below HLd.out (by repeat (first | (with_reducible first | exact HB.out | apply below_alloc | apply pw_below_drewN | apply below_drew1) | exact HB.out))); rintro e w66 ⟨rfl, hb⟩; refine ⟨_, rfl, ?_⟩; have n0_ := Aside0.mk (Kd.R_below (by (with_reducible repeat (first | apply Kd.R_alloc | apply Kd.R_drewN | apply Kd.R_drew)); exact HO216.out) hb); have n1_ := Aside0.mk (Kd.R_below (by (with_reducible repeat (first | apply Kd.R_alloc | apply Kd.R_drewN | apply Kd.R_drew)); exact HO227.out) hb); have n2_ := Aside0.mk (Kd.R_below (by (with_reducible repeat (first | apply Kd.R_alloc | apply Kd.R_drewN | apply Kd.R_drew)); exact HO234.out) hb); have n3_ := Aside0.mk (below_step (by repeat (first | (with_reducible first | exact HB.out | apply below_alloc | apply pw_below_drewN | apply below_drew1) | exact HB.out)) hb); clear HO216; clear HO227; clear HO234; clear HB; have HO216 := n0_; have HO227 := n1_; have HO234 := n2_; have HB := n3_; clear n0_ n1_ n2_ n3_; (try clear hb); (try clear hb2); (try clear hk); (try clear hi)) | (go_at_call 17; (with_reducible refine (insolvencylaw25_same.calls k a0 false _ ?side1 A29.out).mono ?_); (case side1 => exact LaidW.below HLd.out (by repeat (first | (with_reducible first | exact HB.out | apply below_alloc | apply pw_below_drewN | apply below_drew1) | exact HB.out))); rintro e w67 ⟨rfl, hb⟩; have n0_ := Aside0.mk (Kd.R_below (by (with_reducible repeat (first | apply Kd.R_alloc | apply Kd.R_drewN | apply Kd.R_drew)); exact HO216.out) hb); have n1_ := Aside0.mk (Kd.R_below (by (with_reducible repeat (first | apply Kd.R_alloc | apply Kd.R_drewN | apply Kd.R_drew)); exact HO227.out) hb); have n2_ := Aside0.mk (Kd.R_below (by (with_reducible repeat (first | apply Kd.R_alloc | apply Kd.R_drewN | apply Kd.R_drew)); exact HO234.out) hb); have n3_ := Aside0.mk (below_step (by repeat (first | (with_reducible first | exact HB.out | apply below_alloc | apply pw_below_drewN | apply below_drew1) | exact HB.out)) hb); clear HO216; clear HO227; clear HO234; clear HB; have HO216 := n0_; have HO227 := n1_; have HO234 := n2_; have HB := n3_; clear n0_ n1_ n2_ n3_; (try clear hb); (try clear hb2); (try clear hk); (try clear hi)))
              go_ret
              exact ⟨by first | rfl | (simp [errW_none, errW_some] <;> rfl) | (simp only [← hji19]; first | rfl | (simp [errW_none, errW_some] <;> rfl)) | (simp [*, errW_none, errW_some] <;> rfl), below_step HBo.out (by repeat (first | (with_reducible first | exact HB.out | apply below_alloc | apply pw_below_drewN | apply below_drew1) | exact HB.out))⟩
            ·replace c28 := Bool.eq_false_iff.mpr c28
             subst c28
             have H1 : (some false) = some r := by rw [if_neg (show ¬ (false = true) by decide)] at H; exact H
             clear H
             have H := H1
             clear H1
             obtain rfl := Option.some.inj H
             try go_wp2_with (first | ((with_reducible refine gate_callee (f := 14) rfl ?_); refine goesL_ (some 23) rfl rfl Tryd.func14 (by kernel_rfl) rfl #[.slice A1 l1.length c1, .int .i64 4, .int .i64 20] rfl (by (try simp only [List.map_toArray, List.map_cons, List.map_nil]); first | done | rfl | (simp only [List.length_drop, List.length_take]; rfl)) ?_; (with_reducible refine (insolvencylaw0_Rows.calls _ _ l1 4 20 t214 _ ?side1 ?side2 A12.out).mono ?_); (case side1 => repeat (first | exact HR1.out | (with_reducible refine Kd.C_alloc ?_ _) | (with_reducible refine Kd.C_drewN ?_ _) | (with_reducible refine Kd.C_drew ?_))); (case side2 => exact HC1.out); rintro e w68 ⟨v215, rfl, ho0, hb⟩; refine ⟨_, rfl, ?_⟩; have n0_ := Aside0.mk (Kd.R_lower ho0 (below_size (by repeat (first | (with_reducible first | exact HB.out | apply below_alloc | apply pw_below_drewN | apply below_drew1) | exact HB.out)))); have n1_ := Aside0.mk (below_step (by repeat (first | (with_reducible first | exact HB.out | apply below_alloc | apply pw_below_drewN | apply below_drew1) | exact HB.out)) hb); clear HB; have HO216 := n0_; have HB := n1_; clear n0_ n1_; (try clear hb); (try clear hb2); (try clear hk); (try clear hi); (try clear ho0); obtain ⟨Ao174, co174, eo69⟩ := Kd.R_slice HO216.out; subst eo69) | ((with_reducible refine gate_callee (f := 16) rfl ?_); refine goesL_ (some 24) rfl rfl Tryd.func16 (by kernel_rfl) rfl #[.slice Ao174 t214.length co174] rfl (by (try simp only [List.map_toArray, List.map_cons, List.map_nil]); first | done | rfl | (simp only [List.length_drop, List.length_take]; rfl)) ?_; (with_reducible refine (insolvencyref25_Format.calls k _ _ t214 t217 _ ?side1 ?side2 A13.out).mono ?_); (case side1 => repeat (first | exact (Kd.R_reads' HO216.out).2.2 | (with_reducible refine Kd.C_alloc ?_ _) | (with_reducible refine Kd.C_drewN ?_ _) | (with_reducible refine Kd.C_drew ?_))); (case side2 => exact (Kd.R_reads' HO216.out).2.1); rintro e w70 ⟨rfl, hb⟩; refine ⟨_, rfl, ?_⟩; have n0_ := Aside0.mk (Kd.R_below (by (with_reducible repeat (first | apply Kd.R_alloc | apply Kd.R_drewN | apply Kd.R_drew)); exact HO216.out) hb); have n1_ := Aside0.mk (below_step (by repeat (first | (with_reducible first | exact HB.out | apply below_alloc | apply pw_below_drewN | apply below_drew1) | exact HB.out)) hb); clear HO216; clear HB; have HO216 := n0_; have HB := n1_; clear n0_ n1_; (try clear hb); (try clear hb2); (try clear hk); (try clear hi)))
             have n0_ := Aside0.mk (Kd.R_drew HO216.out)
             have n1_ := Aside0.mk (below_drew1 HB.out)
             clear HO216
             clear HB
             have HO216 := n0_
             have HB := n1_
             clear n0_ n1_
             obtain ⟨i072, hi072, _, hsz72, _⟩ := info_parts info5
             obtain ⟨hcut72, hA72, hC72⟩ := print_take_of (P := Tryd.prog) (Value.int .u8) 0 29 5 .i64 Tryd.underlying29 hi072 hsz72 Acv ccv xcv (ji19) (of_decide_eq_true (by first | (with_reducible assumption) | assumption)) (of_decide_eq_true (by first | (with_reducible assumption) | assumption)) HCcv.out
             have HR221 := Aside0.mk (Kd.C_of_reads (h1 := fun _ => rfl) (hA72 _ (Kd.reads_of_C HRcv.out)))
             have HC221 := Aside0.mk hC72
             clear hA72 hC72 hi072 hsz72
             obtain ⟨i073, hi073, _, hsz73, _⟩ := info_parts info5
             obtain ⟨A73, hcut73, hA73, hC73⟩ := print_drop_of (P := Tryd.prog) (Value.int .u8) 0 29 5 .i64 Tryd.underlying29 hi073 hsz73 Acv ccv xcv (ji19) (of_decide_eq_true (by first | (with_reducible assumption) | assumption)) (of_decide_eq_true (by first | (with_reducible assumption) | assumption)) HCcv.out
             have HR231 := Aside0.mk (Kd.C_of_reads (h1 := fun _ => rfl) (hA73 _ (Kd.reads_of_C HRcv.out)))
             have HC231 := Aside0.mk hC73
             clear hA73 hC73 hi073 hsz73
             refine start_ (n := 13) (S := fun w' => True) (ds := []) (bz 13 0) (by kernel_rfl) rfl rfl trivial (fun hHeld => ?_); refine with_tabW insolvencylaw25_HistoryParse.tab10 insolvencylaw25_HistoryParse.bits10 (fun HT_ HW_ => ?_)
             generalize w.drew = w71 at HO216 HB HR221 HR231 hHeld ⊢
             refine pure_ (i := 1) (N := some 45) (v := ?_) (a' := ?_) (bz 13 2) rfl rfl (any_of HT_.out (by kernel_rfl)) (fun _ _ _ h => h) (Or.inl ⟨by rfl, ?_⟩) ?_ ?_
             rotate_left
             ·intro w'
              go_simp
              with_reducible rfl
             rotate_left
             ·simp only [Act.put, List.setIfInBounds_toArray, List.set_cons_zero, List.set_cons_succ, i64_w, i32_w]
              rfl
             refine pure_ (i := 2) (N := some 46) (v := ?_) (a' := ?_) (bz 13 6) rfl rfl (any_of HT_.out (by kernel_rfl)) (fun _ _ _ h => h) (Or.inl ⟨by rfl, ?_⟩) ?_ ?_
             rotate_left
             ·intro w'
              go_simp
              with_reducible rfl
             rotate_left
             ·simp only [Act.put, List.setIfInBounds_toArray, List.set_cons_zero, List.set_cons_succ, i64_w, i32_w]
              rfl
             refine pure_ (i := 3) (N := some 47) (v := ?_) (a' := ?_) (bz 13 14) rfl rfl (any_of HT_.out (by kernel_rfl)) (fun _ _ _ h => h) (Or.inl ⟨by rfl, ?_⟩) ?_ ?_
             rotate_left
             ·intro w'
              go_simp
              with_reducible rfl
             rotate_left
             ·simp only [Act.put, List.setIfInBounds_toArray, List.set_cons_zero, List.set_cons_succ, i64_w, i32_w]
              rfl
             refine pure_ (i := 5) (N := some 49) (v := ?_) (a' := ?_) (bz 13 46) rfl rfl (any_of HT_.out (by kernel_rfl)) (fun _ _ _ h => h) (Or.inl ⟨by rfl, ?_⟩) ?_ ?_
             rotate_left
             ·intro w'
              go_simp
              with_reducible rfl
             rotate_left
             ·simp only [Act.put, List.setIfInBounds_toArray, List.set_cons_zero, List.set_cons_succ, i64_w, i32_w]
              rfl
             refine pure_ (i := 8) (N := some 52) (v := ?_) (a' := ?_) (bz 13 302) rfl rfl (any_of HT_.out (by kernel_rfl)) (fun _ _ _ h => h) (Or.inl ⟨by rfl, ?_⟩) ?_ ?_
             rotate_left
             ·intro w'
              go_simp
              with_reducible rfl
             rotate_left
             ·simp only [Act.put, List.setIfInBounds_toArray, List.set_cons_zero, List.set_cons_succ, i64_w, i32_w]
              rfl
             refine pure_ (i := 9) (N := some 53) (v := ?_) (a' := ?_) (bz 13 814) rfl rfl (any_of HT_.out (by kernel_rfl)) (fun _ _ _ h => h) (Or.inl ⟨by rfl, ?_⟩) ?_ ?_
             rotate_left
             ·intro w'
              go_simp
              with_reducible rfl
             rotate_left
             ·simp only [Act.put, List.setIfInBounds_toArray, List.set_cons_zero, List.set_cons_succ, i64_w, i32_w]
              rfl
             refine pure_ (i := 10) (N := some 54) (v := ?_) (a' := ?_) (bz 13 1838) rfl rfl (any_of HT_.out (by kernel_rfl)) (fun _ _ _ h => h) (Or.inl ⟨by rfl, ?_⟩) ?_ ?_
             rotate_left
             ·intro w'
              go_simp
              with_reducible rfl
             rotate_left
             ·simp only [Act.put, List.setIfInBounds_toArray, List.set_cons_zero, List.set_cons_succ, i64_w, i32_w]
              rfl
             refine join_ (σ := Value × Value × Value) 3 (bz 13 1919) (fun s_ => [(44, s_.1), (48, s_.2.1), (50, s_.2.2)]) (fun s_ w' => (Kd.R k39 39 w' bo (fun _ => True) (.slice Ao174 t214.length co174) t214) ∧ (Kd.R (Kd.int .u8) 5 w' w.heap.size (fun k_ => some k_ ≠ (s_.2.2 : Value).ownBlock) s_.2.1 y222) ∧ (Kd.R (Kd.int .u8) 5 w' w.heap.size (fun k_ => some k_ ≠ (s_.2.1 : Value).ownBlock) s_.2.2 y225) ∧ (Below w.heap.size w w')) ?_ ?_
             rotate_left
             ·intro hCont
              refine two_ (i := 0) (j := 6) (Ni := some 44) (Nj := some 50) (bz 13 1839) (bz 13 1902) rfl rfl rfl rfl (two_of HT_.out (by kernel_rfl)) (by decide) (by decide) (fun K hK => ?_) (fun K hK => ?_)
              ·skip
               refine Kd.R_lit_step (Kd.int .u8) _ 5 ?hg (N := 44) ?hd (xs := ([] : List Int)) (inner := []) (ok := fun _ => True) (okp := fun _ => True) ?hr ?hp (fun _ hk => hk) trivial (Below.refl _ _) (Nat.le_refl _) (by simp) ?_; (case hd => rfl); (case hg => rfl); (case hr => first | (go_simp; done) | (go_simp; rfl)); (case hp => exact (Reps.none _ _))
               intro v219 w74 ho75 hb hg_ hnew_
               clear hg_ hnew_
               (first | rw [← Ny218.out] at ho75 | (simp only [Int.reduceToNat] at ho75; rw [← Ny218.out] at ho75))
               have n0_ := Aside0.mk (Kd.R_below (by (with_reducible repeat (first | apply Kd.R_alloc | apply Kd.R_drewN | apply Kd.R_drew)); exact HO216.out) hb)
               have n1_ := Aside0.mk (Kd.R_lower ho75 (below_size (by repeat (first | (with_reducible first | exact HB.out | apply below_alloc | apply pw_below_drewN | apply below_drew1) | exact HB.out))))
               have n2_ := Aside0.mk (below_step (by repeat (first | (with_reducible first | exact HB.out | apply below_alloc | apply pw_below_drewN | apply below_drew1) | exact HB.out)) hb)
               clear HO216
               clear HB
               have HO216 := n0_
               have HO220 := n1_
               have HB := n2_
               clear n0_ n1_ n2_
               clear hb ho75
               refine hK.out _ _ trivial (fun hHeld => ?_)
               clear hK K
               refine norm_ (a' := ?_) ?_ ?_
               rotate_left
               ·show Act.put _ (some 44) _ = _
                simp only [Act.put, List.setIfInBounds_toArray, List.set_cons_zero, List.set_cons_succ, i64_w, i32_w]
                rfl
               refine two_ (i := 4) (j := 6) (Ni := some 48) (Nj := some 50) (bz 13 1855) (bz 13 1903) rfl rfl rfl rfl (two_of HT_.out (by kernel_rfl)) (by decide) (by decide) (fun K hK => ?_) (fun K hK => ?_)
               ·skip
                refine Kd.R_append_rows_step (Kd.int .u8) (w0 := w) w.heap.size (by rfl) (.tmp 44) (.tmp 47) 29 5 (.int .u8 0) 1 rfl Tryd.underlying29 info5 rfl (by decide) (by omega) v219 y218 (xcv.take ((ji19) : Int).toNat) _ _ _ (fun _ => True) (fun _ => False) rfl rfl ?aO ?aR (fun _ _ h => h) (fun _ h => h.elim) ?aF ?aB ?aS ?aL ?_
                (case aR => first | (rw [← show (xcv.take ((ji19) : Int).toNat).length = (ji19).toNat from (by rw [List.length_take]; have h_ : ((ji19) : Int) ≤ (xcv.length : Int) := of_decide_eq_true (by first | (with_reducible assumption) | assumption); omega)]; (try rw [take_len_]); repeat (first | exact (Kd.C_below HR221.out HB.out) | (with_reducible refine Kd.C_alloc ?_ _) | (with_reducible refine Kd.C_drewN ?_ _) | (with_reducible refine Kd.C_drew ?_))) | (repeat (first | exact (Kd.C_below HR221.out HB.out) | (with_reducible refine Kd.C_alloc ?_ _) | (with_reducible refine Kd.C_drewN ?_ _) | (with_reducible refine Kd.C_drew ?_))))
                (case aB => exact (by repeat (first | (with_reducible first | exact HB.out | apply below_alloc | apply pw_below_drewN | apply below_drew1) | exact HB.out)))
                (case aF => exact (fun _ _ => trivial))
                (case aO => exact (by (with_reducible repeat (first | apply Kd.R_alloc | apply Kd.R_drewN | apply Kd.R_drew)); exact HO220.out))
                (case aS => exact (below_size (by repeat (first | (with_reducible first | exact HB.out | apply below_alloc | apply pw_below_drewN | apply below_drew1) | exact HB.out))))
                (case aL => have := LMc22.out; have hlx_ := (show (xcv.take ((ji19) : Int).toNat).length = (ji19).toNat from (by rw [List.length_take]; have h_ : ((ji19) : Int) ≤ (xcv.length : Int) := of_decide_eq_true (by first | (with_reducible assumption) | assumption); omega)); omega)
                intro v223 w76 ho hb hg hat
                rw [← Ny222.out] at ho
                have n0_ := Aside0.mk (Kd.R_over' (by (with_reducible repeat (first | apply Kd.R_alloc | apply Kd.R_drewN | apply Kd.R_drew)); exact HO216.out) (Kd.R_typed (by (with_reducible repeat (first | apply Kd.R_alloc | apply Kd.R_drewN | apply Kd.R_drew)); exact HO220.out)) (by decide) hg)
                have n1_ := Aside0.mk (hb)
                have n2_ := Aside0.mk (ho)
                clear HO216
                clear HB
                clear HO220
                have HO216 := n0_
                have HB := n1_
                have HO224 := n2_
                clear n0_ n1_ n2_
                clear ho hb hg hat
                refine hK.out _ _ trivial (fun hHeld => ?_)
                clear hK K
                refine norm_ (a' := ?_) ?_ ?_
                rotate_left
                ·show Act.put _ (some 48) _ = _
                 simp only [Act.put, List.setIfInBounds_toArray, List.set_cons_zero, List.set_cons_succ, i64_w, i32_w]
                 rfl
                refine one_ (i := 6) (N := some 50) (bz 13 1919) rfl rfl (one_of HT_.out (by kernel_rfl)) (by decide) (fun K hK => ?_)
                refine Kd.R_lit_step (Kd.int .u8) _ 5 ?hg (N := 50) ?hd (xs := ([a3] : List Int)) (inner := [.int .u8 a3]) (ok := fun _ => True) (okp := fun _ => True) ?hr ?hp (fun _ hk => hk) trivial (Below.refl _ _) (Nat.le_refl _) (by simp) ?_; (case hd => rfl); (case hg => rfl); (case hr => first | (go_simp; done) | (go_simp; rfl)); (case hp => exact (Reps.one (show Kd.M (Kd.int .u8) _ _ _ a3 [.int .u8 a3] from rfl) (Reps.none _ _)))
                intro v226 w77 ho78 hb hg_ hnew_
                clear hg_ hnew_
                (first | rw [← Ny225.out] at ho78 | (simp only [Int.reduceToNat] at ho78; rw [← Ny225.out] at ho78))
                have n0_ := Aside0.mk (Kd.R_below (by (with_reducible repeat (first | apply Kd.R_alloc | apply Kd.R_drewN | apply Kd.R_drew)); exact HO216.out) hb)
                have n1_ := Aside0.mk (Kd.R_elder' (by (with_reducible repeat (first | apply Kd.R_alloc | apply Kd.R_drewN | apply Kd.R_drew)); exact HO224.out) (Kd.R_base ho78) hb)
                have n2_ := Aside0.mk (Kd.R_lower (Kd.R_new' ho78 (Kd.R_lt (by (with_reducible repeat (first | apply Kd.R_alloc | apply Kd.R_drewN | apply Kd.R_drew)); exact HO224.out))) (below_size (by repeat (first | (with_reducible first | exact HB.out | apply below_alloc | apply pw_below_drewN | apply below_drew1) | exact HB.out))))
                have n3_ := Aside0.mk (below_step (by repeat (first | (with_reducible first | exact HB.out | apply below_alloc | apply pw_below_drewN | apply below_drew1) | exact HB.out)) hb)
                clear HO216
                clear HO224
                clear HB
                have HO216 := n0_
                have HO224 := n1_
                have HO227 := n2_
                have HB := n3_
                clear n0_ n1_ n2_ n3_
                clear hb ho78
                refine hK.out _ _ trivial (fun hHeld => ?_)
                clear hK K
                refine norm_ (a' := ?_) ?_ ?_
                rotate_left
                ·show Act.put _ (some 50) _ = _
                 simp only [Act.put, List.setIfInBounds_toArray, List.set_cons_zero, List.set_cons_succ, i64_w, i32_w]
                 rfl
                exact norm_ (by simp only [putAll, Act.put, List.setIfInBounds_toArray, List.set_cons_zero, List.set_cons_succ]) (hCont (v219, v223, v226) _ ⟨(by (with_reducible repeat (first | apply Kd.R_alloc | apply Kd.R_drewN | apply Kd.R_drew)); exact HO216.out), (by (with_reducible repeat (first | apply Kd.R_alloc | apply Kd.R_drewN | apply Kd.R_drew)); exact Kd.R_mono HO224.out (fun _ hk => hk.2)), (by (with_reducible repeat (first | apply Kd.R_alloc | apply Kd.R_drewN | apply Kd.R_drew)); exact Kd.R_mono HO227.out (fun _ hk => hk.2)), (by repeat (first | (with_reducible first | exact HB.out | apply below_alloc | apply pw_below_drewN | apply below_drew1) | exact HB.out))⟩)
               ·skip
                refine Kd.R_lit_step (Kd.int .u8) _ 5 ?hg (N := 50) ?hd (xs := ([a3] : List Int)) (inner := [.int .u8 a3]) (ok := fun _ => True) (okp := fun _ => True) ?hr ?hp (fun _ hk => hk) trivial (Below.refl _ _) (Nat.le_refl _) (by simp) ?_; (case hd => rfl); (case hg => rfl); (case hr => first | (go_simp; done) | (go_simp; rfl)); (case hp => exact (Reps.one (show Kd.M (Kd.int .u8) _ _ _ a3 [.int .u8 a3] from rfl) (Reps.none _ _)))
                intro v226 w76 ho77 hb hg_ hnew_
                clear hg_ hnew_
                (first | rw [← Ny225.out] at ho77 | (simp only [Int.reduceToNat] at ho77; rw [← Ny225.out] at ho77))
                have n0_ := Aside0.mk (Kd.R_below (by (with_reducible repeat (first | apply Kd.R_alloc | apply Kd.R_drewN | apply Kd.R_drew)); exact HO216.out) hb)
                have n1_ := Aside0.mk (Kd.R_elder' (by (with_reducible repeat (first | apply Kd.R_alloc | apply Kd.R_drewN | apply Kd.R_drew)); exact HO220.out) (Kd.R_base ho77) hb)
                have n2_ := Aside0.mk (Kd.R_lower (Kd.R_new' ho77 (Kd.R_lt (by (with_reducible repeat (first | apply Kd.R_alloc | apply Kd.R_drewN | apply Kd.R_drew)); exact HO220.out))) (below_size (by repeat (first | (with_reducible first | exact HB.out | apply below_alloc | apply pw_below_drewN | apply below_drew1) | exact HB.out))))
                have n3_ := Aside0.mk (below_step (by repeat (first | (with_reducible first | exact HB.out | apply below_alloc | apply pw_below_drewN | apply below_drew1) | exact HB.out)) hb)
                clear HO216
                clear HO220
                clear HB
                have HO216 := n0_
                have HO220 := n1_
                have HO227 := n2_
                have HB := n3_
                clear n0_ n1_ n2_ n3_
                clear hb ho77
                refine hK.out _ _ trivial (fun hHeld => ?_)
                clear hK K
                refine norm_ (a' := ?_) ?_ ?_
                rotate_left
                ·show Act.put _ (some 50) _ = _
                 simp only [Act.put, List.setIfInBounds_toArray, List.set_cons_zero, List.set_cons_succ, i64_w, i32_w]
                 rfl
                refine one_ (i := 4) (N := some 48) (bz 13 1919) rfl rfl (one_of HT_.out (by kernel_rfl)) (by decide) (fun K hK => ?_)
                refine Kd.R_append_rows_step (Kd.int .u8) (w0 := w) w.heap.size (by rfl) (.tmp 44) (.tmp 47) 29 5 (.int .u8 0) 1 rfl Tryd.underlying29 info5 rfl (by decide) (by omega) v219 y218 (xcv.take ((ji19) : Int).toNat) _ _ _ (fun k_ => some k_ ≠ (v226 : Value).ownBlock) (fun _ => False) rfl rfl ?aO ?aR (fun _ _ h => h) (fun _ h => h.elim) ?aF ?aB ?aS ?aL ?_
                (case aR => first | (rw [← show (xcv.take ((ji19) : Int).toNat).length = (ji19).toNat from (by rw [List.length_take]; have h_ : ((ji19) : Int) ≤ (xcv.length : Int) := of_decide_eq_true (by first | (with_reducible assumption) | assumption); omega)]; (try rw [take_len_]); repeat (first | exact (Kd.C_below HR221.out HB.out) | (with_reducible refine Kd.C_alloc ?_ _) | (with_reducible refine Kd.C_drewN ?_ _) | (with_reducible refine Kd.C_drew ?_))) | (repeat (first | exact (Kd.C_below HR221.out HB.out) | (with_reducible refine Kd.C_alloc ?_ _) | (with_reducible refine Kd.C_drewN ?_ _) | (with_reducible refine Kd.C_drew ?_))))
                (case aB => exact (by repeat (first | (with_reducible first | exact HB.out | apply below_alloc | apply pw_below_drewN | apply below_drew1) | exact HB.out)))
                (case aF => exact (fun k_ hk => Kd.fresh' (Kd.R_lt (by (with_reducible repeat (first | apply Kd.R_alloc | apply Kd.R_drewN | apply Kd.R_drew)); exact HO227.out)) k_ hk))
                (case aO => exact (by (with_reducible repeat (first | apply Kd.R_alloc | apply Kd.R_drewN | apply Kd.R_drew)); exact Kd.R_mono HO220.out (fun _ hk => hk.2)))
                (case aS => exact (below_size (by repeat (first | (with_reducible first | exact HB.out | apply below_alloc | apply pw_below_drewN | apply below_drew1) | exact HB.out))))
                (case aL => have := LMc22.out; have hlx_ := (show (xcv.take ((ji19) : Int).toNat).length = (ji19).toNat from (by rw [List.length_take]; have h_ : ((ji19) : Int) ≤ (xcv.length : Int) := of_decide_eq_true (by first | (with_reducible assumption) | assumption); omega)); omega)
                intro v223 w78 ho hb hg hat
                rw [← Ny222.out] at ho
                have n0_ := Aside0.mk (Kd.R_over' (by (with_reducible repeat (first | apply Kd.R_alloc | apply Kd.R_drewN | apply Kd.R_drew)); exact HO216.out) (Kd.R_typed (by (with_reducible repeat (first | apply Kd.R_alloc | apply Kd.R_drewN | apply Kd.R_drew)); exact HO220.out)) (by decide) hg)
                have n1_ := Aside0.mk (Kd.R_after (ok := (fun _ => True)) (by (with_reducible repeat (first | apply Kd.R_alloc | apply Kd.R_drewN | apply Kd.R_drew)); exact HO227.out) hg hat)
                have n2_ := Aside0.mk (hb)
                have n3_ := Aside0.mk (ho)
                clear HO216
                clear HO227
                clear HB
                clear HO220
                have HO216 := n0_
                have HO227 := n1_
                have HB := n2_
                have HO224 := n3_
                clear n0_ n1_ n2_ n3_
                clear ho hb hg hat
                refine hK.out _ _ trivial (fun hHeld => ?_)
                clear hK K
                refine norm_ (a' := ?_) ?_ ?_
                rotate_left
                ·show Act.put _ (some 48) _ = _
                 simp only [Act.put, List.setIfInBounds_toArray, List.set_cons_zero, List.set_cons_succ, i64_w, i32_w]
                 rfl
                exact norm_ (by simp only [putAll, Act.put, List.setIfInBounds_toArray, List.set_cons_zero, List.set_cons_succ]) (hCont (v219, v223, v226) _ ⟨(by (with_reducible repeat (first | apply Kd.R_alloc | apply Kd.R_drewN | apply Kd.R_drew)); exact HO216.out), (by (with_reducible repeat (first | apply Kd.R_alloc | apply Kd.R_drewN | apply Kd.R_drew)); exact HO224.out), (by (with_reducible repeat (first | apply Kd.R_alloc | apply Kd.R_drewN | apply Kd.R_drew)); exact Kd.R_mono HO227.out (fun _ hk => hk.2)), (by repeat (first | (with_reducible first | exact HB.out | apply below_alloc | apply pw_below_drewN | apply below_drew1) | exact HB.out))⟩)
              ·skip
               refine Kd.R_lit_step (Kd.int .u8) _ 5 ?hg (N := 50) ?hd (xs := ([a3] : List Int)) (inner := [.int .u8 a3]) (ok := fun _ => True) (okp := fun _ => True) ?hr ?hp (fun _ hk => hk) trivial (Below.refl _ _) (Nat.le_refl _) (by simp) ?_; (case hd => rfl); (case hg => rfl); (case hr => first | (go_simp; done) | (go_simp; rfl)); (case hp => exact (Reps.one (show Kd.M (Kd.int .u8) _ _ _ a3 [.int .u8 a3] from rfl) (Reps.none _ _)))
               intro v226 w74 ho75 hb hg_ hnew_
               clear hg_ hnew_
               (first | rw [← Ny225.out] at ho75 | (simp only [Int.reduceToNat] at ho75; rw [← Ny225.out] at ho75))
               have n0_ := Aside0.mk (Kd.R_below (by (with_reducible repeat (first | apply Kd.R_alloc | apply Kd.R_drewN | apply Kd.R_drew)); exact HO216.out) hb)
               have n1_ := Aside0.mk (Kd.R_lower ho75 (below_size (by repeat (first | (with_reducible first | exact HB.out | apply below_alloc | apply pw_below_drewN | apply below_drew1) | exact HB.out))))
               have n2_ := Aside0.mk (below_step (by repeat (first | (with_reducible first | exact HB.out | apply below_alloc | apply pw_below_drewN | apply below_drew1) | exact HB.out)) hb)
               clear HO216
               clear HB
               have HO216 := n0_
               have HO227 := n1_
               have HB := n2_
               clear n0_ n1_ n2_
               clear hb ho75
               refine hK.out _ _ trivial (fun hHeld => ?_)
               clear hK K
               refine norm_ (a' := ?_) ?_ ?_
               rotate_left
               ·show Act.put _ (some 50) _ = _
                simp only [Act.put, List.setIfInBounds_toArray, List.set_cons_zero, List.set_cons_succ, i64_w, i32_w]
                rfl
               refine one_ (i := 0) (N := some 44) (bz 13 1903) rfl rfl (one_of HT_.out (by kernel_rfl)) (by decide) (fun K hK => ?_)
               refine Kd.R_lit_step (Kd.int .u8) _ 5 ?hg (N := 44) ?hd (xs := ([] : List Int)) (inner := []) (ok := fun _ => True) (okp := fun _ => True) ?hr ?hp (fun _ hk => hk) trivial (Below.refl _ _) (Nat.le_refl _) (by simp) ?_; (case hd => rfl); (case hg => rfl); (case hr => first | (go_simp; done) | (go_simp; rfl)); (case hp => exact (Reps.none _ _))
               intro v219 w76 ho77 hb hg_ hnew_
               clear hg_ hnew_
               (first | rw [← Ny218.out] at ho77 | (simp only [Int.reduceToNat] at ho77; rw [← Ny218.out] at ho77))
               have n0_ := Aside0.mk (Kd.R_below (by (with_reducible repeat (first | apply Kd.R_alloc | apply Kd.R_drewN | apply Kd.R_drew)); exact HO216.out) hb)
               have n1_ := Aside0.mk (Kd.R_elder' (by (with_reducible repeat (first | apply Kd.R_alloc | apply Kd.R_drewN | apply Kd.R_drew)); exact HO227.out) (Kd.R_base ho77) hb)
               have n2_ := Aside0.mk (Kd.R_lower (Kd.R_new' ho77 (Kd.R_lt (by (with_reducible repeat (first | apply Kd.R_alloc | apply Kd.R_drewN | apply Kd.R_drew)); exact HO227.out))) (below_size (by repeat (first | (with_reducible first | exact HB.out | apply below_alloc | apply pw_below_drewN | apply below_drew1) | exact HB.out))))
               have n3_ := Aside0.mk (below_step (by repeat (first | (with_reducible first | exact HB.out | apply below_alloc | apply pw_below_drewN | apply below_drew1) | exact HB.out)) hb)
               clear HO216
               clear HO227
               clear HB
               have HO216 := n0_
               have HO227 := n1_
               have HO220 := n2_
               have HB := n3_
               clear n0_ n1_ n2_ n3_
               clear hb ho77
               refine hK.out _ _ trivial (fun hHeld => ?_)
               clear hK K
               refine norm_ (a' := ?_) ?_ ?_
               rotate_left
               ·show Act.put _ (some 44) _ = _
                simp only [Act.put, List.setIfInBounds_toArray, List.set_cons_zero, List.set_cons_succ, i64_w, i32_w]
                rfl
               refine one_ (i := 4) (N := some 48) (bz 13 1919) rfl rfl (one_of HT_.out (by kernel_rfl)) (by decide) (fun K hK => ?_)
               refine Kd.R_append_rows_step (Kd.int .u8) (w0 := w) w.heap.size (by rfl) (.tmp 44) (.tmp 47) 29 5 (.int .u8 0) 1 rfl Tryd.underlying29 info5 rfl (by decide) (by omega) v219 y218 (xcv.take ((ji19) : Int).toNat) _ _ _ (fun k_ => some k_ ≠ (v226 : Value).ownBlock) (fun _ => False) rfl rfl ?aO ?aR (fun _ _ h => h) (fun _ h => h.elim) ?aF ?aB ?aS ?aL ?_
               (case aR => first | (rw [← show (xcv.take ((ji19) : Int).toNat).length = (ji19).toNat from (by rw [List.length_take]; have h_ : ((ji19) : Int) ≤ (xcv.length : Int) := of_decide_eq_true (by first | (with_reducible assumption) | assumption); omega)]; (try rw [take_len_]); repeat (first | exact (Kd.C_below HR221.out HB.out) | (with_reducible refine Kd.C_alloc ?_ _) | (with_reducible refine Kd.C_drewN ?_ _) | (with_reducible refine Kd.C_drew ?_))) | (repeat (first | exact (Kd.C_below HR221.out HB.out) | (with_reducible refine Kd.C_alloc ?_ _) | (with_reducible refine Kd.C_drewN ?_ _) | (with_reducible refine Kd.C_drew ?_))))
               (case aB => exact (by repeat (first | (with_reducible first | exact HB.out | apply below_alloc | apply pw_below_drewN | apply below_drew1) | exact HB.out)))
               (case aF => exact (fun k_ hk => Kd.fresh' (Kd.R_lt (by (with_reducible repeat (first | apply Kd.R_alloc | apply Kd.R_drewN | apply Kd.R_drew)); exact HO227.out)) k_ hk))
               (case aO => exact (by (with_reducible repeat (first | apply Kd.R_alloc | apply Kd.R_drewN | apply Kd.R_drew)); exact Kd.R_mono HO220.out (fun _ hk => hk.2)))
               (case aS => exact (below_size (by repeat (first | (with_reducible first | exact HB.out | apply below_alloc | apply pw_below_drewN | apply below_drew1) | exact HB.out))))
               (case aL => have := LMc22.out; have hlx_ := (show (xcv.take ((ji19) : Int).toNat).length = (ji19).toNat from (by rw [List.length_take]; have h_ : ((ji19) : Int) ≤ (xcv.length : Int) := of_decide_eq_true (by first | (with_reducible assumption) | assumption); omega)); omega)
               intro v223 w78 ho hb hg hat
               rw [← Ny222.out] at ho
               have n0_ := Aside0.mk (Kd.R_over' (by (with_reducible repeat (first | apply Kd.R_alloc | apply Kd.R_drewN | apply Kd.R_drew)); exact HO216.out) (Kd.R_typed (by (with_reducible repeat (first | apply Kd.R_alloc | apply Kd.R_drewN | apply Kd.R_drew)); exact HO220.out)) (by decide) hg)
               have n1_ := Aside0.mk (Kd.R_after (ok := (fun _ => True)) (by (with_reducible repeat (first | apply Kd.R_alloc | apply Kd.R_drewN | apply Kd.R_drew)); exact HO227.out) hg hat)
               have n2_ := Aside0.mk (hb)
               have n3_ := Aside0.mk (ho)
               clear HO216
               clear HO227
               clear HB
               clear HO220
               have HO216 := n0_
               have HO227 := n1_
               have HB := n2_
               have HO224 := n3_
               clear n0_ n1_ n2_ n3_
               clear ho hb hg hat
               refine hK.out _ _ trivial (fun hHeld => ?_)
               clear hK K
               refine norm_ (a' := ?_) ?_ ?_
               rotate_left
               ·show Act.put _ (some 48) _ = _
                simp only [Act.put, List.setIfInBounds_toArray, List.set_cons_zero, List.set_cons_succ, i64_w, i32_w]
                rfl
               exact norm_ (by simp only [putAll, Act.put, List.setIfInBounds_toArray, List.set_cons_zero, List.set_cons_succ]) (hCont (v219, v223, v226) _ ⟨(by (with_reducible repeat (first | apply Kd.R_alloc | apply Kd.R_drewN | apply Kd.R_drew)); exact HO216.out), (by (with_reducible repeat (first | apply Kd.R_alloc | apply Kd.R_drewN | apply Kd.R_drew)); exact HO224.out), (by (with_reducible repeat (first | apply Kd.R_alloc | apply Kd.R_drewN | apply Kd.R_drew)); exact Kd.R_mono HO227.out (fun _ hk => hk.2)), (by repeat (first | (with_reducible first | exact HB.out | apply below_alloc | apply pw_below_drewN | apply below_drew1) | exact HB.out))⟩)
             rintro ⟨v219, v223, v226⟩ w79 ⟨h0_, h1_, h2_, h3_⟩
             have n0_ : Aside0 (Kd.R k39 39 w79 bo (fun _ => True) (.slice Ao174 t214.length co174) t214) := ⟨h0_⟩
             have n1_ : Aside0 (Kd.R (Kd.int .u8) 5 w79 w.heap.size (fun k_ => some k_ ≠ (v226 : Value).ownBlock) v223 y222) := ⟨h1_⟩
             have n2_ : Aside0 (Kd.R (Kd.int .u8) 5 w79 w.heap.size (fun k_ => some k_ ≠ (v223 : Value).ownBlock) v226 y225) := ⟨h2_⟩
             have n3_ : Aside0 (Below w.heap.size w w79) := ⟨h3_⟩
             clear HO216
             clear HB
             clear h0_ h1_ h2_ h3_
             have HO216 := n0_
             have HO224 := n1_
             have HO227 := n2_
             have HB := n3_
             clear n0_ n1_ n2_ n3_
             have hHeld := trivial
             obtain ⟨Ao174, co174, eo81⟩ := Kd.R_slice HO227.out
             (first | subst eo81 | (injection eo81 with f1_ f2_ f3_; have f4_ := f1_.symm; have f5_ := f3_.symm; clear f1_ f2_ f3_; subst f4_; subst f5_))
             refine norm_ (a' := ?_) ?_ ?_
             rotate_left
             ·simp only [putAll, Act.put, List.setIfInBounds_toArray, List.set_cons_zero, List.set_cons_succ]
              rfl
             refine one_ (i := 7) (N := some 51) (bz 13 2047) rfl rfl (one_of HT_.out (by kernel_rfl)) (by decide) (fun K hK => ?_)
             refine Kd.R_append_rows_step (Kd.int .u8) (w0 := w) w.heap.size (by rfl) (.tmp 48) (.tmp 50) 29 5 (.int .u8 0) 1 rfl Tryd.underlying29 info5 rfl (by decide) (by omega) v223 y222 y225 _ _ _ (fun k_ => some k_ ≠ (.slice Ao174 y225.length co174 : Value).ownBlock) (fun _ => False) rfl rfl ?aO ?aR (fun _ _ h => h) (fun _ h => h.elim) ?aF ?aB ?aS ?aL ?_
             (case aR => repeat (first | exact (Kd.R_reads' HO227.out).2.2 | (with_reducible refine Kd.C_alloc ?_ _) | (with_reducible refine Kd.C_drewN ?_ _) | (with_reducible refine Kd.C_drew ?_)))
             (case aB => exact (by repeat (first | (with_reducible first | exact HB.out | apply below_alloc | apply pw_below_drewN | apply below_drew1) | exact HB.out)))
             (case aF => exact (fun k_ hk => Kd.fresh' (Kd.R_lt (by (with_reducible repeat (first | apply Kd.R_alloc | apply Kd.R_drewN | apply Kd.R_drew)); exact HO227.out)) k_ hk))
             (case aO => exact (by (with_reducible repeat (first | apply Kd.R_alloc | apply Kd.R_drewN | apply Kd.R_drew)); exact HO224.out))
             (case aS => exact (below_size (by repeat (first | (with_reducible first | exact HB.out | apply below_alloc | apply pw_below_drewN | apply below_drew1) | exact HB.out))))
             (case aL => have := LMc23.out; omega)
             intro v229 w80 ho hb hg hat
             rw [← Ny228.out] at ho
             have n0_ := Aside0.mk (Kd.R_over' (by (with_reducible repeat (first | apply Kd.R_alloc | apply Kd.R_drewN | apply Kd.R_drew)); exact HO216.out) (Kd.R_typed (by (with_reducible repeat (first | apply Kd.R_alloc | apply Kd.R_drewN | apply Kd.R_drew)); exact HO224.out)) (by decide) hg)
             have n1_ := Aside0.mk (Kd.R_after (ok := (fun _ => True)) (by (with_reducible repeat (first | apply Kd.R_alloc | apply Kd.R_drewN | apply Kd.R_drew)); exact Kd.R_mono HO227.out (fun _ hk => ⟨trivial, hk⟩)) hg hat)
             have n2_ := Aside0.mk (hb)
             have n3_ := Aside0.mk (ho)
             clear HO216
             clear HO227
             clear HB
             clear HO224
             have HO216 := n0_
             have HO227 := n1_
             have HB := n2_
             have HO230 := n3_
             clear n0_ n1_ n2_ n3_
             clear ho hb hg hat
             refine hK.out _ _ trivial (fun hHeld => ?_)
             clear hK K
             refine norm_ (a' := ?_) ?_ ?_
             rotate_left
             ·show Act.put _ (some 51) _ = _
              simp only [Act.put, List.setIfInBounds_toArray, List.set_cons_zero, List.set_cons_succ, i64_w, i32_w]
              rfl
             refine one_ (i := 11) (N := some 55) (bz 13 4095) rfl rfl (one_of HT_.out (by kernel_rfl)) (by decide) (fun K hK => ?_)
             refine Kd.R_append_rows_step (Kd.int .u8) (w0 := w) w.heap.size (by rfl) (.tmp 51) (.tmp 54) 29 5 (.int .u8 0) 1 rfl Tryd.underlying29 info5 rfl (by decide) (by omega) v229 y228 (xcv.drop ((ji19) : Int).toNat) _ _ _ (fun k_ => some k_ ≠ (.slice Ao174 y225.length co174 : Value).ownBlock) (fun _ => False) rfl rfl ?aO ?aR (fun _ _ h => h) (fun _ h => h.elim) ?aF ?aB ?aS ?aL ?_
             (case aR => first | (rw [← show (xcv.drop ((ji19) : Int).toNat).length = (xcv.length - (ji19).toNat) from List.length_drop]; repeat (first | exact (Kd.C_below HR231.out HB.out) | (with_reducible refine Kd.C_alloc ?_ _) | (with_reducible refine Kd.C_drewN ?_ _) | (with_reducible refine Kd.C_drew ?_))) | (repeat (first | exact (Kd.C_below HR231.out HB.out) | (with_reducible refine Kd.C_alloc ?_ _) | (with_reducible refine Kd.C_drewN ?_ _) | (with_reducible refine Kd.C_drew ?_))))
             (case aB => exact (by repeat (first | (with_reducible first | exact HB.out | apply below_alloc | apply pw_below_drewN | apply below_drew1) | exact HB.out)))
             (case aF => exact (fun k_ hk => Kd.fresh' (Kd.R_lt (by (with_reducible repeat (first | apply Kd.R_alloc | apply Kd.R_drewN | apply Kd.R_drew)); exact HO227.out)) k_ hk))
             (case aO => exact (by (with_reducible repeat (first | apply Kd.R_alloc | apply Kd.R_drewN | apply Kd.R_drew)); exact HO230.out))
             (case aS => exact (below_size (by repeat (first | (with_reducible first | exact HB.out | apply below_alloc | apply pw_below_drewN | apply below_drew1) | exact HB.out))))
             (case aL => have := LMc26.out; have hlx_ := (show (xcv.drop ((ji19) : Int).toNat).length = (xcv.length - (ji19).toNat) from List.length_drop); omega)
             intro v233 w82 ho hb hg hat
             rw [← Ny232.out] at ho
             have n0_ := Aside0.mk (Kd.R_over' (by (with_reducible repeat (first | apply Kd.R_alloc | apply Kd.R_drewN | apply Kd.R_drew)); exact HO216.out) (Kd.R_typed (by (with_reducible repeat (first | apply Kd.R_alloc | apply Kd.R_drewN | apply Kd.R_drew)); exact HO230.out)) (by decide) hg)
             have n1_ := Aside0.mk (Kd.R_after (ok := (fun _ => True)) (by (with_reducible repeat (first | apply Kd.R_alloc | apply Kd.R_drewN | apply Kd.R_drew)); exact HO227.out) hg hat)
             have n2_ := Aside0.mk (hb)
             have n3_ := Aside0.mk (ho)
             clear HO216
             clear HO227
             clear HB
             clear HO230
             have HO216 := n0_
             have HO227 := n1_
             have HB := n2_
             have HO234 := n3_
             clear n0_ n1_ n2_ n3_
             clear ho hb hg hat
             refine hK.out _ _ trivial (fun hHeld => ?_)
             clear hK K
             refine norm_ (a' := ?_) ?_ ?_
             rotate_left
             ·show Act.put _ (some 55) _ = _
              simp only [Act.put, List.setIfInBounds_toArray, List.set_cons_zero, List.set_cons_succ, i64_w, i32_w]
              rfl
             refine pure_ (i := 12) (N := some 11) (v := ?_) (a' := ?_) (bz 13 8191) rfl rfl (any_of HT_.out (by kernel_rfl)) (fun _ _ _ h => h) (Or.inl ⟨by rfl, ?_⟩) ?_ ?_
             rotate_left
             ·intro w'
              go_simp
              with_reducible rfl
             rotate_left
             ·simp only [Act.put, List.setIfInBounds_toArray, List.set_cons_zero, List.set_cons_succ, i64_w, i32_w]
              rfl
             refine done_ (done_of HT_.out (by kernel_rfl)) ?_
             try go_wp2_with (first | ((with_reducible refine gate_callee (f := 13) rfl ?_); refine goesL_ (some 68) rfl rfl Tryd.func13 (by kernel_rfl) rfl #[] rfl (by (try simp only [List.map_toArray, List.map_cons, List.map_nil]); first | done | rfl | (simp only [List.length_drop, List.length_take]; rfl)) ?_; (with_reducible refine (insolvencylaw25_awake.calls k  false _ ?side1 A27.out).mono ?_); (case side1 => exact LaidW.below HLd.out (by repeat (first | (with_reducible first | exact HB.out | apply below_alloc | apply pw_below_drewN | apply below_drew1) | exact HB.out))); rintro e w83 ⟨rfl, hb⟩; refine ⟨_, rfl, ?_⟩; have n0_ := Aside0.mk (Kd.R_below (by (with_reducible repeat (first | apply Kd.R_alloc | apply Kd.R_drewN | apply Kd.R_drew)); exact HO216.out) hb); have n1_ := Aside0.mk (Kd.R_below (by (with_reducible repeat (first | apply Kd.R_alloc | apply Kd.R_drewN | apply Kd.R_drew)); exact HO227.out) hb); have n2_ := Aside0.mk (Kd.R_below (by (with_reducible repeat (first | apply Kd.R_alloc | apply Kd.R_drewN | apply Kd.R_drew)); exact HO234.out) hb); have n3_ := Aside0.mk (below_step (by repeat (first | (with_reducible first | exact HB.out | apply below_alloc | apply pw_below_drewN | apply below_drew1) | exact HB.out)) hb); clear HO216; clear HO227; clear HO234; clear HB; have HO216 := n0_; have HO227 := n1_; have HO234 := n2_; have HB := n3_; clear n0_ n1_ n2_ n3_; (try clear hb); (try clear hb2); (try clear hk); (try clear hi)))
             go_ret
             exact ⟨by first | rfl | (simp [errW_none, errW_some] <;> rfl) | (simp only [← hji19]; first | rfl | (simp [errW_none, errW_some] <;> rfl)) | (simp [*, errW_none, errW_some] <;> rfl), below_step HBo.out (by repeat (first | (with_reducible first | exact HB.out | apply below_alloc | apply pw_below_drewN | apply below_drew1) | exact HB.out))⟩
           ·rw [if_neg c26] at H
            exact absurd H (by simp)
          ·rw [if_neg c23] at H
           exact absurd H (by simp)
         ·rw [if_neg c22] at H
          exact absurd H (by simp)
        ·rw [if_neg c21] at H
         exact absurd H (by simp)
       ·rw [if_neg c20] at H
        exact absurd H (by simp)
      ·rw [if_neg c18] at H
       have c18b0 : ((Int.tmod a4 4) == 1) = false := beq_eq_false_iff_ne.mpr c18
       have c18b1 : ((Int.tmod a4 4) != 1) = true := bne_iff_ne.mpr c18
       by_cases c84 : (Int.tmod a4 4) = 2
       ·rw [if_pos c84] at H
        have c84b0 : ((Int.tmod a4 4) == 2) = true := beq_iff_eq.mpr c84
        have c84b1 : ((Int.tmod a4 4) != 2) = false := bne_eq_false_iff_eq.mpr c84
        clear c84
        obtain ⟨y238, hy238⟩ : ∃ y_ : List Int, y_ = (([] : List Int)) := ⟨_, rfl⟩
        replace H : (if 0 ≤ (Int.tmod (wrap64 (a2)) (xcv.length : Int)) then (if (Int.tmod (wrap64 (a2)) (xcv.length : Int)) ≤ (xcv.length : Int) then (if y238.length + (xcv.take ((Int.tmod (wrap64 (a2)) (xcv.length : Int)) : Int).toNat).length < 140737488355328 then ((some (y238 ++ (xcv.take ((Int.tmod (wrap64 (a2)) (xcv.length : Int)) : Int).toNat) : List Int)).bind fun y242 => (if 0 ≤ (wrap64 ((Int.tmod (wrap64 (a2)) (xcv.length : Int)) + 1)) then (if (wrap64 ((Int.tmod (wrap64 (a2)) (xcv.length : Int)) + 1)) ≤ (xcv.length : Int) then (if y242.length + (xcv.drop ((wrap64 ((Int.tmod (wrap64 (a2)) (xcv.length : Int)) + 1)) : Int).toNat).length < 140737488355328 then ((insolvencylaw25_awake.f k).bind fun t249 => (if t249 = true then ((insolvencylaw25_same.f k a0).bind fun t250 => (if t250 = true then ((insolvencylaw25_same.f k (strOfNums (y242 ++ (xcv.drop ((wrap64 ((Int.tmod (wrap64 (a2)) (xcv.length : Int)) + 1)) : Int).toNat)))).bind fun t251 => (some t251)) else (some false))) else (some false))) else (none)) else (none)) else (none))) else (none)) else (none)) else (none)) = some r := by first | (rw [hy238]; with_reducible exact H) | (have H2_ := (Option.bind_some _ _).symm.trans H; rw [hy238]; with_reducible exact H2_) | (have H2_ := (Option.bind_some _ _).symm.trans H; with_reducible exact H2_) | with_reducible exact H | (rw [hy238]; exact H) | exact H
        have Ny238 := Aside0.mk hy238
        clear hy238
        obtain ⟨ji85, hji85⟩ : ∃ j_ : Int, (Int.tmod (wrap64 (a2)) (xcv.length : Int)) = j_ := ⟨_, rfl⟩
        replace H : (if 0 ≤ (ji85) then (if (ji85) ≤ (xcv.length : Int) then (if y238.length + (xcv.take ((ji85) : Int).toNat).length < 140737488355328 then ((some (y238 ++ (xcv.take ((ji85) : Int).toNat) : List Int)).bind fun y242 => (if 0 ≤ (wrap64 ((ji85) + 1)) then (if (wrap64 ((ji85) + 1)) ≤ (xcv.length : Int) then (if y242.length + (xcv.drop ((wrap64 ((ji85) + 1)) : Int).toNat).length < 140737488355328 then ((insolvencylaw25_awake.f k).bind fun t249 => (if t249 = true then ((insolvencylaw25_same.f k a0).bind fun t250 => (if t250 = true then ((insolvencylaw25_same.f k (strOfNums (y242 ++ (xcv.drop ((wrap64 ((ji85) + 1)) : Int).toNat)))).bind fun t251 => (some t251)) else (some false))) else (some false))) else (none)) else (none)) else (none))) else (none)) else (none)) else (none)) = some r := by first | (rw [hji85] at H; exact H) | (simp only [hji85] at H ⊢; exact H)
        (try rw [hji85] at A12)
        (try rw [hji85] at A13)
        by_cases c86 : 0 ≤ (ji85)
        ·rw [if_pos c86] at H
         have c86b0 := eq_true c86
         have c86b1 : decide (0 ≤ (ji85)) = true := decide_eq_true c86
         clear c86
         by_cases c87 : (ji85) ≤ (xcv.length : Int)
         ·rw [if_pos c87] at H
          have c87b0 := eq_true c87
          have c87b1 : decide ((ji85) ≤ (xcv.length : Int)) = true := decide_eq_true c87
          clear c87
          by_cases c88 : y238.length + (xcv.take ((ji85) : Int).toNat).length < 140737488355328
          ·rw [if_pos c88] at H
           have LMc88 := Aside0.mk c88
           clear c88
           obtain ⟨y242, hy242⟩ : ∃ y_ : List Int, y_ = (y238 ++ (xcv.take ((ji85) : Int).toNat)) := ⟨_, rfl⟩
           replace H : (if 0 ≤ (wrap64 ((ji85) + 1)) then (if (wrap64 ((ji85) + 1)) ≤ (xcv.length : Int) then (if y242.length + (xcv.drop ((wrap64 ((ji85) + 1)) : Int).toNat).length < 140737488355328 then ((insolvencylaw25_awake.f k).bind fun t249 => (if t249 = true then ((insolvencylaw25_same.f k a0).bind fun t250 => (if t250 = true then ((insolvencylaw25_same.f k (strOfNums (y242 ++ (xcv.drop ((wrap64 ((ji85) + 1)) : Int).toNat)))).bind fun t251 => (some t251)) else (some false))) else (some false))) else (none)) else (none)) else (none)) = some r := by first | (rw [hy242]; with_reducible exact H) | (have H2_ := (Option.bind_some _ _).symm.trans H; rw [hy242]; with_reducible exact H2_) | (have H2_ := (Option.bind_some _ _).symm.trans H; with_reducible exact H2_) | with_reducible exact H | (rw [hy242]; exact H) | exact H
           have Ny242 := Aside0.mk hy242
           clear hy242
           obtain ⟨ji89, hji89⟩ : ∃ j_ : Int, (wrap64 ((ji85) + 1)) = j_ := ⟨_, rfl⟩
           replace H : (if 0 ≤ (ji89) then (if (ji89) ≤ (xcv.length : Int) then (if y242.length + (xcv.drop ((ji89) : Int).toNat).length < 140737488355328 then ((insolvencylaw25_awake.f k).bind fun t249 => (if t249 = true then ((insolvencylaw25_same.f k a0).bind fun t250 => (if t250 = true then ((insolvencylaw25_same.f k (strOfNums (y242 ++ (xcv.drop ((ji89) : Int).toNat)))).bind fun t251 => (some t251)) else (some false))) else (some false))) else (none)) else (none)) else (none)) = some r := by first | (rw [hji89] at H; exact H) | (simp only [hji89] at H ⊢; exact H)
           (try rw [hji89] at A12)
           (try rw [hji89] at A13)
           have hji89w : (IntKind.i64.wrap ((ji85) + 1)) = ji89 := (i64_w _).trans hji89
           by_cases c90 : 0 ≤ (ji89)
           ·rw [if_pos c90] at H
            have c90b0 := eq_true c90
            have c90b1 : decide (0 ≤ (ji89)) = true := decide_eq_true c90
            clear c90
            by_cases c91 : (ji89) ≤ (xcv.length : Int)
            ·rw [if_pos c91] at H
             have c91b0 := eq_true c91
             have c91b1 : decide ((ji89) ≤ (xcv.length : Int)) = true := decide_eq_true c91
             clear c91
             by_cases c92 : y242.length + (xcv.drop ((ji89) : Int).toNat).length < 140737488355328
             ·rw [if_pos c92] at H
              have LMc92 := Aside0.mk c92
              clear c92
              obtain ⟨y246, hy246⟩ : ∃ y_ : List Int, y_ = (y242 ++ (xcv.drop ((ji89) : Int).toNat)) := ⟨_, rfl⟩
              replace H : ((insolvencylaw25_awake.f k).bind fun t249 => (if t249 = true then ((insolvencylaw25_same.f k a0).bind fun t250 => (if t250 = true then ((insolvencylaw25_same.f k (strOfNums y246)).bind fun t251 => (some t251)) else (some false))) else (some false))) = some r := by first | (rw [hy246]; with_reducible exact H) | (have H2_ := (Option.bind_some _ _).symm.trans H; rw [hy246]; with_reducible exact H2_) | (have H2_ := (Option.bind_some _ _).symm.trans H; with_reducible exact H2_) | with_reducible exact H | (rw [hy246]; exact H) | exact H
              have Ny246 := Aside0.mk hy246
              clear hy246
              replace H := Option.bind_eq_some_iff.mp H
              obtain ⟨t249, A930, H⟩ := H
              replace H : (if t249 = true then ((insolvencylaw25_same.f k a0).bind fun t250 => (if t250 = true then ((insolvencylaw25_same.f k (strOfNums y246)).bind fun t251 => (some t251)) else (some false))) else (some false)) = some r := H
              have A93 := Aside0.mk A930
              clear A930
              by_cases c94 : t249 = true
              ·subst c94
               have H1 : ((insolvencylaw25_same.f k a0).bind fun t250 => (if t250 = true then ((insolvencylaw25_same.f k (strOfNums y246)).bind fun t251 => (some t251)) else (some false))) = some r := by rw [if_pos rfl] at H; exact H
               clear H
               have H := H1
               clear H1
               replace H := Option.bind_eq_some_iff.mp H
               obtain ⟨t250, A950, H⟩ := H
               replace H : (if t250 = true then ((insolvencylaw25_same.f k (strOfNums y246)).bind fun t251 => (some t251)) else (some false)) = some r := H
               have A95 := Aside0.mk A950
               clear A950
               by_cases c96 : t250 = true
               ·subst c96
                have H1 : ((insolvencylaw25_same.f k (strOfNums y246)).bind fun t251 => (some t251)) = some r := by rw [if_pos rfl] at H; exact H
                clear H
                have H := H1
                clear H1
                replace H := Option.bind_eq_some_iff.mp H
                obtain ⟨t251, A970, H⟩ := H
                replace H : (some t251) = some r := H
                have A97 := Aside0.mk A970
                clear A970
                obtain rfl := Option.some.inj H
                try go_wp2_with (first | ((with_reducible refine gate_callee (f := 14) rfl ?_); refine goesL_ (some 23) rfl rfl Tryd.func14 (by kernel_rfl) rfl #[.slice A1 l1.length c1, .int .i64 4, .int .i64 20] rfl (by (try simp only [List.map_toArray, List.map_cons, List.map_nil]); first | done | rfl | (simp only [List.length_drop, List.length_take]; rfl)) ?_; (with_reducible refine (insolvencylaw0_Rows.calls _ _ l1 4 20 t214 _ ?side1 ?side2 A12.out).mono ?_); (case side1 => repeat (first | exact HR1.out | (with_reducible refine Kd.C_alloc ?_ _) | (with_reducible refine Kd.C_drewN ?_ _) | (with_reducible refine Kd.C_drew ?_))); (case side2 => exact HC1.out); rintro e w98 ⟨v215, rfl, ho0, hb⟩; refine ⟨_, rfl, ?_⟩; have n0_ := Aside0.mk (Kd.R_lower ho0 (below_size (by repeat (first | (with_reducible first | exact HB.out | apply below_alloc | apply pw_below_drewN | apply below_drew1) | exact HB.out)))); have n1_ := Aside0.mk (below_step (by repeat (first | (with_reducible first | exact HB.out | apply below_alloc | apply pw_below_drewN | apply below_drew1) | exact HB.out)) hb); clear HB; have HO216 := n0_; have HB := n1_; clear n0_ n1_; (try clear hb); (try clear hb2); (try clear hk); (try clear hi); (try clear ho0); obtain ⟨Ao174, co174, eo99⟩ := Kd.R_slice HO216.out; subst eo99) | ((with_reducible refine gate_callee (f := 16) rfl ?_); refine goesL_ (some 24) rfl rfl Tryd.func16 (by kernel_rfl) rfl #[.slice Ao174 t214.length co174] rfl (by (try simp only [List.map_toArray, List.map_cons, List.map_nil]); first | done | rfl | (simp only [List.length_drop, List.length_take]; rfl)) ?_; (with_reducible refine (insolvencyref25_Format.calls k _ _ t214 t217 _ ?side1 ?side2 A13.out).mono ?_); (case side1 => repeat (first | exact (Kd.R_reads' HO216.out).2.2 | (with_reducible refine Kd.C_alloc ?_ _) | (with_reducible refine Kd.C_drewN ?_ _) | (with_reducible refine Kd.C_drew ?_))); (case side2 => exact (Kd.R_reads' HO216.out).2.1); rintro e w100 ⟨rfl, hb⟩; refine ⟨_, rfl, ?_⟩; have n0_ := Aside0.mk (Kd.R_below (by (with_reducible repeat (first | apply Kd.R_alloc | apply Kd.R_drewN | apply Kd.R_drew)); exact HO216.out) hb); have n1_ := Aside0.mk (below_step (by repeat (first | (with_reducible first | exact HB.out | apply below_alloc | apply pw_below_drewN | apply below_drew1) | exact HB.out)) hb); clear HO216; clear HB; have HO216 := n0_; have HB := n1_; clear n0_ n1_; (try clear hb); (try clear hb2); (try clear hk); (try clear hi)))
                have n0_ := Aside0.mk (Kd.R_drew HO216.out)
                have n1_ := Aside0.mk (below_drew1 HB.out)
                clear HO216
                clear HB
                have HO216 := n0_
                have HB := n1_
                clear n0_ n1_
                obtain ⟨i0102, hi0102, _, hsz102, _⟩ := info_parts info5
                obtain ⟨hcut102, hA102, hC102⟩ := print_take_of (P := Tryd.prog) (Value.int .u8) 0 29 5 .i64 Tryd.underlying29 hi0102 hsz102 Acv ccv xcv (ji85) (of_decide_eq_true (by first | (with_reducible assumption) | assumption)) (of_decide_eq_true (by first | (with_reducible assumption) | assumption)) HCcv.out
                have HR241 := Aside0.mk (Kd.C_of_reads (h1 := fun _ => rfl) (hA102 _ (Kd.reads_of_C HRcv.out)))
                have HC241 := Aside0.mk hC102
                clear hA102 hC102 hi0102 hsz102
                obtain ⟨i0103, hi0103, _, hsz103, _⟩ := info_parts info5
                obtain ⟨A103, hcut103, hA103, hC103⟩ := print_drop_of (P := Tryd.prog) (Value.int .u8) 0 29 5 .i64 Tryd.underlying29 hi0103 hsz103 Acv ccv xcv (ji89) (of_decide_eq_true (by first | (with_reducible assumption) | assumption)) (of_decide_eq_true (by first | (with_reducible assumption) | assumption)) HCcv.out
                have HR245 := Aside0.mk (Kd.C_of_reads (h1 := fun _ => rfl) (hA103 _ (Kd.reads_of_C HRcv.out)))
                have HC245 := Aside0.mk hC103
                clear hA103 hC103 hi0103 hsz103
                refine start_ (n := 11) (S := fun w' => True) (ds := []) (bz 11 0) (by kernel_rfl) rfl rfl trivial (fun hHeld => ?_); refine with_tabW insolvencylaw25_HistoryParse.tab12 insolvencylaw25_HistoryParse.bits12 (fun HT_ HW_ => ?_)
                generalize w.drew = w101 at HO216 HB HR241 HR245 hHeld ⊢
                refine pure_ (i := 1) (N := some 59) (v := ?_) (a' := ?_) (bz 11 2) rfl rfl (any_of HT_.out (by kernel_rfl)) (fun _ _ _ h => h) (Or.inl ⟨by rfl, ?_⟩) ?_ ?_
                rotate_left
                ·intro w'
                 go_simp
                 with_reducible rfl
                rotate_left
                ·simp only [Act.put, List.setIfInBounds_toArray, List.set_cons_zero, List.set_cons_succ, i64_w, i32_w]
                 rfl
                refine pure_ (i := 2) (N := some 60) (v := ?_) (a' := ?_) (bz 11 6) rfl rfl (any_of HT_.out (by kernel_rfl)) (fun _ _ _ h => h) (Or.inl ⟨by rfl, ?_⟩) ?_ ?_
                rotate_left
                ·intro w'
                 go_simp
                 with_reducible rfl
                rotate_left
                ·simp only [Act.put, List.setIfInBounds_toArray, List.set_cons_zero, List.set_cons_succ, i64_w, i32_w]
                 rfl
                refine pure_ (i := 3) (N := some 61) (v := ?_) (a' := ?_) (bz 11 14) rfl rfl (any_of HT_.out (by kernel_rfl)) (fun _ _ _ h => h) (Or.inl ⟨by rfl, ?_⟩) ?_ ?_
                rotate_left
                ·intro w'
                 go_simp
                 with_reducible rfl
                rotate_left
                ·simp only [Act.put, List.setIfInBounds_toArray, List.set_cons_zero, List.set_cons_succ, i64_w, i32_w]
                 rfl
                refine pure_ (i := 5) (N := some 63) (v := ?_) (a' := ?_) (bz 11 46) rfl rfl (any_of HT_.out (by kernel_rfl)) (fun _ _ _ h => h) (Or.inl ⟨by rfl, ?_⟩) ?_ ?_
                rotate_left
                ·intro w'
                 go_simp
                 with_reducible rfl
                rotate_left
                ·simp only [Act.put, List.setIfInBounds_toArray, List.set_cons_zero, List.set_cons_succ, i64_w, i32_w]
                 rfl
                refine pure_ (i := 6) (N := some 64) (v := ?_) (a' := ?_) (bz 11 110) rfl rfl (any_of HT_.out (by kernel_rfl)) (fun _ _ _ h => h) (Or.inl ⟨by rfl, ?_⟩) ?_ ?_
                rotate_left
                ·intro w'
                 go_simp
                 with_reducible rfl
                rotate_left
                ·simp only [Act.put, List.setIfInBounds_toArray, List.set_cons_zero, List.set_cons_succ, i64_w, i32_w]
                 rfl
                refine pure_ (i := 7) (N := some 65) (v := ?_) (a' := ?_) (bz 11 238) rfl rfl (any_of HT_.out (by kernel_rfl)) (fun _ _ _ h => h) (Or.inl ⟨by rfl, ?_⟩) ?_ ?_
                rotate_left
                ·intro w'
                 go_simp
                 with_reducible rfl
                rotate_left
                ·simp only [Act.put, List.setIfInBounds_toArray, List.set_cons_zero, List.set_cons_succ, i64_w, i32_w]
                 rfl
                refine pure_ (i := 8) (N := some 66) (v := ?_) (a' := ?_) (bz 11 494) rfl rfl (any_of HT_.out (by kernel_rfl)) (fun _ _ _ h => h) (Or.inl ⟨by rfl, ?_⟩) ?_ ?_
                rotate_left
                ·intro w'
                 go_simp
                 with_reducible rfl
                rotate_left
                ·simp only [Act.put, List.setIfInBounds_toArray, List.set_cons_zero, List.set_cons_succ, i64_w, i32_w]
                 rfl
                refine one_ (i := 0) (N := some 58) (bz 11 495) rfl rfl (one_of HT_.out (by kernel_rfl)) (by decide) (fun K hK => ?_)
                refine Kd.R_lit_step (Kd.int .u8) _ 5 ?hg (N := 58) ?hd (xs := ([] : List Int)) (inner := []) (ok := fun _ => True) (okp := fun _ => True) ?hr ?hp (fun _ hk => hk) trivial (Below.refl _ _) (Nat.le_refl _) (by simp) ?_; (case hd => rfl); (case hg => rfl); (case hr => first | (go_simp; done) | (go_simp; rfl)); (case hp => exact (Reps.none _ _))
                intro v239 w104 ho105 hb hg_ hnew_
                clear hg_ hnew_
                (first | rw [← Ny238.out] at ho105 | (simp only [Int.reduceToNat] at ho105; rw [← Ny238.out] at ho105))
                have n0_ := Aside0.mk (Kd.R_below (by (with_reducible repeat (first | apply Kd.R_alloc | apply Kd.R_drewN | apply Kd.R_drew)); exact HO216.out) hb)
                have n1_ := Aside0.mk (Kd.R_lower ho105 (below_size (by repeat (first | (with_reducible first | exact HB.out | apply below_alloc | apply pw_below_drewN | apply below_drew1) | exact HB.out))))
                have n2_ := Aside0.mk (below_step (by repeat (first | (with_reducible first | exact HB.out | apply below_alloc | apply pw_below_drewN | apply below_drew1) | exact HB.out)) hb)
                clear HO216
                clear HB
                have HO216 := n0_
                have HO240 := n1_
                have HB := n2_
                clear n0_ n1_ n2_
                clear hb ho105
                refine hK.out _ _ trivial (fun hHeld => ?_)
                clear hK K
                refine norm_ (a' := ?_) ?_ ?_
                rotate_left
                ·show Act.put _ (some 58) _ = _
                 simp only [Act.put, List.setIfInBounds_toArray, List.set_cons_zero, List.set_cons_succ, i64_w, i32_w]
                 rfl
                refine one_ (i := 4) (N := some 62) (bz 11 511) rfl rfl (one_of HT_.out (by kernel_rfl)) (by decide) (fun K hK => ?_)
                refine Kd.R_append_rows_step (Kd.int .u8) (w0 := w) w.heap.size (by rfl) (.tmp 58) (.tmp 61) 29 5 (.int .u8 0) 1 rfl Tryd.underlying29 info5 rfl (by decide) (by omega) v239 y238 (xcv.take ((ji85) : Int).toNat) _ _ _ (fun _ => True) (fun _ => False) rfl rfl ?aO ?aR (fun _ _ h => h) (fun _ h => h.elim) ?aF ?aB ?aS ?aL ?_
                (case aR => first | (rw [← show (xcv.take ((ji85) : Int).toNat).length = (ji85).toNat from (by rw [List.length_take]; have h_ : ((ji85) : Int) ≤ (xcv.length : Int) := of_decide_eq_true (by first | (with_reducible assumption) | assumption); omega)]; (try rw [take_len_]); repeat (first | exact (Kd.C_below HR241.out HB.out) | (with_reducible refine Kd.C_alloc ?_ _) | (with_reducible refine Kd.C_drewN ?_ _) | (with_reducible refine Kd.C_drew ?_))) | (repeat (first | exact (Kd.C_below HR241.out HB.out) | (with_reducible refine Kd.C_alloc ?_ _) | (with_reducible refine Kd.C_drewN ?_ _) | (with_reducible refine Kd.C_drew ?_))))
                (case aB => exact (by repeat (first | (with_reducible first | exact HB.out | apply below_alloc | apply pw_below_drewN | apply below_drew1) | exact HB.out)))
                (case aF => exact (fun _ _ => trivial))
                (case aO => exact (by (with_reducible repeat (first | apply Kd.R_alloc | apply Kd.R_drewN | apply Kd.R_drew)); exact HO240.out))
                (case aS => exact (below_size (by repeat (first | (with_reducible first | exact HB.out | apply below_alloc | apply pw_below_drewN | apply below_drew1) | exact HB.out))))
                (case aL => have := LMc88.out; have hlx_ := (show (xcv.take ((ji85) : Int).toNat).length = (ji85).toNat from (by rw [List.length_take]; have h_ : ((ji85) : Int) ≤ (xcv.length : Int) := of_decide_eq_true (by first | (with_reducible assumption) | assumption); omega)); omega)
                intro v243 w106 ho hb hg hat
                rw [← Ny242.out] at ho
                have n0_ := Aside0.mk (Kd.R_over' (by (with_reducible repeat (first | apply Kd.R_alloc | apply Kd.R_drewN | apply Kd.R_drew)); exact HO216.out) (Kd.R_typed (by (with_reducible repeat (first | apply Kd.R_alloc | apply Kd.R_drewN | apply Kd.R_drew)); exact HO240.out)) (by decide) hg)
                have n1_ := Aside0.mk (hb)
                have n2_ := Aside0.mk (ho)
                clear HO216
                clear HB
                clear HO240
                have HO216 := n0_
                have HB := n1_
                have HO244 := n2_
                clear n0_ n1_ n2_
                clear ho hb hg hat
                refine hK.out _ _ trivial (fun hHeld => ?_)
                clear hK K
                refine norm_ (a' := ?_) ?_ ?_
                rotate_left
                ·show Act.put _ (some 62) _ = _
                 simp only [Act.put, List.setIfInBounds_toArray, List.set_cons_zero, List.set_cons_succ, i64_w, i32_w]
                 rfl
                refine one_ (i := 9) (N := some 67) (bz 11 1023) rfl rfl (one_of HT_.out (by kernel_rfl)) (by decide) (fun K hK => ?_)
                refine Kd.R_append_rows_step (Kd.int .u8) (w0 := w) w.heap.size (by rfl) (.tmp 62) (.tmp 66) 29 5 (.int .u8 0) 1 rfl Tryd.underlying29 info5 rfl (by decide) (by omega) v243 y242 (xcv.drop ((ji89) : Int).toNat) _ _ _ (fun _ => True) (fun _ => False) rfl rfl ?aO ?aR (fun _ _ h => h) (fun _ h => h.elim) ?aF ?aB ?aS ?aL ?_
                (case aR => first | (rw [← show (xcv.drop ((ji89) : Int).toNat).length = (xcv.length - (ji89).toNat) from List.length_drop]; repeat (first | exact (Kd.C_below HR245.out HB.out) | (with_reducible refine Kd.C_alloc ?_ _) | (with_reducible refine Kd.C_drewN ?_ _) | (with_reducible refine Kd.C_drew ?_))) | (repeat (first | exact (Kd.C_below HR245.out HB.out) | (with_reducible refine Kd.C_alloc ?_ _) | (with_reducible refine Kd.C_drewN ?_ _) | (with_reducible refine Kd.C_drew ?_))))
                (case aB => exact (by repeat (first | (with_reducible first | exact HB.out | apply below_alloc | apply pw_below_drewN | apply below_drew1) | exact HB.out)))
                (case aF => exact (fun _ _ => trivial))
                (case aO => exact (by (with_reducible repeat (first | apply Kd.R_alloc | apply Kd.R_drewN | apply Kd.R_drew)); exact HO244.out))
                (case aS => exact (below_size (by repeat (first | (with_reducible first | exact HB.out | apply below_alloc | apply pw_below_drewN | apply below_drew1) | exact HB.out))))
                (case aL => have := LMc92.out; have hlx_ := (show (xcv.drop ((ji89) : Int).toNat).length = (xcv.length - (ji89).toNat) from List.length_drop); omega)
                intro v247 w107 ho hb hg hat
                rw [← Ny246.out] at ho
                have n0_ := Aside0.mk (Kd.R_over' (by (with_reducible repeat (first | apply Kd.R_alloc | apply Kd.R_drewN | apply Kd.R_drew)); exact HO216.out) (Kd.R_typed (by (with_reducible repeat (first | apply Kd.R_alloc | apply Kd.R_drewN | apply Kd.R_drew)); exact HO244.out)) (by decide) hg)
                have n1_ := Aside0.mk (hb)
                have n2_ := Aside0.mk (ho)
                clear HO216
                clear HB
                clear HO244
                have HO216 := n0_
                have HB := n1_
                have HO248 := n2_
                clear n0_ n1_ n2_
                clear ho hb hg hat
                refine hK.out _ _ trivial (fun hHeld => ?_)
                clear hK K
                refine norm_ (a' := ?_) ?_ ?_
                rotate_left
                ·show Act.put _ (some 67) _ = _
                 simp only [Act.put, List.setIfInBounds_toArray, List.set_cons_zero, List.set_cons_succ, i64_w, i32_w]
                 rfl
                refine pure_ (i := 10) (N := some 11) (v := ?_) (a' := ?_) (bz 11 2047) rfl rfl (any_of HT_.out (by kernel_rfl)) (fun _ _ _ h => h) (Or.inl ⟨by rfl, ?_⟩) ?_ ?_
                rotate_left
                ·intro w'
                 go_simp
                 with_reducible rfl
                rotate_left
                ·simp only [Act.put, List.setIfInBounds_toArray, List.set_cons_zero, List.set_cons_succ, i64_w, i32_w]
                 rfl
                refine done_ (done_of HT_.out (by kernel_rfl)) ?_
                try go_wp2_with (first | ((with_reducible refine gate_callee (f := 13) rfl ?_); refine goesL_ (some 68) rfl rfl Tryd.func13 (by kernel_rfl) rfl #[] rfl (by (try simp only [List.map_toArray, List.map_cons, List.map_nil]); first | done | rfl | (simp only [List.length_drop, List.length_take]; rfl)) ?_; (with_reducible refine (insolvencylaw25_awake.calls k  true _ ?side1 A93.out).mono ?_); (case side1 => exact LaidW.below HLd.out (by repeat (first | (with_reducible first | exact HB.out | apply below_alloc | apply pw_below_drewN | apply below_drew1) | exact HB.out))); rintro e w108 ⟨rfl, hb⟩; refine ⟨_, rfl, ?_⟩; have n0_ := Aside0.mk (Kd.R_below (by (with_reducible repeat (first | apply Kd.R_alloc | apply Kd.R_drewN | apply Kd.R_drew)); exact HO216.out) hb); have n1_ := Aside0.mk (Kd.R_below (by (with_reducible repeat (first | apply Kd.R_alloc | apply Kd.R_drewN | apply Kd.R_drew)); exact HO248.out) hb); have n2_ := Aside0.mk (below_step (by repeat (first | (with_reducible first | exact HB.out | apply below_alloc | apply pw_below_drewN | apply below_drew1) | exact HB.out)) hb); clear HO216; clear HO248; clear HB; have HO216 := n0_; have HO248 := n1_; have HB := n2_; clear n0_ n1_ n2_; (try clear hb); (try clear hb2); (try clear hk); (try clear hi)) | (go_at_call 17; (with_reducible refine (insolvencylaw25_same.calls k a0 true _ ?side1 A95.out).mono ?_); (case side1 => exact LaidW.below HLd.out (by repeat (first | (with_reducible first | exact HB.out | apply below_alloc | apply pw_below_drewN | apply below_drew1) | exact HB.out))); rintro e w109 ⟨rfl, hb⟩; have n0_ := Aside0.mk (Kd.R_below (by (with_reducible repeat (first | apply Kd.R_alloc | apply Kd.R_drewN | apply Kd.R_drew)); exact HO216.out) hb); have n1_ := Aside0.mk (Kd.R_below (by (with_reducible repeat (first | apply Kd.R_alloc | apply Kd.R_drewN | apply Kd.R_drew)); exact HO248.out) hb); have n2_ := Aside0.mk (below_step (by repeat (first | (with_reducible first | exact HB.out | apply below_alloc | apply pw_below_drewN | apply below_drew1) | exact HB.out)) hb); clear HO216; clear HO248; clear HB; have HO216 := n0_; have HO248 := n1_; have HB := n2_; clear n0_ n1_ n2_; (try clear hb); (try clear hb2); (try clear hk); (try clear hi); have hcv110 := own_string (P := Tryd.prog) Tryd.underlying29 Tryd.underlying5 Tryd.underlying9 (Kd.own_of_R HO248.out)) | (go_at_call 17; (with_reducible refine (insolvencylaw25_same.calls k (strOfNums y246) t251 _ ?side1 A97.out).mono ?_); (case side1 => exact LaidW.below HLd.out (by repeat (first | (with_reducible first | exact HB.out | apply below_alloc | apply pw_below_drewN | apply below_drew1) | exact HB.out))); rintro e w111 ⟨rfl, hb⟩; have n0_ := Aside0.mk (Kd.R_below (by (with_reducible repeat (first | apply Kd.R_alloc | apply Kd.R_drewN | apply Kd.R_drew)); exact HO216.out) hb); have n1_ := Aside0.mk (Kd.R_below (by (with_reducible repeat (first | apply Kd.R_alloc | apply Kd.R_drewN | apply Kd.R_drew)); exact HO248.out) hb); have n2_ := Aside0.mk (below_step (by repeat (first | (with_reducible first | exact HB.out | apply below_alloc | apply pw_below_drewN | apply below_drew1) | exact HB.out)) hb); clear HO216; clear HO248; clear HB; have HO216 := n0_; have HO248 := n1_; have HB := n2_; clear n0_ n1_ n2_; (try clear hb); (try clear hb2); (try clear hk); (try clear hi)))
                go_ret
                exact ⟨by first | rfl | (simp [errW_none, errW_some] <;> rfl) | (simp only [← hji85, ← hji89]; first | rfl | (simp [errW_none, errW_some] <;> rfl)) | (simp [*, errW_none, errW_some] <;> rfl), below_step HBo.out (by repeat (first | (with_reducible first | exact HB.out | apply below_alloc | apply pw_below_drewN | apply below_drew1) | exact HB.out))⟩
               ·replace c96 := Bool.eq_false_iff.mpr c96
                subst c96
                have H1 : (some false) = some r := by rw [if_neg (show ¬ (false = true) by decide)] at H; exact H
                clear H
                have H := H1
                clear H1
                obtain rfl := Option.some.inj H
                try go_wp2_with (first | ((with_reducible refine gate_callee (f := 14) rfl ?_); refine goesL_ (some 23) rfl rfl Tryd.func14 (by kernel_rfl) rfl #[.slice A1 l1.length c1, .int .i64 4, .int .i64 20] rfl (by (try simp only [List.map_toArray, List.map_cons, List.map_nil]); first | done | rfl | (simp only [List.length_drop, List.length_take]; rfl)) ?_; (with_reducible refine (insolvencylaw0_Rows.calls _ _ l1 4 20 t214 _ ?side1 ?side2 A12.out).mono ?_); (case side1 => repeat (first | exact HR1.out | (with_reducible refine Kd.C_alloc ?_ _) | (with_reducible refine Kd.C_drewN ?_ _) | (with_reducible refine Kd.C_drew ?_))); (case side2 => exact HC1.out); rintro e w112 ⟨v215, rfl, ho0, hb⟩; refine ⟨_, rfl, ?_⟩; have n0_ := Aside0.mk (Kd.R_lower ho0 (below_size (by repeat (first | (with_reducible first | exact HB.out | apply below_alloc | apply pw_below_drewN | apply below_drew1) | exact HB.out)))); have n1_ := Aside0.mk (below_step (by repeat (first | (with_reducible first | exact HB.out | apply below_alloc | apply pw_below_drewN | apply below_drew1) | exact HB.out)) hb); clear HB; have HO216 := n0_; have HB := n1_; clear n0_ n1_; (try clear hb); (try clear hb2); (try clear hk); (try clear hi); (try clear ho0); obtain ⟨Ao174, co174, eo113⟩ := Kd.R_slice HO216.out; subst eo113) | ((with_reducible refine gate_callee (f := 16) rfl ?_); refine goesL_ (some 24) rfl rfl Tryd.func16 (by kernel_rfl) rfl #[.slice Ao174 t214.length co174] rfl (by (try simp only [List.map_toArray, List.map_cons, List.map_nil]); first | done | rfl | (simp only [List.length_drop, List.length_take]; rfl)) ?_; (with_reducible refine (insolvencyref25_Format.calls k _ _ t214 t217 _ ?side1 ?side2 A13.out).mono ?_); (case side1 => repeat (first | exact (Kd.R_reads' HO216.out).2.2 | (with_reducible refine Kd.C_alloc ?_ _) | (with_reducible refine Kd.C_drewN ?_ _) | (with_reducible refine Kd.C_drew ?_))); (case side2 => exact (Kd.R_reads' HO216.out).2.1); rintro e w114 ⟨rfl, hb⟩; refine ⟨_, rfl, ?_⟩; have n0_ := Aside0.mk (Kd.R_below (by (with_reducible repeat (first | apply Kd.R_alloc | apply Kd.R_drewN | apply Kd.R_drew)); exact HO216.out) hb); have n1_ := Aside0.mk (below_step (by repeat (first | (with_reducible first | exact HB.out | apply below_alloc | apply pw_below_drewN | apply below_drew1) | exact HB.out)) hb); clear HO216; clear HB; have HO216 := n0_; have HB := n1_; clear n0_ n1_; (try clear hb); (try clear hb2); (try clear hk); (try clear hi)))
                have n0_ := Aside0.mk (Kd.R_drew HO216.out)
                have n1_ := Aside0.mk (below_drew1 HB.out)
                clear HO216
                clear HB
                have HO216 := n0_
                have HB := n1_
                clear n0_ n1_
                obtain ⟨i0116, hi0116, _, hsz116, _⟩ := info_parts info5
                obtain ⟨hcut116, hA116, hC116⟩ := print_take_of (P := Tryd.prog) (Value.int .u8) 0 29 5 .i64 Tryd.underlying29 hi0116 hsz116 Acv ccv xcv (ji85) (of_decide_eq_true (by first | (with_reducible assumption) | assumption)) (of_decide_eq_true (by first | (with_reducible assumption) | assumption)) HCcv.out
                have HR241 := Aside0.mk (Kd.C_of_reads (h1 := fun _ => rfl) (hA116 _ (Kd.reads_of_C HRcv.out)))
                have HC241 := Aside0.mk hC116
                clear hA116 hC116 hi0116 hsz116
                obtain ⟨i0117, hi0117, _, hsz117, _⟩ := info_parts info5
                obtain ⟨A117, hcut117, hA117, hC117⟩ := print_drop_of (P := Tryd.prog) (Value.int .u8) 0 29 5 .i64 Tryd.underlying29 hi0117 hsz117 Acv ccv xcv (ji89) (of_decide_eq_true (by first | (with_reducible assumption) | assumption)) (of_decide_eq_true (by first | (with_reducible assumption) | assumption)) HCcv.out
                have HR245 := Aside0.mk (Kd.C_of_reads (h1 := fun _ => rfl) (hA117 _ (Kd.reads_of_C HRcv.out)))
                have HC245 := Aside0.mk hC117
                clear hA117 hC117 hi0117 hsz117
                refine start_ (n := 11) (S := fun w' => True) (ds := []) (bz 11 0) (by kernel_rfl) rfl rfl trivial (fun hHeld => ?_); refine with_tabW insolvencylaw25_HistoryParse.tab12 insolvencylaw25_HistoryParse.bits12 (fun HT_ HW_ => ?_)
                generalize w.drew = w115 at HO216 HB HR241 HR245 hHeld ⊢
                refine pure_ (i := 1) (N := some 59) (v := ?_) (a' := ?_) (bz 11 2) rfl rfl (any_of HT_.out (by kernel_rfl)) (fun _ _ _ h => h) (Or.inl ⟨by rfl, ?_⟩) ?_ ?_
                rotate_left
                ·intro w'
                 go_simp
                 with_reducible rfl
                rotate_left
                ·simp only [Act.put, List.setIfInBounds_toArray, List.set_cons_zero, List.set_cons_succ, i64_w, i32_w]
                 rfl
                refine pure_ (i := 2) (N := some 60) (v := ?_) (a' := ?_) (bz 11 6) rfl rfl (any_of HT_.out (by kernel_rfl)) (fun _ _ _ h => h) (Or.inl ⟨by rfl, ?_⟩) ?_ ?_
                rotate_left
                ·intro w'
                 go_simp
                 with_reducible rfl
                rotate_left
                ·simp only [Act.put, List.setIfInBounds_toArray, List.set_cons_zero, List.set_cons_succ, i64_w, i32_w]
                 rfl
                refine pure_ (i := 3) (N := some 61) (v := ?_) (a' := ?_) (bz 11 14) rfl rfl (any_of HT_.out (by kernel_rfl)) (fun _ _ _ h => h) (Or.inl ⟨by rfl, ?_⟩) ?_ ?_
                rotate_left
                ·intro w'
                 go_simp
                 with_reducible rfl
                rotate_left
                ·simp only [Act.put, List.setIfInBounds_toArray, List.set_cons_zero, List.set_cons_succ, i64_w, i32_w]
                 rfl
                refine pure_ (i := 5) (N := some 63) (v := ?_) (a' := ?_) (bz 11 46) rfl rfl (any_of HT_.out (by kernel_rfl)) (fun _ _ _ h => h) (Or.inl ⟨by rfl, ?_⟩) ?_ ?_
                rotate_left
                ·intro w'
                 go_simp
                 with_reducible rfl
                rotate_left
                ·simp only [Act.put, List.setIfInBounds_toArray, List.set_cons_zero, List.set_cons_succ, i64_w, i32_w]
                 rfl
                refine pure_ (i := 6) (N := some 64) (v := ?_) (a' := ?_) (bz 11 110) rfl rfl (any_of HT_.out (by kernel_rfl)) (fun _ _ _ h => h) (Or.inl ⟨by rfl, ?_⟩) ?_ ?_
                rotate_left
                ·intro w'
                 go_simp
                 with_reducible rfl
                rotate_left
                ·simp only [Act.put, List.setIfInBounds_toArray, List.set_cons_zero, List.set_cons_succ, i64_w, i32_w]
                 rfl
                refine pure_ (i := 7) (N := some 65) (v := ?_) (a' := ?_) (bz 11 238) rfl rfl (any_of HT_.out (by kernel_rfl)) (fun _ _ _ h => h) (Or.inl ⟨by rfl, ?_⟩) ?_ ?_
                rotate_left
                ·intro w'
                 go_simp
                 with_reducible rfl
                rotate_left
                ·simp only [Act.put, List.setIfInBounds_toArray, List.set_cons_zero, List.set_cons_succ, i64_w, i32_w]
                 rfl
                refine pure_ (i := 8) (N := some 66) (v := ?_) (a' := ?_) (bz 11 494) rfl rfl (any_of HT_.out (by kernel_rfl)) (fun _ _ _ h => h) (Or.inl ⟨by rfl, ?_⟩) ?_ ?_
                rotate_left
                ·intro w'
                 go_simp
                 with_reducible rfl
                rotate_left
                ·simp only [Act.put, List.setIfInBounds_toArray, List.set_cons_zero, List.set_cons_succ, i64_w, i32_w]
                 rfl
                refine one_ (i := 0) (N := some 58) (bz 11 495) rfl rfl (one_of HT_.out (by kernel_rfl)) (by decide) (fun K hK => ?_)
                refine Kd.R_lit_step (Kd.int .u8) _ 5 ?hg (N := 58) ?hd (xs := ([] : List Int)) (inner := []) (ok := fun _ => True) (okp := fun _ => True) ?hr ?hp (fun _ hk => hk) trivial (Below.refl _ _) (Nat.le_refl _) (by simp) ?_; (case hd => rfl); (case hg => rfl); (case hr => first | (go_simp; done) | (go_simp; rfl)); (case hp => exact (Reps.none _ _))
                intro v239 w118 ho119 hb hg_ hnew_
                clear hg_ hnew_
                (first | rw [← Ny238.out] at ho119 | (simp only [Int.reduceToNat] at ho119; rw [← Ny238.out] at ho119))
                have n0_ := Aside0.mk (Kd.R_below (by (with_reducible repeat (first | apply Kd.R_alloc | apply Kd.R_drewN | apply Kd.R_drew)); exact HO216.out) hb)
                have n1_ := Aside0.mk (Kd.R_lower ho119 (below_size (by repeat (first | (with_reducible first | exact HB.out | apply below_alloc | apply pw_below_drewN | apply below_drew1) | exact HB.out))))
                have n2_ := Aside0.mk (below_step (by repeat (first | (with_reducible first | exact HB.out | apply below_alloc | apply pw_below_drewN | apply below_drew1) | exact HB.out)) hb)
                clear HO216
                clear HB
                have HO216 := n0_
                have HO240 := n1_
                have HB := n2_
                clear n0_ n1_ n2_
                clear hb ho119
                refine hK.out _ _ trivial (fun hHeld => ?_)
                clear hK K
                refine norm_ (a' := ?_) ?_ ?_
                rotate_left
                ·show Act.put _ (some 58) _ = _
                 simp only [Act.put, List.setIfInBounds_toArray, List.set_cons_zero, List.set_cons_succ, i64_w, i32_w]
                 rfl
                refine one_ (i := 4) (N := some 62) (bz 11 511) rfl rfl (one_of HT_.out (by kernel_rfl)) (by decide) (fun K hK => ?_)
                refine Kd.R_append_rows_step (Kd.int .u8) (w0 := w) w.heap.size (by rfl) (.tmp 58) (.tmp 61) 29 5 (.int .u8 0) 1 rfl Tryd.underlying29 info5 rfl (by decide) (by omega) v239 y238 (xcv.take ((ji85) : Int).toNat) _ _ _ (fun _ => True) (fun _ => False) rfl rfl ?aO ?aR (fun _ _ h => h) (fun _ h => h.elim) ?aF ?aB ?aS ?aL ?_
                (case aR => first | (rw [← show (xcv.take ((ji85) : Int).toNat).length = (ji85).toNat from (by rw [List.length_take]; have h_ : ((ji85) : Int) ≤ (xcv.length : Int) := of_decide_eq_true (by first | (with_reducible assumption) | assumption); omega)]; (try rw [take_len_]); repeat (first | exact (Kd.C_below HR241.out HB.out) | (with_reducible refine Kd.C_alloc ?_ _) | (with_reducible refine Kd.C_drewN ?_ _) | (with_reducible refine Kd.C_drew ?_))) | (repeat (first | exact (Kd.C_below HR241.out HB.out) | (with_reducible refine Kd.C_alloc ?_ _) | (with_reducible refine Kd.C_drewN ?_ _) | (with_reducible refine Kd.C_drew ?_))))
                (case aB => exact (by repeat (first | (with_reducible first | exact HB.out | apply below_alloc | apply pw_below_drewN | apply below_drew1) | exact HB.out)))
                (case aF => exact (fun _ _ => trivial))
                (case aO => exact (by (with_reducible repeat (first | apply Kd.R_alloc | apply Kd.R_drewN | apply Kd.R_drew)); exact HO240.out))
                (case aS => exact (below_size (by repeat (first | (with_reducible first | exact HB.out | apply below_alloc | apply pw_below_drewN | apply below_drew1) | exact HB.out))))
                (case aL => have := LMc88.out; have hlx_ := (show (xcv.take ((ji85) : Int).toNat).length = (ji85).toNat from (by rw [List.length_take]; have h_ : ((ji85) : Int) ≤ (xcv.length : Int) := of_decide_eq_true (by first | (with_reducible assumption) | assumption); omega)); omega)
                intro v243 w120 ho hb hg hat
                rw [← Ny242.out] at ho
                have n0_ := Aside0.mk (Kd.R_over' (by (with_reducible repeat (first | apply Kd.R_alloc | apply Kd.R_drewN | apply Kd.R_drew)); exact HO216.out) (Kd.R_typed (by (with_reducible repeat (first | apply Kd.R_alloc | apply Kd.R_drewN | apply Kd.R_drew)); exact HO240.out)) (by decide) hg)
                have n1_ := Aside0.mk (hb)
                have n2_ := Aside0.mk (ho)
                clear HO216
                clear HB
                clear HO240
                have HO216 := n0_
                have HB := n1_
                have HO244 := n2_
                clear n0_ n1_ n2_
                clear ho hb hg hat
                refine hK.out _ _ trivial (fun hHeld => ?_)
                clear hK K
                refine norm_ (a' := ?_) ?_ ?_
                rotate_left
                ·show Act.put _ (some 62) _ = _
                 simp only [Act.put, List.setIfInBounds_toArray, List.set_cons_zero, List.set_cons_succ, i64_w, i32_w]
                 rfl
                refine one_ (i := 9) (N := some 67) (bz 11 1023) rfl rfl (one_of HT_.out (by kernel_rfl)) (by decide) (fun K hK => ?_)
                refine Kd.R_append_rows_step (Kd.int .u8) (w0 := w) w.heap.size (by rfl) (.tmp 62) (.tmp 66) 29 5 (.int .u8 0) 1 rfl Tryd.underlying29 info5 rfl (by decide) (by omega) v243 y242 (xcv.drop ((ji89) : Int).toNat) _ _ _ (fun _ => True) (fun _ => False) rfl rfl ?aO ?aR (fun _ _ h => h) (fun _ h => h.elim) ?aF ?aB ?aS ?aL ?_
                (case aR => first | (rw [← show (xcv.drop ((ji89) : Int).toNat).length = (xcv.length - (ji89).toNat) from List.length_drop]; repeat (first | exact (Kd.C_below HR245.out HB.out) | (with_reducible refine Kd.C_alloc ?_ _) | (with_reducible refine Kd.C_drewN ?_ _) | (with_reducible refine Kd.C_drew ?_))) | (repeat (first | exact (Kd.C_below HR245.out HB.out) | (with_reducible refine Kd.C_alloc ?_ _) | (with_reducible refine Kd.C_drewN ?_ _) | (with_reducible refine Kd.C_drew ?_))))
                (case aB => exact (by repeat (first | (with_reducible first | exact HB.out | apply below_alloc | apply pw_below_drewN | apply below_drew1) | exact HB.out)))
                (case aF => exact (fun _ _ => trivial))
                (case aO => exact (by (with_reducible repeat (first | apply Kd.R_alloc | apply Kd.R_drewN | apply Kd.R_drew)); exact HO244.out))
                (case aS => exact (below_size (by repeat (first | (with_reducible first | exact HB.out | apply below_alloc | apply pw_below_drewN | apply below_drew1) | exact HB.out))))
                (case aL => have := LMc92.out; have hlx_ := (show (xcv.drop ((ji89) : Int).toNat).length = (xcv.length - (ji89).toNat) from List.length_drop); omega)
                intro v247 w121 ho hb hg hat
                rw [← Ny246.out] at ho
                have n0_ := Aside0.mk (Kd.R_over' (by (with_reducible repeat (first | apply Kd.R_alloc | apply Kd.R_drewN | apply Kd.R_drew)); exact HO216.out) (Kd.R_typed (by (with_reducible repeat (first | apply Kd.R_alloc | apply Kd.R_drewN | apply Kd.R_drew)); exact HO244.out)) (by decide) hg)
                have n1_ := Aside0.mk (hb)
                have n2_ := Aside0.mk (ho)
                clear HO216
                clear HB
                clear HO244
                have HO216 := n0_
                have HB := n1_
                have HO248 := n2_
                clear n0_ n1_ n2_
                clear ho hb hg hat
                refine hK.out _ _ trivial (fun hHeld => ?_)
                clear hK K
                refine norm_ (a' := ?_) ?_ ?_
                rotate_left
                ·show Act.put _ (some 67) _ = _
                 simp only [Act.put, List.setIfInBounds_toArray, List.set_cons_zero, List.set_cons_succ, i64_w, i32_w]
                 rfl
                refine pure_ (i := 10) (N := some 11) (v := ?_) (a' := ?_) (bz 11 2047) rfl rfl (any_of HT_.out (by kernel_rfl)) (fun _ _ _ h => h) (Or.inl ⟨by rfl, ?_⟩) ?_ ?_
                rotate_left
                ·intro w'
                 go_simp
                 with_reducible rfl
                rotate_left
                ·simp only [Act.put, List.setIfInBounds_toArray, List.set_cons_zero, List.set_cons_succ, i64_w, i32_w]
                 rfl
                refine done_ (done_of HT_.out (by kernel_rfl)) ?_
                try go_wp2_with (first | ((with_reducible refine gate_callee (f := 13) rfl ?_); refine goesL_ (some 68) rfl rfl Tryd.func13 (by kernel_rfl) rfl #[] rfl (by (try simp only [List.map_toArray, List.map_cons, List.map_nil]); first | done | rfl | (simp only [List.length_drop, List.length_take]; rfl)) ?_; (with_reducible refine (insolvencylaw25_awake.calls k  true _ ?side1 A93.out).mono ?_); (case side1 => exact LaidW.below HLd.out (by repeat (first | (with_reducible first | exact HB.out | apply below_alloc | apply pw_below_drewN | apply below_drew1) | exact HB.out))); rintro e w122 ⟨rfl, hb⟩; refine ⟨_, rfl, ?_⟩; have n0_ := Aside0.mk (Kd.R_below (by (with_reducible repeat (first | apply Kd.R_alloc | apply Kd.R_drewN | apply Kd.R_drew)); exact HO216.out) hb); have n1_ := Aside0.mk (Kd.R_below (by (with_reducible repeat (first | apply Kd.R_alloc | apply Kd.R_drewN | apply Kd.R_drew)); exact HO248.out) hb); have n2_ := Aside0.mk (below_step (by repeat (first | (with_reducible first | exact HB.out | apply below_alloc | apply pw_below_drewN | apply below_drew1) | exact HB.out)) hb); clear HO216; clear HO248; clear HB; have HO216 := n0_; have HO248 := n1_; have HB := n2_; clear n0_ n1_ n2_; (try clear hb); (try clear hb2); (try clear hk); (try clear hi)) | (go_at_call 17; (with_reducible refine (insolvencylaw25_same.calls k a0 false _ ?side1 A95.out).mono ?_); (case side1 => exact LaidW.below HLd.out (by repeat (first | (with_reducible first | exact HB.out | apply below_alloc | apply pw_below_drewN | apply below_drew1) | exact HB.out))); rintro e w123 ⟨rfl, hb⟩; have n0_ := Aside0.mk (Kd.R_below (by (with_reducible repeat (first | apply Kd.R_alloc | apply Kd.R_drewN | apply Kd.R_drew)); exact HO216.out) hb); have n1_ := Aside0.mk (Kd.R_below (by (with_reducible repeat (first | apply Kd.R_alloc | apply Kd.R_drewN | apply Kd.R_drew)); exact HO248.out) hb); have n2_ := Aside0.mk (below_step (by repeat (first | (with_reducible first | exact HB.out | apply below_alloc | apply pw_below_drewN | apply below_drew1) | exact HB.out)) hb); clear HO216; clear HO248; clear HB; have HO216 := n0_; have HO248 := n1_; have HB := n2_; clear n0_ n1_ n2_; (try clear hb); (try clear hb2); (try clear hk); (try clear hi)))
                go_ret
                exact ⟨by first | rfl | (simp [errW_none, errW_some] <;> rfl) | (simp only [← hji85, ← hji89]; first | rfl | (simp [errW_none, errW_some] <;> rfl)) | (simp [*, errW_none, errW_some] <;> rfl), below_step HBo.out (by repeat (first | (with_reducible first | exact HB.out | apply below_alloc | apply pw_below_drewN | apply below_drew1) | exact HB.out))⟩
              ·replace c94 := Bool.eq_false_iff.mpr c94
               subst c94
               have H1 : (some false) = some r := by rw [if_neg (show ¬ (false = true) by decide)] at H; exact H
               clear H
               have H := H1
               clear H1
               obtain rfl := Option.some.inj H
               try go_wp2_with (first | ((with_reducible refine gate_callee (f := 14) rfl ?_); refine goesL_ (some 23) rfl rfl Tryd.func14 (by kernel_rfl) rfl #[.slice A1 l1.length c1, .int .i64 4, .int .i64 20] rfl (by (try simp only [List.map_toArray, List.map_cons, List.map_nil]); first | done | rfl | (simp only [List.length_drop, List.length_take]; rfl)) ?_; (with_reducible refine (insolvencylaw0_Rows.calls _ _ l1 4 20 t214 _ ?side1 ?side2 A12.out).mono ?_); (case side1 => repeat (first | exact HR1.out | (with_reducible refine Kd.C_alloc ?_ _) | (with_reducible refine Kd.C_drewN ?_ _) | (with_reducible refine Kd.C_drew ?_))); (case side2 => exact HC1.out); rintro e w124 ⟨v215, rfl, ho0, hb⟩; refine ⟨_, rfl, ?_⟩; have n0_ := Aside0.mk (Kd.R_lower ho0 (below_size (by repeat (first | (with_reducible first | exact HB.out | apply below_alloc | apply pw_below_drewN | apply below_drew1) | exact HB.out)))); have n1_ := Aside0.mk (below_step (by repeat (first | (with_reducible first | exact HB.out | apply below_alloc | apply pw_below_drewN | apply below_drew1) | exact HB.out)) hb); clear HB; have HO216 := n0_; have HB := n1_; clear n0_ n1_; (try clear hb); (try clear hb2); (try clear hk); (try clear hi); (try clear ho0); obtain ⟨Ao174, co174, eo125⟩ := Kd.R_slice HO216.out; subst eo125) | ((with_reducible refine gate_callee (f := 16) rfl ?_); refine goesL_ (some 24) rfl rfl Tryd.func16 (by kernel_rfl) rfl #[.slice Ao174 t214.length co174] rfl (by (try simp only [List.map_toArray, List.map_cons, List.map_nil]); first | done | rfl | (simp only [List.length_drop, List.length_take]; rfl)) ?_; (with_reducible refine (insolvencyref25_Format.calls k _ _ t214 t217 _ ?side1 ?side2 A13.out).mono ?_); (case side1 => repeat (first | exact (Kd.R_reads' HO216.out).2.2 | (with_reducible refine Kd.C_alloc ?_ _) | (with_reducible refine Kd.C_drewN ?_ _) | (with_reducible refine Kd.C_drew ?_))); (case side2 => exact (Kd.R_reads' HO216.out).2.1); rintro e w126 ⟨rfl, hb⟩; refine ⟨_, rfl, ?_⟩; have n0_ := Aside0.mk (Kd.R_below (by (with_reducible repeat (first | apply Kd.R_alloc | apply Kd.R_drewN | apply Kd.R_drew)); exact HO216.out) hb); have n1_ := Aside0.mk (below_step (by repeat (first | (with_reducible first | exact HB.out | apply below_alloc | apply pw_below_drewN | apply below_drew1) | exact HB.out)) hb); clear HO216; clear HB; have HO216 := n0_; have HB := n1_; clear n0_ n1_; (try clear hb); (try clear hb2); (try clear hk); (try clear hi)))
               have n0_ := Aside0.mk (Kd.R_drew HO216.out)
               have n1_ := Aside0.mk (below_drew1 HB.out)
               clear HO216
               clear HB
               have HO216 := n0_
               have HB := n1_
               clear n0_ n1_
               obtain ⟨i0128, hi0128, _, hsz128, _⟩ := info_parts info5
               obtain ⟨hcut128, hA128, hC128⟩ := print_take_of (P := Tryd.prog) (Value.int .u8) 0 29 5 .i64 Tryd.underlying29 hi0128 hsz128 Acv ccv xcv (ji85) (of_decide_eq_true (by first | (with_reducible assumption) | assumption)) (of_decide_eq_true (by first | (with_reducible assumption) | assumption)) HCcv.out
               have HR241 := Aside0.mk (Kd.C_of_reads (h1 := fun _ => rfl) (hA128 _ (Kd.reads_of_C HRcv.out)))
               have HC241 := Aside0.mk hC128
               clear hA128 hC128 hi0128 hsz128
               obtain ⟨i0129, hi0129, _, hsz129, _⟩ := info_parts info5
               obtain ⟨A129, hcut129, hA129, hC129⟩ := print_drop_of (P := Tryd.prog) (Value.int .u8) 0 29 5 .i64 Tryd.underlying29 hi0129 hsz129 Acv ccv xcv (ji89) (of_decide_eq_true (by first | (with_reducible assumption) | assumption)) (of_decide_eq_true (by first | (with_reducible assumption) | assumption)) HCcv.out
               have HR245 := Aside0.mk (Kd.C_of_reads (h1 := fun _ => rfl) (hA129 _ (Kd.reads_of_C HRcv.out)))
               have HC245 := Aside0.mk hC129
               clear hA129 hC129 hi0129 hsz129
               refine start_ (n := 11) (S := fun w' => True) (ds := []) (bz 11 0) (by kernel_rfl) rfl rfl trivial (fun hHeld => ?_); refine with_tabW insolvencylaw25_HistoryParse.tab12 insolvencylaw25_HistoryParse.bits12 (fun HT_ HW_ => ?_)
               generalize w.drew = w127 at HO216 HB HR241 HR245 hHeld ⊢
               refine pure_ (i := 1) (N := some 59) (v := ?_) (a' := ?_) (bz 11 2) rfl rfl (any_of HT_.out (by kernel_rfl)) (fun _ _ _ h => h) (Or.inl ⟨by rfl, ?_⟩) ?_ ?_
               rotate_left
               ·intro w'
                go_simp
                with_reducible rfl
               rotate_left
               ·simp only [Act.put, List.setIfInBounds_toArray, List.set_cons_zero, List.set_cons_succ, i64_w, i32_w]
                rfl
               refine pure_ (i := 2) (N := some 60) (v := ?_) (a' := ?_) (bz 11 6) rfl rfl (any_of HT_.out (by kernel_rfl)) (fun _ _ _ h => h) (Or.inl ⟨by rfl, ?_⟩) ?_ ?_
               rotate_left
               ·intro w'
                go_simp
                with_reducible rfl
               rotate_left
               ·simp only [Act.put, List.setIfInBounds_toArray, List.set_cons_zero, List.set_cons_succ, i64_w, i32_w]
                rfl
               refine pure_ (i := 3) (N := some 61) (v := ?_) (a' := ?_) (bz 11 14) rfl rfl (any_of HT_.out (by kernel_rfl)) (fun _ _ _ h => h) (Or.inl ⟨by rfl, ?_⟩) ?_ ?_
               rotate_left
               ·intro w'
                go_simp
                with_reducible rfl
               rotate_left
               ·simp only [Act.put, List.setIfInBounds_toArray, List.set_cons_zero, List.set_cons_succ, i64_w, i32_w]
                rfl
               refine pure_ (i := 5) (N := some 63) (v := ?_) (a' := ?_) (bz 11 46) rfl rfl (any_of HT_.out (by kernel_rfl)) (fun _ _ _ h => h) (Or.inl ⟨by rfl, ?_⟩) ?_ ?_
               rotate_left
               ·intro w'
                go_simp
                with_reducible rfl
               rotate_left
               ·simp only [Act.put, List.setIfInBounds_toArray, List.set_cons_zero, List.set_cons_succ, i64_w, i32_w]
                rfl
               refine pure_ (i := 6) (N := some 64) (v := ?_) (a' := ?_) (bz 11 110) rfl rfl (any_of HT_.out (by kernel_rfl)) (fun _ _ _ h => h) (Or.inl ⟨by rfl, ?_⟩) ?_ ?_
               rotate_left
               ·intro w'
                go_simp
                with_reducible rfl
               rotate_left
               ·simp only [Act.put, List.setIfInBounds_toArray, List.set_cons_zero, List.set_cons_succ, i64_w, i32_w]
                rfl
               refine pure_ (i := 7) (N := some 65) (v := ?_) (a' := ?_) (bz 11 238) rfl rfl (any_of HT_.out (by kernel_rfl)) (fun _ _ _ h => h) (Or.inl ⟨by rfl, ?_⟩) ?_ ?_
               rotate_left
               ·intro w'
                go_simp
                with_reducible rfl
               rotate_left
               ·simp only [Act.put, List.setIfInBounds_toArray, List.set_cons_zero, List.set_cons_succ, i64_w, i32_w]
                rfl
               refine pure_ (i := 8) (N := some 66) (v := ?_) (a' := ?_) (bz 11 494) rfl rfl (any_of HT_.out (by kernel_rfl)) (fun _ _ _ h => h) (Or.inl ⟨by rfl, ?_⟩) ?_ ?_
               rotate_left
               ·intro w'
                go_simp
                with_reducible rfl
               rotate_left
               ·simp only [Act.put, List.setIfInBounds_toArray, List.set_cons_zero, List.set_cons_succ, i64_w, i32_w]
                rfl
               refine one_ (i := 0) (N := some 58) (bz 11 495) rfl rfl (one_of HT_.out (by kernel_rfl)) (by decide) (fun K hK => ?_)
               refine Kd.R_lit_step (Kd.int .u8) _ 5 ?hg (N := 58) ?hd (xs := ([] : List Int)) (inner := []) (ok := fun _ => True) (okp := fun _ => True) ?hr ?hp (fun _ hk => hk) trivial (Below.refl _ _) (Nat.le_refl _) (by simp) ?_; (case hd => rfl); (case hg => rfl); (case hr => first | (go_simp; done) | (go_simp; rfl)); (case hp => exact (Reps.none _ _))
               intro v239 w130 ho131 hb hg_ hnew_
               clear hg_ hnew_
               (first | rw [← Ny238.out] at ho131 | (simp only [Int.reduceToNat] at ho131; rw [← Ny238.out] at ho131))
               have n0_ := Aside0.mk (Kd.R_below (by (with_reducible repeat (first | apply Kd.R_alloc | apply Kd.R_drewN | apply Kd.R_drew)); exact HO216.out) hb)
               have n1_ := Aside0.mk (Kd.R_lower ho131 (below_size (by repeat (first | (with_reducible first | exact HB.out | apply below_alloc | apply pw_below_drewN | apply below_drew1) | exact HB.out))))
               have n2_ := Aside0.mk (below_step (by repeat (first | (with_reducible first | exact HB.out | apply below_alloc | apply pw_below_drewN | apply below_drew1) | exact HB.out)) hb)
               clear HO216
               clear HB
               have HO216 := n0_
               have HO240 := n1_
               have HB := n2_
               clear n0_ n1_ n2_
               clear hb ho131
               refine hK.out _ _ trivial (fun hHeld => ?_)
               clear hK K
               refine norm_ (a' := ?_) ?_ ?_
               rotate_left
               ·show Act.put _ (some 58) _ = _
                simp only [Act.put, List.setIfInBounds_toArray, List.set_cons_zero, List.set_cons_succ, i64_w, i32_w]
                rfl
               refine one_ (i := 4) (N := some 62) (bz 11 511) rfl rfl (one_of HT_.out (by kernel_rfl)) (by decide) (fun K hK => ?_)
               refine Kd.R_append_rows_step (Kd.int .u8) (w0 := w) w.heap.size (by rfl) (.tmp 58) (.tmp 61) 29 5 (.int .u8 0) 1 rfl Tryd.underlying29 info5 rfl (by decide) (by omega) v239 y238 (xcv.take ((ji85) : Int).toNat) _ _ _ (fun _ => True) (fun _ => False) rfl rfl ?aO ?aR (fun _ _ h => h) (fun _ h => h.elim) ?aF ?aB ?aS ?aL ?_
               (case aR => first | (rw [← show (xcv.take ((ji85) : Int).toNat).length = (ji85).toNat from (by rw [List.length_take]; have h_ : ((ji85) : Int) ≤ (xcv.length : Int) := of_decide_eq_true (by first | (with_reducible assumption) | assumption); omega)]; (try rw [take_len_]); repeat (first | exact (Kd.C_below HR241.out HB.out) | (with_reducible refine Kd.C_alloc ?_ _) | (with_reducible refine Kd.C_drewN ?_ _) | (with_reducible refine Kd.C_drew ?_))) | (repeat (first | exact (Kd.C_below HR241.out HB.out) | (with_reducible refine Kd.C_alloc ?_ _) | (with_reducible refine Kd.C_drewN ?_ _) | (with_reducible refine Kd.C_drew ?_))))
               (case aB => exact (by repeat (first | (with_reducible first | exact HB.out | apply below_alloc | apply pw_below_drewN | apply below_drew1) | exact HB.out)))
               (case aF => exact (fun _ _ => trivial))
               (case aO => exact (by (with_reducible repeat (first | apply Kd.R_alloc | apply Kd.R_drewN | apply Kd.R_drew)); exact HO240.out))
               (case aS => exact (below_size (by repeat (first | (with_reducible first | exact HB.out | apply below_alloc | apply pw_below_drewN | apply below_drew1) | exact HB.out))))
               (case aL => have := LMc88.out; have hlx_ := (show (xcv.take ((ji85) : Int).toNat).length = (ji85).toNat from (by rw [List.length_take]; have h_ : ((ji85) : Int) ≤ (xcv.length : Int) := of_decide_eq_true (by first | (with_reducible assumption) | assumption); omega)); omega)
               intro v243 w132 ho hb hg hat
               rw [← Ny242.out] at ho
               have n0_ := Aside0.mk (Kd.R_over' (by (with_reducible repeat (first | apply Kd.R_alloc | apply Kd.R_drewN | apply Kd.R_drew)); exact HO216.out) (Kd.R_typed (by (with_reducible repeat (first | apply Kd.R_alloc | apply Kd.R_drewN | apply Kd.R_drew)); exact HO240.out)) (by decide) hg)
               have n1_ := Aside0.mk (hb)
               have n2_ := Aside0.mk (ho)
               clear HO216
               clear HB
               clear HO240
               have HO216 := n0_
               have HB := n1_
               have HO244 := n2_
               clear n0_ n1_ n2_
               clear ho hb hg hat
               refine hK.out _ _ trivial (fun hHeld => ?_)
               clear hK K
               refine norm_ (a' := ?_) ?_ ?_
               rotate_left
               ·show Act.put _ (some 62) _ = _
                simp only [Act.put, List.setIfInBounds_toArray, List.set_cons_zero, List.set_cons_succ, i64_w, i32_w]
                rfl
               refine one_ (i := 9) (N := some 67) (bz 11 1023) rfl rfl (one_of HT_.out (by kernel_rfl)) (by decide) (fun K hK => ?_)
               refine Kd.R_append_rows_step (Kd.int .u8) (w0 := w) w.heap.size (by rfl) (.tmp 62) (.tmp 66) 29 5 (.int .u8 0) 1 rfl Tryd.underlying29 info5 rfl (by decide) (by omega) v243 y242 (xcv.drop ((ji89) : Int).toNat) _ _ _ (fun _ => True) (fun _ => False) rfl rfl ?aO ?aR (fun _ _ h => h) (fun _ h => h.elim) ?aF ?aB ?aS ?aL ?_
               (case aR => first | (rw [← show (xcv.drop ((ji89) : Int).toNat).length = (xcv.length - (ji89).toNat) from List.length_drop]; repeat (first | exact (Kd.C_below HR245.out HB.out) | (with_reducible refine Kd.C_alloc ?_ _) | (with_reducible refine Kd.C_drewN ?_ _) | (with_reducible refine Kd.C_drew ?_))) | (repeat (first | exact (Kd.C_below HR245.out HB.out) | (with_reducible refine Kd.C_alloc ?_ _) | (with_reducible refine Kd.C_drewN ?_ _) | (with_reducible refine Kd.C_drew ?_))))
               (case aB => exact (by repeat (first | (with_reducible first | exact HB.out | apply below_alloc | apply pw_below_drewN | apply below_drew1) | exact HB.out)))
               (case aF => exact (fun _ _ => trivial))
               (case aO => exact (by (with_reducible repeat (first | apply Kd.R_alloc | apply Kd.R_drewN | apply Kd.R_drew)); exact HO244.out))
               (case aS => exact (below_size (by repeat (first | (with_reducible first | exact HB.out | apply below_alloc | apply pw_below_drewN | apply below_drew1) | exact HB.out))))
               (case aL => have := LMc92.out; have hlx_ := (show (xcv.drop ((ji89) : Int).toNat).length = (xcv.length - (ji89).toNat) from List.length_drop); omega)
               intro v247 w133 ho hb hg hat
               rw [← Ny246.out] at ho
               have n0_ := Aside0.mk (Kd.R_over' (by (with_reducible repeat (first | apply Kd.R_alloc | apply Kd.R_drewN | apply Kd.R_drew)); exact HO216.out) (Kd.R_typed (by (with_reducible repeat (first | apply Kd.R_alloc | apply Kd.R_drewN | apply Kd.R_drew)); exact HO244.out)) (by decide) hg)
               have n1_ := Aside0.mk (hb)
               have n2_ := Aside0.mk (ho)
               clear HO216
               clear HB
               clear HO244
               have HO216 := n0_
               have HB := n1_
               have HO248 := n2_
               clear n0_ n1_ n2_
               clear ho hb hg hat
               refine hK.out _ _ trivial (fun hHeld => ?_)
               clear hK K
               refine norm_ (a' := ?_) ?_ ?_
               rotate_left
               ·show Act.put _ (some 67) _ = _
                simp only [Act.put, List.setIfInBounds_toArray, List.set_cons_zero, List.set_cons_succ, i64_w, i32_w]
                rfl
               refine pure_ (i := 10) (N := some 11) (v := ?_) (a' := ?_) (bz 11 2047) rfl rfl (any_of HT_.out (by kernel_rfl)) (fun _ _ _ h => h) (Or.inl ⟨by rfl, ?_⟩) ?_ ?_
               rotate_left
               ·intro w'
                go_simp
                with_reducible rfl
               rotate_left
               ·simp only [Act.put, List.setIfInBounds_toArray, List.set_cons_zero, List.set_cons_succ, i64_w, i32_w]
                rfl
               refine done_ (done_of HT_.out (by kernel_rfl)) ?_
               try go_wp2_with (first | ((with_reducible refine gate_callee (f := 13) rfl ?_); refine goesL_ (some 68) rfl rfl Tryd.func13 (by kernel_rfl) rfl #[] rfl (by (try simp only [List.map_toArray, List.map_cons, List.map_nil]); first | done | rfl | (simp only [List.length_drop, List.length_take]; rfl)) ?_; (with_reducible refine (insolvencylaw25_awake.calls k  false _ ?side1 A93.out).mono ?_); (case side1 => exact LaidW.below HLd.out (by repeat (first | (with_reducible first | exact HB.out | apply below_alloc | apply pw_below_drewN | apply below_drew1) | exact HB.out))); rintro e w134 ⟨rfl, hb⟩; refine ⟨_, rfl, ?_⟩; have n0_ := Aside0.mk (Kd.R_below (by (with_reducible repeat (first | apply Kd.R_alloc | apply Kd.R_drewN | apply Kd.R_drew)); exact HO216.out) hb); have n1_ := Aside0.mk (Kd.R_below (by (with_reducible repeat (first | apply Kd.R_alloc | apply Kd.R_drewN | apply Kd.R_drew)); exact HO248.out) hb); have n2_ := Aside0.mk (below_step (by repeat (first | (with_reducible first | exact HB.out | apply below_alloc | apply pw_below_drewN | apply below_drew1) | exact HB.out)) hb); clear HO216; clear HO248; clear HB; have HO216 := n0_; have HO248 := n1_; have HB := n2_; clear n0_ n1_ n2_; (try clear hb); (try clear hb2); (try clear hk); (try clear hi)))
               go_ret
               exact ⟨by first | rfl | (simp [errW_none, errW_some] <;> rfl) | (simp only [← hji85, ← hji89]; first | rfl | (simp [errW_none, errW_some] <;> rfl)) | (simp [*, errW_none, errW_some] <;> rfl), below_step HBo.out (by repeat (first | (with_reducible first | exact HB.out | apply below_alloc | apply pw_below_drewN | apply below_drew1) | exact HB.out))⟩
             ·rw [if_neg c92] at H
              exact absurd H (by simp)
            ·rw [if_neg c91] at H
             exact absurd H (by simp)
           ·rw [if_neg c90] at H
            exact absurd H (by simp)
          ·rw [if_neg c88] at H
           exact absurd H (by simp)
         ·rw [if_neg c87] at H
          exact absurd H (by simp)
        ·rw [if_neg c86] at H
         exact absurd H (by simp)
       ·rw [if_neg c84] at H
        have c84b0 : ((Int.tmod a4 4) == 2) = false := beq_eq_false_iff_ne.mpr c84
        have c84b1 : ((Int.tmod a4 4) != 2) = true := bne_iff_ne.mpr c84
        replace H := Option.bind_eq_some_iff.mp H
        obtain ⟨t252, A1350, H⟩ := H
        replace H : (if t252 = true then ((insolvencylaw25_same.f k a0).bind fun t253 => (if t253 = true then ((insolvencylaw25_same.f k (strOfNums xcv)).bind fun t254 => (some t254)) else (some false))) else (some false)) = some r := H
        have A135 := Aside0.mk A1350
        clear A1350
        by_cases c136 : t252 = true
        ·subst c136
         have H1 : ((insolvencylaw25_same.f k a0).bind fun t253 => (if t253 = true then ((insolvencylaw25_same.f k (strOfNums xcv)).bind fun t254 => (some t254)) else (some false))) = some r := by rw [if_pos rfl] at H; exact H
         clear H
         have H := H1
         clear H1
         replace H := Option.bind_eq_some_iff.mp H
         obtain ⟨t253, A1370, H⟩ := H
         replace H : (if t253 = true then ((insolvencylaw25_same.f k (strOfNums xcv)).bind fun t254 => (some t254)) else (some false)) = some r := H
         have A137 := Aside0.mk A1370
         clear A1370
         by_cases c138 : t253 = true
         ·subst c138
          have H1 : ((insolvencylaw25_same.f k (strOfNums xcv)).bind fun t254 => (some t254)) = some r := by rw [if_pos rfl] at H; exact H
          clear H
          have H := H1
          clear H1
          replace H := Option.bind_eq_some_iff.mp H
          obtain ⟨t254, A1390, H⟩ := H
          replace H : (some t254) = some r := H
          have A139 := Aside0.mk A1390
          clear A1390
          obtain rfl := Option.some.inj H
          go_wp2_with (first | ((with_reducible refine gate_callee (f := 14) rfl ?_); refine goesL_ (some 23) rfl rfl Tryd.func14 (by kernel_rfl) rfl #[.slice A1 l1.length c1, .int .i64 4, .int .i64 20] rfl (by (try simp only [List.map_toArray, List.map_cons, List.map_nil]); first | done | rfl | (simp only [List.length_drop, List.length_take]; rfl)) ?_; (with_reducible refine (insolvencylaw0_Rows.calls _ _ l1 4 20 t214 _ ?side1 ?side2 A12.out).mono ?_); (case side1 => repeat (first | exact HR1.out | (with_reducible refine Kd.C_alloc ?_ _) | (with_reducible refine Kd.C_drewN ?_ _) | (with_reducible refine Kd.C_drew ?_))); (case side2 => exact HC1.out); rintro e w140 ⟨v215, rfl, ho0, hb⟩; refine ⟨_, rfl, ?_⟩; have n0_ := Aside0.mk (Kd.R_lower ho0 (below_size (by repeat (first | (with_reducible first | exact HB.out | apply below_alloc | apply pw_below_drewN | apply below_drew1) | exact HB.out)))); have n1_ := Aside0.mk (below_step (by repeat (first | (with_reducible first | exact HB.out | apply below_alloc | apply pw_below_drewN | apply below_drew1) | exact HB.out)) hb); clear HB; have HO216 := n0_; have HB := n1_; clear n0_ n1_; (try clear hb); (try clear hb2); (try clear hk); (try clear hi); (try clear ho0); obtain ⟨Ao174, co174, eo141⟩ := Kd.R_slice HO216.out; subst eo141) | ((with_reducible refine gate_callee (f := 16) rfl ?_); refine goesL_ (some 24) rfl rfl Tryd.func16 (by kernel_rfl) rfl #[.slice Ao174 t214.length co174] rfl (by (try simp only [List.map_toArray, List.map_cons, List.map_nil]); first | done | rfl | (simp only [List.length_drop, List.length_take]; rfl)) ?_; (with_reducible refine (insolvencyref25_Format.calls k _ _ t214 t217 _ ?side1 ?side2 A13.out).mono ?_); (case side1 => repeat (first | exact (Kd.R_reads' HO216.out).2.2 | (with_reducible refine Kd.C_alloc ?_ _) | (with_reducible refine Kd.C_drewN ?_ _) | (with_reducible refine Kd.C_drew ?_))); (case side2 => exact (Kd.R_reads' HO216.out).2.1); rintro e w142 ⟨rfl, hb⟩; refine ⟨_, rfl, ?_⟩; have n0_ := Aside0.mk (Kd.R_below (by (with_reducible repeat (first | apply Kd.R_alloc | apply Kd.R_drewN | apply Kd.R_drew)); exact HO216.out) hb); have n1_ := Aside0.mk (below_step (by repeat (first | (with_reducible first | exact HB.out | apply below_alloc | apply pw_below_drewN | apply below_drew1) | exact HB.out)) hb); clear HO216; clear HB; have HO216 := n0_; have HB := n1_; clear n0_ n1_; (try clear hb); (try clear hb2); (try clear hk); (try clear hi)) | ((with_reducible refine gate_callee (f := 13) rfl ?_); refine goesL_ (some 68) rfl rfl Tryd.func13 (by kernel_rfl) rfl #[] rfl (by (try simp only [List.map_toArray, List.map_cons, List.map_nil]); first | done | rfl | (simp only [List.length_drop, List.length_take]; rfl)) ?_; (with_reducible refine (insolvencylaw25_awake.calls k  true _ ?side1 A135.out).mono ?_); (case side1 => exact LaidW.below HLd.out (by repeat (first | (with_reducible first | exact HB.out | apply below_alloc | apply pw_below_drewN | apply below_drew1) | exact HB.out))); rintro e w143 ⟨rfl, hb⟩; refine ⟨_, rfl, ?_⟩; have n0_ := Aside0.mk (Kd.R_below (by (with_reducible repeat (first | apply Kd.R_alloc | apply Kd.R_drewN | apply Kd.R_drew)); exact HO216.out) hb); have n1_ := Aside0.mk (below_step (by repeat (first | (with_reducible first | exact HB.out | apply below_alloc | apply pw_below_drewN | apply below_drew1) | exact HB.out)) hb); clear HO216; clear HB; have HO216 := n0_; have HB := n1_; clear n0_ n1_; (try clear hb); (try clear hb2); (try clear hk); (try clear hi)) | (go_at_call 17; (with_reducible refine (insolvencylaw25_same.calls k a0 true _ ?side1 A137.out).mono ?_); (case side1 => exact LaidW.below HLd.out (by repeat (first | (with_reducible first | exact HB.out | apply below_alloc | apply pw_below_drewN | apply below_drew1) | exact HB.out))); rintro e w144 ⟨rfl, hb⟩; have n0_ := Aside0.mk (Kd.R_below (by (with_reducible repeat (first | apply Kd.R_alloc | apply Kd.R_drewN | apply Kd.R_drew)); exact HO216.out) hb); have n1_ := Aside0.mk (below_step (by repeat (first | (with_reducible first | exact HB.out | apply below_alloc | apply pw_below_drewN | apply below_drew1) | exact HB.out)) hb); clear HO216; clear HB; have HO216 := n0_; have HB := n1_; clear n0_ n1_; (try clear hb); (try clear hb2); (try clear hk); (try clear hi); have hcv145 := Kd.C_string (P := Tryd.prog) (A := Acv) (c := ccv) Tryd.underlying29 Tryd.underlying5 Tryd.underlying9 (Kd.C_below HRcv.out HB.out)) | (go_at_call 17; (with_reducible refine (insolvencylaw25_same.calls k (strOfNums xcv) t254 _ ?side1 A139.out).mono ?_); (case side1 => exact LaidW.below HLd.out (by repeat (first | (with_reducible first | exact HB.out | apply below_alloc | apply pw_below_drewN | apply below_drew1) | exact HB.out))); rintro e w146 ⟨rfl, hb⟩; have n0_ := Aside0.mk (Kd.R_below (by (with_reducible repeat (first | apply Kd.R_alloc | apply Kd.R_drewN | apply Kd.R_drew)); exact HO216.out) hb); have n1_ := Aside0.mk (below_step (by repeat (first | (with_reducible first | exact HB.out | apply below_alloc | apply pw_below_drewN | apply below_drew1) | exact HB.out)) hb); clear HO216; clear HB; have HO216 := n0_; have HB := n1_; clear n0_ n1_; (try clear hb); (try clear hb2); (try clear hk); (try clear hi)))
          go_ret
          exact ⟨by first | rfl | (simp [errW_none, errW_some] <;> rfl) | (simp [*, errW_none, errW_some] <;> rfl), below_step HBo.out (by repeat (first | (with_reducible first | exact HB.out | apply below_alloc | apply pw_below_drewN | apply below_drew1) | exact HB.out))⟩
         ·replace c138 := Bool.eq_false_iff.mpr c138
          subst c138
          have H1 : (some false) = some r := by rw [if_neg (show ¬ (false = true) by decide)] at H; exact H
          clear H
          have H := H1
          clear H1
          obtain rfl := Option.some.inj H
          go_wp2_with (first | ((with_reducible refine gate_callee (f := 14) rfl ?_); refine goesL_ (some 23) rfl rfl Tryd.func14 (by kernel_rfl) rfl #[.slice A1 l1.length c1, .int .i64 4, .int .i64 20] rfl (by (try simp only [List.map_toArray, List.map_cons, List.map_nil]); first | done | rfl | (simp only [List.length_drop, List.length_take]; rfl)) ?_; (with_reducible refine (insolvencylaw0_Rows.calls _ _ l1 4 20 t214 _ ?side1 ?side2 A12.out).mono ?_); (case side1 => repeat (first | exact HR1.out | (with_reducible refine Kd.C_alloc ?_ _) | (with_reducible refine Kd.C_drewN ?_ _) | (with_reducible refine Kd.C_drew ?_))); (case side2 => exact HC1.out); rintro e w147 ⟨v215, rfl, ho0, hb⟩; refine ⟨_, rfl, ?_⟩; have n0_ := Aside0.mk (Kd.R_lower ho0 (below_size (by repeat (first | (with_reducible first | exact HB.out | apply below_alloc | apply pw_below_drewN | apply below_drew1) | exact HB.out)))); have n1_ := Aside0.mk (below_step (by repeat (first | (with_reducible first | exact HB.out | apply below_alloc | apply pw_below_drewN | apply below_drew1) | exact HB.out)) hb); clear HB; have HO216 := n0_; have HB := n1_; clear n0_ n1_; (try clear hb); (try clear hb2); (try clear hk); (try clear hi); (try clear ho0); obtain ⟨Ao174, co174, eo148⟩ := Kd.R_slice HO216.out; subst eo148) | ((with_reducible refine gate_callee (f := 16) rfl ?_); refine goesL_ (some 24) rfl rfl Tryd.func16 (by kernel_rfl) rfl #[.slice Ao174 t214.length co174] rfl (by (try simp only [List.map_toArray, List.map_cons, List.map_nil]); first | done | rfl | (simp only [List.length_drop, List.length_take]; rfl)) ?_; (with_reducible refine (insolvencyref25_Format.calls k _ _ t214 t217 _ ?side1 ?side2 A13.out).mono ?_); (case side1 => repeat (first | exact (Kd.R_reads' HO216.out).2.2 | (with_reducible refine Kd.C_alloc ?_ _) | (with_reducible refine Kd.C_drewN ?_ _) | (with_reducible refine Kd.C_drew ?_))); (case side2 => exact (Kd.R_reads' HO216.out).2.1); rintro e w149 ⟨rfl, hb⟩; refine ⟨_, rfl, ?_⟩; have n0_ := Aside0.mk (Kd.R_below (by (with_reducible repeat (first | apply Kd.R_alloc | apply Kd.R_drewN | apply Kd.R_drew)); exact HO216.out) hb); have n1_ := Aside0.mk (below_step (by repeat (first | (with_reducible first | exact HB.out | apply below_alloc | apply pw_below_drewN | apply below_drew1) | exact HB.out)) hb); clear HO216; clear HB; have HO216 := n0_; have HB := n1_; clear n0_ n1_; (try clear hb); (try clear hb2); (try clear hk); (try clear hi)) | ((with_reducible refine gate_callee (f := 13) rfl ?_); refine goesL_ (some 68) rfl rfl Tryd.func13 (by kernel_rfl) rfl #[] rfl (by (try simp only [List.map_toArray, List.map_cons, List.map_nil]); first | done | rfl | (simp only [List.length_drop, List.length_take]; rfl)) ?_; (with_reducible refine (insolvencylaw25_awake.calls k  true _ ?side1 A135.out).mono ?_); (case side1 => exact LaidW.below HLd.out (by repeat (first | (with_reducible first | exact HB.out | apply below_alloc | apply pw_below_drewN | apply below_drew1) | exact HB.out))); rintro e w150 ⟨rfl, hb⟩; refine ⟨_, rfl, ?_⟩; have n0_ := Aside0.mk (Kd.R_below (by (with_reducible repeat (first | apply Kd.R_alloc | apply Kd.R_drewN | apply Kd.R_drew)); exact HO216.out) hb); have n1_ := Aside0.mk (below_step (by repeat (first | (with_reducible first | exact HB.out | apply below_alloc | apply pw_below_drewN | apply below_drew1) | exact HB.out)) hb); clear HO216; clear HB; have HO216 := n0_; have HB := n1_; clear n0_ n1_; (try clear hb); (try clear hb2); (try clear hk); (try clear hi)) | (go_at_call 17; (with_reducible refine (insolvencylaw25_same.calls k a0 false _ ?side1 A137.out).mono ?_); (case side1 => exact LaidW.below HLd.out (by repeat (first | (with_reducible first | exact HB.out | apply below_alloc | apply pw_below_drewN | apply below_drew1) | exact HB.out))); rintro e w151 ⟨rfl, hb⟩; have n0_ := Aside0.mk (Kd.R_below (by (with_reducible repeat (first | apply Kd.R_alloc | apply Kd.R_drewN | apply Kd.R_drew)); exact HO216.out) hb); have n1_ := Aside0.mk (below_step (by repeat (first | (with_reducible first | exact HB.out | apply below_alloc | apply pw_below_drewN | apply below_drew1) | exact HB.out)) hb); clear HO216; clear HB; have HO216 := n0_; have HB := n1_; clear n0_ n1_; (try clear hb); (try clear hb2); (try clear hk); (try clear hi)))
          go_ret
          exact ⟨by first | rfl | (simp [errW_none, errW_some] <;> rfl) | (simp [*, errW_none, errW_some] <;> rfl), below_step HBo.out (by repeat (first | (with_reducible first | exact HB.out | apply below_alloc | apply pw_below_drewN | apply below_drew1) | exact HB.out))⟩
        ·replace c136 := Bool.eq_false_iff.mpr c136
         subst c136
         have H1 : (some false) = some r := by rw [if_neg (show ¬ (false = true) by decide)] at H; exact H
         clear H
         have H := H1
         clear H1
         obtain rfl := Option.some.inj H
         go_wp2_with (first | ((with_reducible refine gate_callee (f := 14) rfl ?_); refine goesL_ (some 23) rfl rfl Tryd.func14 (by kernel_rfl) rfl #[.slice A1 l1.length c1, .int .i64 4, .int .i64 20] rfl (by (try simp only [List.map_toArray, List.map_cons, List.map_nil]); first | done | rfl | (simp only [List.length_drop, List.length_take]; rfl)) ?_; (with_reducible refine (insolvencylaw0_Rows.calls _ _ l1 4 20 t214 _ ?side1 ?side2 A12.out).mono ?_); (case side1 => repeat (first | exact HR1.out | (with_reducible refine Kd.C_alloc ?_ _) | (with_reducible refine Kd.C_drewN ?_ _) | (with_reducible refine Kd.C_drew ?_))); (case side2 => exact HC1.out); rintro e w152 ⟨v215, rfl, ho0, hb⟩; refine ⟨_, rfl, ?_⟩; have n0_ := Aside0.mk (Kd.R_lower ho0 (below_size (by repeat (first | (with_reducible first | exact HB.out | apply below_alloc | apply pw_below_drewN | apply below_drew1) | exact HB.out)))); have n1_ := Aside0.mk (below_step (by repeat (first | (with_reducible first | exact HB.out | apply below_alloc | apply pw_below_drewN | apply below_drew1) | exact HB.out)) hb); clear HB; have HO216 := n0_; have HB := n1_; clear n0_ n1_; (try clear hb); (try clear hb2); (try clear hk); (try clear hi); (try clear ho0); obtain ⟨Ao174, co174, eo153⟩ := Kd.R_slice HO216.out; subst eo153) | ((with_reducible refine gate_callee (f := 16) rfl ?_); refine goesL_ (some 24) rfl rfl Tryd.func16 (by kernel_rfl) rfl #[.slice Ao174 t214.length co174] rfl (by (try simp only [List.map_toArray, List.map_cons, List.map_nil]); first | done | rfl | (simp only [List.length_drop, List.length_take]; rfl)) ?_; (with_reducible refine (insolvencyref25_Format.calls k _ _ t214 t217 _ ?side1 ?side2 A13.out).mono ?_); (case side1 => repeat (first | exact (Kd.R_reads' HO216.out).2.2 | (with_reducible refine Kd.C_alloc ?_ _) | (with_reducible refine Kd.C_drewN ?_ _) | (with_reducible refine Kd.C_drew ?_))); (case side2 => exact (Kd.R_reads' HO216.out).2.1); rintro e w154 ⟨rfl, hb⟩; refine ⟨_, rfl, ?_⟩; have n0_ := Aside0.mk (Kd.R_below (by (with_reducible repeat (first | apply Kd.R_alloc | apply Kd.R_drewN | apply Kd.R_drew)); exact HO216.out) hb); have n1_ := Aside0.mk (below_step (by repeat (first | (with_reducible first | exact HB.out | apply below_alloc | apply pw_below_drewN | apply below_drew1) | exact HB.out)) hb); clear HO216; clear HB; have HO216 := n0_; have HB := n1_; clear n0_ n1_; (try clear hb); (try clear hb2); (try clear hk); (try clear hi)) | ((with_reducible refine gate_callee (f := 13) rfl ?_); refine goesL_ (some 68) rfl rfl Tryd.func13 (by kernel_rfl) rfl #[] rfl (by (try simp only [List.map_toArray, List.map_cons, List.map_nil]); first | done | rfl | (simp only [List.length_drop, List.length_take]; rfl)) ?_; (with_reducible refine (insolvencylaw25_awake.calls k  false _ ?side1 A135.out).mono ?_); (case side1 => exact LaidW.below HLd.out (by repeat (first | (with_reducible first | exact HB.out | apply below_alloc | apply pw_below_drewN | apply below_drew1) | exact HB.out))); rintro e w155 ⟨rfl, hb⟩; refine ⟨_, rfl, ?_⟩; have n0_ := Aside0.mk (Kd.R_below (by (with_reducible repeat (first | apply Kd.R_alloc | apply Kd.R_drewN | apply Kd.R_drew)); exact HO216.out) hb); have n1_ := Aside0.mk (below_step (by repeat (first | (with_reducible first | exact HB.out | apply below_alloc | apply pw_below_drewN | apply below_drew1) | exact HB.out)) hb); clear HO216; clear HB; have HO216 := n0_; have HB := n1_; clear n0_ n1_; (try clear hb); (try clear hb2); (try clear hk); (try clear hi)))
         go_ret
         exact ⟨by first | rfl | (simp [errW_none, errW_some] <;> rfl) | (simp [*, errW_none, errW_some] <;> rfl), below_step HBo.out (by repeat (first | (with_reducible first | exact HB.out | apply below_alloc | apply pw_below_drewN | apply below_drew1) | exact HB.out))⟩
   ·rw [if_neg c15] at H
    have c15b0 : decide (0 < (xcv.length : Int)) = false := decide_eq_false c15
    have c15b1 : decide (0 < xcv.length) = false := decide_eq_false (by omega)
    rw [c15b1]
    clear c15
    replace H := Option.bind_eq_some_iff.mp H
    obtain ⟨t255, A1560, H⟩ := H
    replace H : (if t255 = true then ((insolvencylaw25_same.f k a0).bind fun t256 => (if t256 = true then ((insolvencylaw25_same.f k (strOfNums xcv)).bind fun t257 => (some t257)) else (some false))) else (some false)) = some r := H
    have A156 := Aside0.mk A1560
    clear A1560
    by_cases c157 : t255 = true
    ·subst c157
     have H1 : ((insolvencylaw25_same.f k a0).bind fun t256 => (if t256 = true then ((insolvencylaw25_same.f k (strOfNums xcv)).bind fun t257 => (some t257)) else (some false))) = some r := by rw [if_pos rfl] at H; exact H
     clear H
     have H := H1
     clear H1
     replace H := Option.bind_eq_some_iff.mp H
     obtain ⟨t256, A1580, H⟩ := H
     replace H : (if t256 = true then ((insolvencylaw25_same.f k (strOfNums xcv)).bind fun t257 => (some t257)) else (some false)) = some r := H
     have A158 := Aside0.mk A1580
     clear A1580
     by_cases c159 : t256 = true
     ·subst c159
      have H1 : ((insolvencylaw25_same.f k (strOfNums xcv)).bind fun t257 => (some t257)) = some r := by rw [if_pos rfl] at H; exact H
      clear H
      have H := H1
      clear H1
      replace H := Option.bind_eq_some_iff.mp H
      obtain ⟨t257, A1600, H⟩ := H
      replace H : (some t257) = some r := H
      have A160 := Aside0.mk A1600
      clear A1600
      obtain rfl := Option.some.inj H
      go_wp2_with (first | ((with_reducible refine gate_callee (f := 14) rfl ?_); refine goesL_ (some 23) rfl rfl Tryd.func14 (by kernel_rfl) rfl #[.slice A1 l1.length c1, .int .i64 4, .int .i64 20] rfl (by (try simp only [List.map_toArray, List.map_cons, List.map_nil]); first | done | rfl | (simp only [List.length_drop, List.length_take]; rfl)) ?_; (with_reducible refine (insolvencylaw0_Rows.calls _ _ l1 4 20 t214 _ ?side1 ?side2 A12.out).mono ?_); (case side1 => repeat (first | exact HR1.out | (with_reducible refine Kd.C_alloc ?_ _) | (with_reducible refine Kd.C_drewN ?_ _) | (with_reducible refine Kd.C_drew ?_))); (case side2 => exact HC1.out); rintro e w161 ⟨v215, rfl, ho0, hb⟩; refine ⟨_, rfl, ?_⟩; have n0_ := Aside0.mk (Kd.R_lower ho0 (below_size (by repeat (first | (with_reducible first | exact HB.out | apply below_alloc | apply pw_below_drewN | apply below_drew1) | exact HB.out)))); have n1_ := Aside0.mk (below_step (by repeat (first | (with_reducible first | exact HB.out | apply below_alloc | apply pw_below_drewN | apply below_drew1) | exact HB.out)) hb); clear HB; have HO216 := n0_; have HB := n1_; clear n0_ n1_; (try clear hb); (try clear hb2); (try clear hk); (try clear hi); (try clear ho0); obtain ⟨Ao174, co174, eo162⟩ := Kd.R_slice HO216.out; subst eo162) | ((with_reducible refine gate_callee (f := 16) rfl ?_); refine goesL_ (some 24) rfl rfl Tryd.func16 (by kernel_rfl) rfl #[.slice Ao174 t214.length co174] rfl (by (try simp only [List.map_toArray, List.map_cons, List.map_nil]); first | done | rfl | (simp only [List.length_drop, List.length_take]; rfl)) ?_; (with_reducible refine (insolvencyref25_Format.calls k _ _ t214 t217 _ ?side1 ?side2 A13.out).mono ?_); (case side1 => repeat (first | exact (Kd.R_reads' HO216.out).2.2 | (with_reducible refine Kd.C_alloc ?_ _) | (with_reducible refine Kd.C_drewN ?_ _) | (with_reducible refine Kd.C_drew ?_))); (case side2 => exact (Kd.R_reads' HO216.out).2.1); rintro e w163 ⟨rfl, hb⟩; refine ⟨_, rfl, ?_⟩; have n0_ := Aside0.mk (Kd.R_below (by (with_reducible repeat (first | apply Kd.R_alloc | apply Kd.R_drewN | apply Kd.R_drew)); exact HO216.out) hb); have n1_ := Aside0.mk (below_step (by repeat (first | (with_reducible first | exact HB.out | apply below_alloc | apply pw_below_drewN | apply below_drew1) | exact HB.out)) hb); clear HO216; clear HB; have HO216 := n0_; have HB := n1_; clear n0_ n1_; (try clear hb); (try clear hb2); (try clear hk); (try clear hi)) | ((with_reducible refine gate_callee (f := 13) rfl ?_); refine goesL_ (some 68) rfl rfl Tryd.func13 (by kernel_rfl) rfl #[] rfl (by (try simp only [List.map_toArray, List.map_cons, List.map_nil]); first | done | rfl | (simp only [List.length_drop, List.length_take]; rfl)) ?_; (with_reducible refine (insolvencylaw25_awake.calls k  true _ ?side1 A156.out).mono ?_); (case side1 => exact LaidW.below HLd.out (by repeat (first | (with_reducible first | exact HB.out | apply below_alloc | apply pw_below_drewN | apply below_drew1) | exact HB.out))); rintro e w164 ⟨rfl, hb⟩; refine ⟨_, rfl, ?_⟩; have n0_ := Aside0.mk (Kd.R_below (by (with_reducible repeat (first | apply Kd.R_alloc | apply Kd.R_drewN | apply Kd.R_drew)); exact HO216.out) hb); have n1_ := Aside0.mk (below_step (by repeat (first | (with_reducible first | exact HB.out | apply below_alloc | apply pw_below_drewN | apply below_drew1) | exact HB.out)) hb); clear HO216; clear HB; have HO216 := n0_; have HB := n1_; clear n0_ n1_; (try clear hb); (try clear hb2); (try clear hk); (try clear hi)) | (go_at_call 17; (with_reducible refine (insolvencylaw25_same.calls k a0 true _ ?side1 A158.out).mono ?_); (case side1 => exact LaidW.below HLd.out (by repeat (first | (with_reducible first | exact HB.out | apply below_alloc | apply pw_below_drewN | apply below_drew1) | exact HB.out))); rintro e w165 ⟨rfl, hb⟩; have n0_ := Aside0.mk (Kd.R_below (by (with_reducible repeat (first | apply Kd.R_alloc | apply Kd.R_drewN | apply Kd.R_drew)); exact HO216.out) hb); have n1_ := Aside0.mk (below_step (by repeat (first | (with_reducible first | exact HB.out | apply below_alloc | apply pw_below_drewN | apply below_drew1) | exact HB.out)) hb); clear HO216; clear HB; have HO216 := n0_; have HB := n1_; clear n0_ n1_; (try clear hb); (try clear hb2); (try clear hk); (try clear hi); have hcv166 := Kd.C_string (P := Tryd.prog) (A := Acv) (c := ccv) Tryd.underlying29 Tryd.underlying5 Tryd.underlying9 (Kd.C_below HRcv.out HB.out)) | (go_at_call 17; (with_reducible refine (insolvencylaw25_same.calls k (strOfNums xcv) t257 _ ?side1 A160.out).mono ?_); (case side1 => exact LaidW.below HLd.out (by repeat (first | (with_reducible first | exact HB.out | apply below_alloc | apply pw_below_drewN | apply below_drew1) | exact HB.out))); rintro e w167 ⟨rfl, hb⟩; have n0_ := Aside0.mk (Kd.R_below (by (with_reducible repeat (first | apply Kd.R_alloc | apply Kd.R_drewN | apply Kd.R_drew)); exact HO216.out) hb); have n1_ := Aside0.mk (below_step (by repeat (first | (with_reducible first | exact HB.out | apply below_alloc | apply pw_below_drewN | apply below_drew1) | exact HB.out)) hb); clear HO216; clear HB; have HO216 := n0_; have HB := n1_; clear n0_ n1_; (try clear hb); (try clear hb2); (try clear hk); (try clear hi)))
      go_ret
      exact ⟨by first | rfl | (simp [errW_none, errW_some] <;> rfl) | (simp [*, errW_none, errW_some] <;> rfl), below_step HBo.out (by repeat (first | (with_reducible first | exact HB.out | apply below_alloc | apply pw_below_drewN | apply below_drew1) | exact HB.out))⟩
     ·replace c159 := Bool.eq_false_iff.mpr c159
      subst c159
      have H1 : (some false) = some r := by rw [if_neg (show ¬ (false = true) by decide)] at H; exact H
      clear H
      have H := H1
      clear H1
      obtain rfl := Option.some.inj H
      go_wp2_with (first | ((with_reducible refine gate_callee (f := 14) rfl ?_); refine goesL_ (some 23) rfl rfl Tryd.func14 (by kernel_rfl) rfl #[.slice A1 l1.length c1, .int .i64 4, .int .i64 20] rfl (by (try simp only [List.map_toArray, List.map_cons, List.map_nil]); first | done | rfl | (simp only [List.length_drop, List.length_take]; rfl)) ?_; (with_reducible refine (insolvencylaw0_Rows.calls _ _ l1 4 20 t214 _ ?side1 ?side2 A12.out).mono ?_); (case side1 => repeat (first | exact HR1.out | (with_reducible refine Kd.C_alloc ?_ _) | (with_reducible refine Kd.C_drewN ?_ _) | (with_reducible refine Kd.C_drew ?_))); (case side2 => exact HC1.out); rintro e w168 ⟨v215, rfl, ho0, hb⟩; refine ⟨_, rfl, ?_⟩; have n0_ := Aside0.mk (Kd.R_lower ho0 (below_size (by repeat (first | (with_reducible first | exact HB.out | apply below_alloc | apply pw_below_drewN | apply below_drew1) | exact HB.out)))); have n1_ := Aside0.mk (below_step (by repeat (first | (with_reducible first | exact HB.out | apply below_alloc | apply pw_below_drewN | apply below_drew1) | exact HB.out)) hb); clear HB; have HO216 := n0_; have HB := n1_; clear n0_ n1_; (try clear hb); (try clear hb2); (try clear hk); (try clear hi); (try clear ho0); obtain ⟨Ao174, co174, eo169⟩ := Kd.R_slice HO216.out; subst eo169) | ((with_reducible refine gate_callee (f := 16) rfl ?_); refine goesL_ (some 24) rfl rfl Tryd.func16 (by kernel_rfl) rfl #[.slice Ao174 t214.length co174] rfl (by (try simp only [List.map_toArray, List.map_cons, List.map_nil]); first | done | rfl | (simp only [List.length_drop, List.length_take]; rfl)) ?_; (with_reducible refine (insolvencyref25_Format.calls k _ _ t214 t217 _ ?side1 ?side2 A13.out).mono ?_); (case side1 => repeat (first | exact (Kd.R_reads' HO216.out).2.2 | (with_reducible refine Kd.C_alloc ?_ _) | (with_reducible refine Kd.C_drewN ?_ _) | (with_reducible refine Kd.C_drew ?_))); (case side2 => exact (Kd.R_reads' HO216.out).2.1); rintro e w170 ⟨rfl, hb⟩; refine ⟨_, rfl, ?_⟩; have n0_ := Aside0.mk (Kd.R_below (by (with_reducible repeat (first | apply Kd.R_alloc | apply Kd.R_drewN | apply Kd.R_drew)); exact HO216.out) hb); have n1_ := Aside0.mk (below_step (by repeat (first | (with_reducible first | exact HB.out | apply below_alloc | apply pw_below_drewN | apply below_drew1) | exact HB.out)) hb); clear HO216; clear HB; have HO216 := n0_; have HB := n1_; clear n0_ n1_; (try clear hb); (try clear hb2); (try clear hk); (try clear hi)) | ((with_reducible refine gate_callee (f := 13) rfl ?_); refine goesL_ (some 68) rfl rfl Tryd.func13 (by kernel_rfl) rfl #[] rfl (by (try simp only [List.map_toArray, List.map_cons, List.map_nil]); first | done | rfl | (simp only [List.length_drop, List.length_take]; rfl)) ?_; (with_reducible refine (insolvencylaw25_awake.calls k  true _ ?side1 A156.out).mono ?_); (case side1 => exact LaidW.below HLd.out (by repeat (first | (with_reducible first | exact HB.out | apply below_alloc | apply pw_below_drewN | apply below_drew1) | exact HB.out))); rintro e w171 ⟨rfl, hb⟩; refine ⟨_, rfl, ?_⟩; have n0_ := Aside0.mk (Kd.R_below (by (with_reducible repeat (first | apply Kd.R_alloc | apply Kd.R_drewN | apply Kd.R_drew)); exact HO216.out) hb); have n1_ := Aside0.mk (below_step (by repeat (first | (with_reducible first | exact HB.out | apply below_alloc | apply pw_below_drewN | apply below_drew1) | exact HB.out)) hb); clear HO216; clear HB; have HO216 := n0_; have HB := n1_; clear n0_ n1_; (try clear hb); (try clear hb2); (try clear hk); (try clear hi)) | (go_at_call 17; (with_reducible refine (insolvencylaw25_same.calls k a0 false _ ?side1 A158.out).mono ?_); (case side1 => exact LaidW.below HLd.out (by repeat (first | (with_reducible first | exact HB.out | apply below_alloc | apply pw_below_drewN | apply below_drew1) | exact HB.out))); rintro e w172 ⟨rfl, hb⟩; have n0_ := Aside0.mk (Kd.R_below (by (with_reducible repeat (first | apply Kd.R_alloc | apply Kd.R_drewN | apply Kd.R_drew)); exact HO216.out) hb); have n1_ := Aside0.mk (below_step (by repeat (first | (with_reducible first | exact HB.out | apply below_alloc | apply pw_below_drewN | apply below_drew1) | exact HB.out)) hb); clear HO216; clear HB; have HO216 := n0_; have HB := n1_; clear n0_ n1_; (try clear hb); (try clear hb2); (try clear hk); (try clear hi)))
      go_ret
      exact ⟨by first | rfl | (simp [errW_none, errW_some] <;> rfl) | (simp [*, errW_none, errW_some] <;> rfl), below_step HBo.out (by repeat (first | (with_reducible first | exact HB.out | apply below_alloc | apply pw_below_drewN | apply below_drew1) | exact HB.out))⟩
    ·replace c157 := Bool.eq_false_iff.mpr c157
     subst c157
     have H1 : (some false) = some r := by rw [if_neg (show ¬ (false = true) by decide)] at H; exact H
     clear H
     have H := H1
     clear H1
     obtain rfl := Option.some.inj H
     go_wp2_with (first | ((with_reducible refine gate_callee (f := 14) rfl ?_); refine goesL_ (some 23) rfl rfl Tryd.func14 (by kernel_rfl) rfl #[.slice A1 l1.length c1, .int .i64 4, .int .i64 20] rfl (by (try simp only [List.map_toArray, List.map_cons, List.map_nil]); first | done | rfl | (simp only [List.length_drop, List.length_take]; rfl)) ?_; (with_reducible refine (insolvencylaw0_Rows.calls _ _ l1 4 20 t214 _ ?side1 ?side2 A12.out).mono ?_); (case side1 => repeat (first | exact HR1.out | (with_reducible refine Kd.C_alloc ?_ _) | (with_reducible refine Kd.C_drewN ?_ _) | (with_reducible refine Kd.C_drew ?_))); (case side2 => exact HC1.out); rintro e w173 ⟨v215, rfl, ho0, hb⟩; refine ⟨_, rfl, ?_⟩; have n0_ := Aside0.mk (Kd.R_lower ho0 (below_size (by repeat (first | (with_reducible first | exact HB.out | apply below_alloc | apply pw_below_drewN | apply below_drew1) | exact HB.out)))); have n1_ := Aside0.mk (below_step (by repeat (first | (with_reducible first | exact HB.out | apply below_alloc | apply pw_below_drewN | apply below_drew1) | exact HB.out)) hb); clear HB; have HO216 := n0_; have HB := n1_; clear n0_ n1_; (try clear hb); (try clear hb2); (try clear hk); (try clear hi); (try clear ho0); obtain ⟨Ao174, co174, eo174⟩ := Kd.R_slice HO216.out; subst eo174) | ((with_reducible refine gate_callee (f := 16) rfl ?_); refine goesL_ (some 24) rfl rfl Tryd.func16 (by kernel_rfl) rfl #[.slice Ao174 t214.length co174] rfl (by (try simp only [List.map_toArray, List.map_cons, List.map_nil]); first | done | rfl | (simp only [List.length_drop, List.length_take]; rfl)) ?_; (with_reducible refine (insolvencyref25_Format.calls k _ _ t214 t217 _ ?side1 ?side2 A13.out).mono ?_); (case side1 => repeat (first | exact (Kd.R_reads' HO216.out).2.2 | (with_reducible refine Kd.C_alloc ?_ _) | (with_reducible refine Kd.C_drewN ?_ _) | (with_reducible refine Kd.C_drew ?_))); (case side2 => exact (Kd.R_reads' HO216.out).2.1); rintro e w175 ⟨rfl, hb⟩; refine ⟨_, rfl, ?_⟩; have n0_ := Aside0.mk (Kd.R_below (by (with_reducible repeat (first | apply Kd.R_alloc | apply Kd.R_drewN | apply Kd.R_drew)); exact HO216.out) hb); have n1_ := Aside0.mk (below_step (by repeat (first | (with_reducible first | exact HB.out | apply below_alloc | apply pw_below_drewN | apply below_drew1) | exact HB.out)) hb); clear HO216; clear HB; have HO216 := n0_; have HB := n1_; clear n0_ n1_; (try clear hb); (try clear hb2); (try clear hk); (try clear hi)) | ((with_reducible refine gate_callee (f := 13) rfl ?_); refine goesL_ (some 68) rfl rfl Tryd.func13 (by kernel_rfl) rfl #[] rfl (by (try simp only [List.map_toArray, List.map_cons, List.map_nil]); first | done | rfl | (simp only [List.length_drop, List.length_take]; rfl)) ?_; (with_reducible refine (insolvencylaw25_awake.calls k  false _ ?side1 A156.out).mono ?_); (case side1 => exact LaidW.below HLd.out (by repeat (first | (with_reducible first | exact HB.out | apply below_alloc | apply pw_below_drewN | apply below_drew1) | exact HB.out))); rintro e w176 ⟨rfl, hb⟩; refine ⟨_, rfl, ?_⟩; have n0_ := Aside0.mk (Kd.R_below (by (with_reducible repeat (first | apply Kd.R_alloc | apply Kd.R_drewN | apply Kd.R_drew)); exact HO216.out) hb); have n1_ := Aside0.mk (below_step (by repeat (first | (with_reducible first | exact HB.out | apply below_alloc | apply pw_below_drewN | apply below_drew1) | exact HB.out)) hb); clear HO216; clear HB; have HO216 := n0_; have HB := n1_; clear n0_ n1_; (try clear hb); (try clear hb2); (try clear hk); (try clear hi)))
     go_ret
     exact ⟨by first | rfl | (simp [errW_none, errW_some] <;> rfl) | (simp [*, errW_none, errW_some] <;> rfl), below_step HBo.out (by repeat (first | (with_reducible first | exact HB.out | apply below_alloc | apply pw_below_drewN | apply below_drew1) | exact HB.out))⟩

end Go.Proofs.YtcehmgmhlmbhnaaDoor.Pr
