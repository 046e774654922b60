-- Written by a program of this session (wip/tools/drive.py over the kit's print.py) out of the translation.
import Derived.Test.YtcehmgmhlmbhnaaDoorPr0
namespace Go.Proofs.YtcehmgmhlmbhnaaDoor.Pr
open Go.RowKit Go.Proofs.YtcehmgmhlmbhnaaDoorW.PrintWords Go.Proofs.YtcehmgmhlmbhnaaDoorW.PrintLast Go.Proofs.YtcehmgmhlmbhnaaDoorW.PrintMore
attribute [local go_sem] max2_int min2_int max_two min_two max_three min_three max_four min_four   -- for this text's walks alone
set_option linter.unusedVariables false
set_option linter.unusedSimpArgs false

/-! ### insolvencylaw0_Rows: function 14 -/
/-- The row that five drawn numbers give, behind day d. -/
def rowOf (P d : Int) (x : S67) : S39 := ⟨d + x.f0 % 6, 1 + x.f1 % 3, x.f2 % P, (if x.f2 % P ≤ x.f3 % (P - 1) then x.f3 % (P - 1) + 1 else x.f3 % (P - 1)), x.f4 % 40, (if 1 + x.f1 % 3 = 3 then x.f4 / 40 % 60 else 0)⟩
def rowsF (P : Int) : Int → List S67 → List S39
  | _, [] => []
  | d, x :: t => rowOf P d x :: rowsF P (d + x.f0 % 6) t
def dayF : Int → List S67 → Int
  | d, [] => d
  | d, x :: t => dayF (d + x.f0 % 6) t
def okB (x : S67) : Bool := decide ((0 ≤ x.f0 ∧ x.f0 ≤ 65535) ∧ (0 ≤ x.f1 ∧ x.f1 ≤ 65535) ∧ (0 ≤ x.f2 ∧ x.f2 ≤ 65535) ∧ (0 ≤ x.f3 ∧ x.f3 ≤ 65535) ∧ (0 ≤ x.f4 ∧ x.f4 ≤ 65535))
theorem rowsF_length (P : Int) : ∀ (l : List S67) (d : Int), (rowsF P d l).length = l.length
  | [], _ => rfl
  | x :: t, d => by simp [rowsF, rowsF_length P t]
theorem rowsF_snoc (P : Int) (x : S67) : ∀ (l : List S67) (d : Int), rowsF P d (l ++ [x]) = rowsF P d l ++ [rowOf P (dayF d l) x]
  | [], _ => rfl
  | y :: t, d => by simp [rowsF, dayF, rowsF_snoc P x t]
theorem dayF_snoc (x : S67) : ∀ (l : List S67) (d : Int), dayF d (l ++ [x]) = dayF d l + x.f0 % 6
  | [], _ => rfl
  | y :: t, d => by simp [dayF, dayF_snoc x t]
theorem take_snoc67 (l : List S67) (i : Int) (h0 : 0 ≤ i) (h : i < (l.length : Int)) : l.take (i + 1).toNat = l.take i.toNat ++ [rd_T67 l i] := by
  have e : (i + 1).toNat = i.toNat + 1 := by omega
  have hl : i.toNat < l.length := by omega
  rw [e, List.take_succ_eq_append_getElem hl]
  simp [rd_T67, List.getD, List.getElem?_eq_getElem hl]
theorem quo40 (b : Int) (h0 : 0 ≤ b) (h1 : b ≤ 65535) : wrap64 ((IntKind.u16.wrap (b.tdiv 40)).tmod 60) = b / 40 % 60 := by
  have e1 : b.tdiv 40 = b / 40 := Int.tdiv_eq_ediv_of_nonneg h0
  have e2 : IntKind.u16.wrap (b / 40) = b / 40 := by
    simp [IntKind.wrap, IntKind.signed, IntKind.bits]
    omega
  rw [e1, e2, Int.tmod_eq_emod_of_nonneg (by omega)]
  unfold wrap64
  omega
def insolvencylaw0_Rows.f (l0 : List (S67)) (a1 : Int) (a2 : Int) : Option ((List (S39))) := if (2 ≤ a1 ∧ a1 ≤ 1000) ∧ (0 ≤ a2 ∧ a2 ≤ 1000) then (if l0.all okB = true then some (rowsF a1 0 (l0.take a2.toNat)) else none) else none
set_option maxHeartbeats 8000000 in
set_option maxRecDepth 100000 in
theorem insolvencylaw0_Rows.calls (A0 : Option Addr) (c0 : Nat) (l0 : List (S67)) (a1 : Int) (a2 : Int) (r : List (S39)) (w : World) (hr0 : Kd.C k67 w A0 l0.length l0) (hc0 : l0.length ≤ c0) (h : insolvencylaw0_Rows.f l0 a1 a2 = some r) :
    Calls Tryd.prog 14 #[.slice A0 l0.length c0, .int .i64 a1, .int .i64 a2] w fun e w' => ∃ v0_ : Value, e = .returned (v0_) ∧ Kd.R k39 39 w' w.heap.size (fun _ => True) v0_ r ∧ Below w.heap.size w w' := by
  have hu39 := Tryd.underlying39
  have hu67 := Tryd.underlying67
  unfold insolvencylaw0_Rows.f at h
  by_cases hb : (2 ≤ a1 ∧ a1 ≤ 1000) ∧ (0 ≤ a2 ∧ a2 ≤ 1000)
  · rw [if_pos hb] at h
    by_cases hall : l0.all okB = true
    · rw [if_pos hall] at h
      obtain rfl := Option.some.inj h
      obtain ⟨⟨P0, P1⟩, M0, M1⟩ := hb
      have HR0 := Aside0.mk hr0
      have HC0 := Aside0.mk hc0
      have HALL := Aside0.mk hall
      have hp2 : decide (a1 < 2) = false := decide_eq_false (by omega)
      have hpz : (a1 == 0) = false := beq_eq_false_iff_ne.mpr (by omega)
      have hpz1 : (a1 - 1 == 0) = false := beq_eq_false_iff_ne.mpr (by omega)
      clear hr0 hc0 h hall
      go_enter Tryd.func14, Tryd.ntmps14
      go_wp2
      go_loopg [7, 8, 16] l0.length (fun kq v7 v8 v16 w' => ∃ (x8 x16 : Int), v8 = .int .i64 x8 ∧ v16 = .int .i64 x16 ∧ Aside0 (x16.toNat + kq = l0.length) ∧ Aside0 (0 ≤ x16 ∧ x16 ≤ a2) ∧ Aside0 (x8 = dayF 0 (l0.take x16.toNat)) ∧ Aside0 (0 ≤ x8 ∧ x8 ≤ 5 * x16) ∧ Aside0 (Kd.R k39 39 w' w.heap.size (fun _ => True) v7 (rowsF a1 0 (l0.take x16.toNat))) ∧ Aside0 (Below w.heap.size w w'))
      case atStart => exact ⟨0, 0, rfl, rfl, ⟨by simp⟩, ⟨by omega⟩, ⟨rfl⟩, ⟨by omega⟩, ⟨Kd.R_nil _ _ _ _ _⟩, ⟨Below.refl _ _⟩⟩
      case round =>
        obtain ⟨x8, x16, rfl, rfl, HK, HX, HD, H8, HO, HB⟩ := hrel
        obtain ⟨A7, c7, e7⟩ := Kd.R_slice HO.out
        subst e7
        have hlen : (rowsF a1 0 (l0.take x16.toNat)).length = x16.toNat := by
          rw [rowsF_length, List.length_take]
          have := HK.out
          omega
        obtain ⟨x7, hx7⟩ : ∃ x7, x7 = rowsF a1 0 (l0.take x16.toNat) := ⟨_, rfl⟩
        rw [← hx7] at HO hlen ⊢
        have HX7 := Aside0.mk hx7
        have HLEN := Aside0.mk hlen
        clear hx7 hlen
        by_cases c3 : x16 < (l0.length : Int)
        · have c3b0 : decide (x16 < (l0.length : Int)) = true := decide_eq_true c3
          by_cases c9 : a2 ≤ (x7.length : Int)
          · have c9b0 : decide (a2 ≤ (x7.length : Int)) = true := decide_eq_true c9
            obtain ⟨ad162, e162, hx162_0, hx162_1, hx162_2, hx162_3, hx162_4⟩ := at_T67 HR0.out x16 HX.out.1 c3
            cases e162
            replace hx162_0 := (HB.out.cell (World.block_lt_of_cell? w _ hx162_0)).trans hx162_0
            replace hx162_1 := (HB.out.cell (World.block_lt_of_cell? w _ hx162_1)).trans hx162_1
            replace hx162_2 := (HB.out.cell (World.block_lt_of_cell? w _ hx162_2)).trans hx162_2
            replace hx162_3 := (HB.out.cell (World.block_lt_of_cell? w _ hx162_3)).trans hx162_3
            replace hx162_4 := (HB.out.cell (World.block_lt_of_cell? w _ hx162_4)).trans hx162_4
            have p162 := eq_true HX.out.1
            have q162 := eq_true c3
            have C9 := Aside0.mk c9
            have C3 := Aside0.mk c3
            clear c9 c3
            go_wp2
            go_ret
            refine ⟨_, rfl, ?_, below_alloc HB.out _⟩
            have he : a2.toNat = x16.toNat := by
              have h1 := HLEN.out
              have h2 := C9.out
              have h3 := HX.out
              omega
            rw [he, ← HX7.out]
            exact Kd.R_below HO.out (below_alloc (Below.refl _ _) _)
          · have c9b0 : decide (a2 ≤ (x7.length : Int)) = false := decide_eq_false c9
            obtain ⟨ad162, e162, hx162_0, hx162_1, hx162_2, hx162_3, hx162_4⟩ := at_T67 HR0.out x16 HX.out.1 c3
            cases e162
            replace hx162_0 := (HB.out.cell (World.block_lt_of_cell? w _ hx162_0)).trans hx162_0
            replace hx162_1 := (HB.out.cell (World.block_lt_of_cell? w _ hx162_1)).trans hx162_1
            replace hx162_2 := (HB.out.cell (World.block_lt_of_cell? w _ hx162_2)).trans hx162_2
            replace hx162_3 := (HB.out.cell (World.block_lt_of_cell? w _ hx162_3)).trans hx162_3
            replace hx162_4 := (HB.out.cell (World.block_lt_of_cell? w _ hx162_4)).trans hx162_4
            have p162 := eq_true HX.out.1
            have q162 := eq_true c3
            have hin : rd_T67 l0 x16 ∈ l0 := by
              have hl : x16.toNat < l0.length := by have := HX.out.1; omega
              simp [rd_T67, List.getD, List.getElem?_eq_getElem hl]
            have hok := List.all_eq_true.1 HALL.out _ hin
            simp only [okB, decide_eq_true_eq] at hok
            have htake := take_snoc67 l0 x16 HX.out.1 c3
            obtain ⟨xx, hxx⟩ : ∃ xx, xx = rd_T67 l0 x16 := ⟨_, rfl⟩
            rw [← hxx] at hx162_0 hx162_1 hx162_2 hx162_3 hx162_4 hok htake
            clear hxx hin
            obtain ⟨b0, b1, b2, b3, b4⟩ := xx
            simp only at hx162_0 hx162_1 hx162_2 hx162_3 hx162_4 hok
            obtain ⟨⟨B00, B01⟩, ⟨B10, B11⟩, ⟨B20, B21⟩, ⟨B30, B31⟩, B40, B41⟩ := hok
            have HT := Aside0.mk htake
            have C9 := Aside0.mk c9
            have C3 := Aside0.mk c3
            have LM : Aside0 (x7.length < 2932031007402) := ⟨by have h1 := HLEN.out; have h3 := HX.out; omega⟩
            obtain ⟨D0, D1⟩ : 0 ≤ x8 ∧ x8 ≤ 5000 := by have h1 := H8.out; have h3 := HX.out; omega
            have E0 : 0 ≤ x16 := HX.out.1
            have E1 : x16 ≤ 1000 := by have h3 := HX.out; omega
            have T0 : 0 ≤ b3 % (a1 - 1) := Int.emod_nonneg _ (by omega)
            have T1 : b3 % (a1 - 1) < 1000 := by have := Int.emod_lt_of_pos b3 (show 0 < a1 - 1 by omega); omega
            have F0 : 0 ≤ b2 % a1 := Int.emod_nonneg _ (by omega)
            have F1 : b2 % a1 < 1000 := by have := Int.emod_lt_of_pos b2 (show 0 < a1 by omega); omega
            have Q4 := quo40 b4 B40 B41
            clear c9 c3 htake
            by_cases ct : b2 % a1 ≤ b3 % (a1 - 1)
            · have ctb : decide (b2 % a1 ≤ b3 % (a1 - 1)) = true := decide_eq_true ct
              have CT := Aside0.mk ct
              clear ct
              by_cases ck : 1 + b1 % 3 = 3
              · have ckb : (1 + b1 % 3 == 3) = true := beq_iff_eq.mpr ck
                have CK := Aside0.mk ck
                clear ck
                go_wp2_with (first | ((with_reducible refine gate_builtin (b := .append) (xs := #[.tmp 72, .tmp 74]) rfl ?_); at_builtin; refine Kd.R_append k39 (w0 := w) w.heap.size rfl (.tmp 72) (.tmp 74) 22 39 (.agg #[(.int .i64 0), (.int .i64 0), (.int .i64 0), (.int .i64 0), (.int .i64 0), (.int .i64 0)]) 48 rfl Tryd.underlying22 info39 rfl (by decide) (by omega) _ x7 (⟨x8 + b0 % 6, 1 + b1 % 3, b2 % a1, b3 % (a1 - 1) + 1, b4 % 40, b4 / 40 % 60⟩ : S39) [.int .i64 (x8 + b0 % 6), .int .i64 (1 + b1 % 3), .int .i64 (b2 % a1), .int .i64 (b3 % (a1 - 1) + 1), .int .i64 (b4 % 40), .int .i64 (b4 / 40 % 60)] (fun _ => True) (fun _ => False) rfl (by first | (go_simp; done) | (go_simp; rfl)) ?aP (fun _ hk => hk.elim) (fun _ _ => trivial) ?aO ?aB ?aS ?aL ?_; (case aP => exact k39_mkM _ _ _ (⟨x8 + b0 % 6, 1 + b1 % 3, b2 % a1, b3 % (a1 - 1) + 1, b4 % 40, b4 / 40 % 60⟩ : S39)); (case aO => exact Kd.R_below HO.out (below_alloc (below_alloc (Below.refl _ _) _) _)); (case aB => exact below_alloc (below_alloc HB.out _) _); (case aS => have := HB.out.size; simp; omega); (case aL => have := LM.out; omega); intro v1 w1 ho1 hb1 hg1 ha1; have HO1 := Aside0.mk ho1; have HB1 := Aside0.mk hb1; clear ho1 hb1 hg1 ha1))
                go_roundg (l0.length - (x16 + 1).toNat)
                case measure => have h1 := HK.out; have h2 := C3.out; omega
                case rel => exact ⟨x8 + b0 % 6, x16 + 1, (by first | rfl | (simp; done) | (simp [*]; done)), (by first | rfl | (simp; done) | (simp [*]; done)), ⟨by have h1 := HK.out; have h2 := C3.out; omega⟩, ⟨by have h1 := C9.out; have h2 := HLEN.out; have h3 := HX.out; omega⟩, ⟨by rw [HT.out, dayF_snoc, ← HD.out]⟩, ⟨by have h1 := H8.out; omega⟩, ⟨by rw [HT.out, rowsF_snoc, ← HX7.out, ← HD.out]; simp only [rowOf, if_pos CT.out, if_pos CK.out]; exact HO1.out⟩, ⟨HB1.out⟩⟩
              · have ckb : (1 + b1 % 3 == 3) = false := beq_eq_false_iff_ne.mpr ck
                have CK := Aside0.mk ck
                clear ck
                go_wp2_with (first | ((with_reducible refine gate_builtin (b := .append) (xs := #[.tmp 72, .tmp 74]) rfl ?_); at_builtin; refine Kd.R_append k39 (w0 := w) w.heap.size rfl (.tmp 72) (.tmp 74) 22 39 (.agg #[(.int .i64 0), (.int .i64 0), (.int .i64 0), (.int .i64 0), (.int .i64 0), (.int .i64 0)]) 48 rfl Tryd.underlying22 info39 rfl (by decide) (by omega) _ x7 (⟨x8 + b0 % 6, 1 + b1 % 3, b2 % a1, b3 % (a1 - 1) + 1, b4 % 40, 0⟩ : S39) [.int .i64 (x8 + b0 % 6), .int .i64 (1 + b1 % 3), .int .i64 (b2 % a1), .int .i64 (b3 % (a1 - 1) + 1), .int .i64 (b4 % 40), .int .i64 (0)] (fun _ => True) (fun _ => False) rfl (by first | (go_simp; done) | (go_simp; rfl)) ?aP (fun _ hk => hk.elim) (fun _ _ => trivial) ?aO ?aB ?aS ?aL ?_; (case aP => exact k39_mkM _ _ _ (⟨x8 + b0 % 6, 1 + b1 % 3, b2 % a1, b3 % (a1 - 1) + 1, b4 % 40, 0⟩ : S39)); (case aO => exact Kd.R_below HO.out (below_alloc (below_alloc (Below.refl _ _) _) _)); (case aB => exact below_alloc (below_alloc HB.out _) _); (case aS => have := HB.out.size; simp; omega); (case aL => have := LM.out; omega); intro v1 w1 ho1 hb1 hg1 ha1; have HO1 := Aside0.mk ho1; have HB1 := Aside0.mk hb1; clear ho1 hb1 hg1 ha1))
                go_roundg (l0.length - (x16 + 1).toNat)
                case measure => have h1 := HK.out; have h2 := C3.out; omega
                case rel => exact ⟨x8 + b0 % 6, x16 + 1, (by first | rfl | (simp; done) | (simp [*]; done)), (by first | rfl | (simp; done) | (simp [*]; done)), ⟨by have h1 := HK.out; have h2 := C3.out; omega⟩, ⟨by have h1 := C9.out; have h2 := HLEN.out; have h3 := HX.out; omega⟩, ⟨by rw [HT.out, dayF_snoc, ← HD.out]⟩, ⟨by have h1 := H8.out; omega⟩, ⟨by rw [HT.out, rowsF_snoc, ← HX7.out, ← HD.out]; simp only [rowOf, if_pos CT.out, if_neg (show ¬ (1 + b1 % 3 = 3) by have := CK.out; omega)]; exact HO1.out⟩, ⟨HB1.out⟩⟩
            · have ctb : decide (b2 % a1 ≤ b3 % (a1 - 1)) = false := decide_eq_false ct
              have CT := Aside0.mk ct
              clear ct
              by_cases ck : 1 + b1 % 3 = 3
              · have ckb : (1 + b1 % 3 == 3) = true := beq_iff_eq.mpr ck
                have CK := Aside0.mk ck
                clear ck
                go_wp2_with (first | ((with_reducible refine gate_builtin (b := .append) (xs := #[.tmp 72, .tmp 74]) rfl ?_); at_builtin; refine Kd.R_append k39 (w0 := w) w.heap.size rfl (.tmp 72) (.tmp 74) 22 39 (.agg #[(.int .i64 0), (.int .i64 0), (.int .i64 0), (.int .i64 0), (.int .i64 0), (.int .i64 0)]) 48 rfl Tryd.underlying22 info39 rfl (by decide) (by omega) _ x7 (⟨x8 + b0 % 6, 1 + b1 % 3, b2 % a1, b3 % (a1 - 1), b4 % 40, b4 / 40 % 60⟩ : S39) [.int .i64 (x8 + b0 % 6), .int .i64 (1 + b1 % 3), .int .i64 (b2 % a1), .int .i64 (b3 % (a1 - 1)), .int .i64 (b4 % 40), .int .i64 (b4 / 40 % 60)] (fun _ => True) (fun _ => False) rfl (by first | (go_simp; done) | (go_simp; rfl)) ?aP (fun _ hk => hk.elim) (fun _ _ => trivial) ?aO ?aB ?aS ?aL ?_; (case aP => exact k39_mkM _ _ _ (⟨x8 + b0 % 6, 1 + b1 % 3, b2 % a1, b3 % (a1 - 1), b4 % 40, b4 / 40 % 60⟩ : S39)); (case aO => exact Kd.R_below HO.out (below_alloc (below_alloc (Below.refl _ _) _) _)); (case aB => exact below_alloc (below_alloc HB.out _) _); (case aS => have := HB.out.size; simp; omega); (case aL => have := LM.out; omega); intro v1 w1 ho1 hb1 hg1 ha1; have HO1 := Aside0.mk ho1; have HB1 := Aside0.mk hb1; clear ho1 hb1 hg1 ha1))
                go_roundg (l0.length - (x16 + 1).toNat)
                case measure => have h1 := HK.out; have h2 := C3.out; omega
                case rel => exact ⟨x8 + b0 % 6, x16 + 1, (by first | rfl | (simp; done) | (simp [*]; done)), (by first | rfl | (simp; done) | (simp [*]; done)), ⟨by have h1 := HK.out; have h2 := C3.out; omega⟩, ⟨by have h1 := C9.out; have h2 := HLEN.out; have h3 := HX.out; omega⟩, ⟨by rw [HT.out, dayF_snoc, ← HD.out]⟩, ⟨by have h1 := H8.out; omega⟩, ⟨by rw [HT.out, rowsF_snoc, ← HX7.out, ← HD.out]; simp only [rowOf, if_neg (show ¬ (b2 % a1 ≤ b3 % (a1 - 1)) by have := CT.out; omega), if_pos CK.out]; exact HO1.out⟩, ⟨HB1.out⟩⟩
              · have ckb : (1 + b1 % 3 == 3) = false := beq_eq_false_iff_ne.mpr ck
                have CK := Aside0.mk ck
                clear ck
                go_wp2_with (first | ((with_reducible refine gate_builtin (b := .append) (xs := #[.tmp 72, .tmp 74]) rfl ?_); at_builtin; refine Kd.R_append k39 (w0 := w) w.heap.size rfl (.tmp 72) (.tmp 74) 22 39 (.agg #[(.int .i64 0), (.int .i64 0), (.int .i64 0), (.int .i64 0), (.int .i64 0), (.int .i64 0)]) 48 rfl Tryd.underlying22 info39 rfl (by decide) (by omega) _ x7 (⟨x8 + b0 % 6, 1 + b1 % 3, b2 % a1, b3 % (a1 - 1), b4 % 40, 0⟩ : S39) [.int .i64 (x8 + b0 % 6), .int .i64 (1 + b1 % 3), .int .i64 (b2 % a1), .int .i64 (b3 % (a1 - 1)), .int .i64 (b4 % 40), .int .i64 (0)] (fun _ => True) (fun _ => False) rfl (by first | (go_simp; done) | (go_simp; rfl)) ?aP (fun _ hk => hk.elim) (fun _ _ => trivial) ?aO ?aB ?aS ?aL ?_; (case aP => exact k39_mkM _ _ _ (⟨x8 + b0 % 6, 1 + b1 % 3, b2 % a1, b3 % (a1 - 1), b4 % 40, 0⟩ : S39)); (case aO => exact Kd.R_below HO.out (below_alloc (below_alloc (Below.refl _ _) _) _)); (case aB => exact below_alloc (below_alloc HB.out _) _); (case aS => have := HB.out.size; simp; omega); (case aL => have := LM.out; omega); intro v1 w1 ho1 hb1 hg1 ha1; have HO1 := Aside0.mk ho1; have HB1 := Aside0.mk hb1; clear ho1 hb1 hg1 ha1))
                go_roundg (l0.length - (x16 + 1).toNat)
                case measure => have h1 := HK.out; have h2 := C3.out; omega
                case rel => exact ⟨x8 + b0 % 6, x16 + 1, (by first | rfl | (simp; done) | (simp [*]; done)), (by first | rfl | (simp; done) | (simp [*]; done)), ⟨by have h1 := HK.out; have h2 := C3.out; omega⟩, ⟨by have h1 := C9.out; have h2 := HLEN.out; have h3 := HX.out; omega⟩, ⟨by rw [HT.out, dayF_snoc, ← HD.out]⟩, ⟨by have h1 := H8.out; omega⟩, ⟨by rw [HT.out, rowsF_snoc, ← HX7.out, ← HD.out]; simp only [rowOf, if_neg (show ¬ (b2 % a1 ≤ b3 % (a1 - 1)) by have := CT.out; omega), if_neg (show ¬ (1 + b1 % 3 = 3) by have := CK.out; omega)]; exact HO1.out⟩, ⟨HB1.out⟩⟩
        · have c3b0 : decide (x16 < (l0.length : Int)) = false := decide_eq_false c3
          have C3 := Aside0.mk c3
          clear c3
          go_wp2
          go_ret
          refine ⟨_, rfl, ?_, HB.out⟩
          have he : l0.take a2.toNat = l0.take x16.toNat := by
            have h1 := C3.out
            have h3 := HX.out
            rw [List.take_of_length_le (by omega), List.take_of_length_le (by omega)]
          rw [he, ← HX7.out]
          exact HO.out
    · rw [if_neg hall] at h
      cases h
  · rw [if_neg hb] at h
    cases h

end Go.Proofs.YtcehmgmhlmbhnaaDoor.Pr
