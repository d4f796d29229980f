/- Made by a program of this session (drv.py) over the kit's printer: plain functions, and the proofs that the program's functions come to their answers. No condition. -/
import Derived.Test.YtkanlkgmiednfaaAx0
namespace Go.Proofs.Ytkanlkgmiednfaa.A
open Go.RowKit Go.Proofs.YtkanlkgmiednfaaW.PrintWords Go.Proofs.YtkanlkgmiednfaaW.PrintLast Go.Proofs.YtkanlkgmiednfaaW.PrintMore
attribute [local go_sem] max2_int min2_int max_two min_two max_three min_three max_four min_four   -- for this text's walks alone
set_option linter.unusedVariables false
set_option linter.unusedSimpArgs false

/-! ### interleaveref11_Unpack: function 46 -/
mutual
def interleaveref11_Unpack.l0 : Nat → List Int → Int → List Int → Int → Option (List Int × Int)
  | 0, _, _, _, _ => none
  | k + 1, x0, x1, x6, x7 => if x7 < (x0.length : Int) then (if 0 ≤ x7 then (if (wrap64 (rd x0 x7)) < 128 then (if (wrap64 ((wrap64 (rd x0 x7)) + 1)) > (wrap64 ((wrap64 ((x0.length : Int) - x7)) - 1)) then (some (([] : List Int), 9)) else (if (wrap64 ((wrap64 (rd x0 x7)) + 1)) > (wrap64 (x1 - (x6.length : Int))) then (some (([] : List Int), 2)) else (if 0 ≤ (wrap64 (x7 + 1)) then (if (wrap64 (x7 + 1)) ≤ (wrap64 ((wrap64 (x7 + (wrap64 (rd x0 x7)))) + 2)) then (if (wrap64 ((wrap64 (x7 + (wrap64 (rd x0 x7)))) + 2)) ≤ (x0.length : Int) then (if x6.length + ((x0.take ((wrap64 ((wrap64 (x7 + (wrap64 (rd x0 x7)))) + 2)) : Int).toNat).drop ((wrap64 (x7 + 1)) : Int).toNat).length < 140737488355328 then (interleaveref11_Unpack.l0 k x0 x1 (x6 ++ ((x0.take ((wrap64 ((wrap64 (x7 + (wrap64 (rd x0 x7)))) + 2)) : Int).toNat).drop ((wrap64 (x7 + 1)) : Int).toNat)) (wrap64 ((wrap64 (x7 + (wrap64 (rd x0 x7)))) + 2))) else (none)) else (none)) else (none)) else (none)))) else (if (wrap64 (x7 + 1)) ≥ (x0.length : Int) then (some (([] : List Int), 9)) else (if 0 ≤ (wrap64 (x7 + 1)) then (if (wrap64 (x7 + 1)) < (x0.length : Int) then (if (wrap64 (rd x0 (wrap64 (x7 + 1)))) = 0 then (interleaveref11_Unpack.j1 k x0 x1 x6 x7 (wrap64 (rd x0 x7)) (wrap64 (rd x0 (wrap64 (x7 + 1)))) true) else (interleaveref11_Unpack.j1 k x0 x1 x6 x7 (wrap64 (rd x0 x7)) (wrap64 (rd x0 (wrap64 (x7 + 1)))) (decide ((wrap64 (rd x0 (wrap64 (x7 + 1)))) > (x6.length : Int))))) else (none)) else (none)))) else (none)) else (some (x6, 0))
def interleaveref11_Unpack.j1 : Nat → List Int → Int → List Int → Int → Int → Int → Bool → Option (List Int × Int)
  | 0, _, _, _, _, _, _, _ => none
  | k + 1, x0, x1, x6, x7, x8, x9, x69 => if x69 = true then (some (([] : List Int), 11)) else (if (wrap64 (x8 - 125)) > (wrap64 (x1 - (x6.length : Int))) then (some (([] : List Int), 2)) else (interleaveref11_Unpack.l1 k x0 x1 x6 x7 x8 x9 0))
def interleaveref11_Unpack.l1 : Nat → List Int → Int → List Int → Int → Int → Int → Int → Option (List Int × Int)
  | 0, _, _, _, _, _, _, _ => none
  | k + 1, x0, x1, x6, x7, x8, x9, x10 => if x10 < (wrap64 (x8 - 125)) then (if 0 ≤ (wrap64 ((x6.length : Int) - x9)) then (if (wrap64 ((x6.length : Int) - x9)) < (x6.length : Int) then (if x6.length < 140737488355328 then (interleaveref11_Unpack.l1 k x0 x1 (x6 ++ [rd x6 (wrap64 ((x6.length : Int) - x9))]) x7 x8 x9 (wrap64 (x10 + 1))) else (none)) else (none)) else (none)) else (interleaveref11_Unpack.l0 k x0 x1 x6 (wrap64 (x7 + 2)))
end
def interleaveref11_Unpack.f (k : Nat) (l0 : List Int) (a1 : Int) : Option (List Int × Int) := interleaveref11_Unpack.l0 k l0 a1 ([] : List Int) 0
theorem interleaveref11_Unpack.mono_l : ∀ k, (∀ y0 y1 y2 y3, LeO (interleaveref11_Unpack.l0 k y0 y1 y2 y3) (interleaveref11_Unpack.l0 (k + 1) y0 y1 y2 y3)) ∧ (∀ y0 y1 y2 y3 y4 y5 y6, LeO (interleaveref11_Unpack.j1 k y0 y1 y2 y3 y4 y5 y6) (interleaveref11_Unpack.j1 (k + 1) y0 y1 y2 y3 y4 y5 y6)) ∧ (∀ y0 y1 y2 y3 y4 y5 y6, LeO (interleaveref11_Unpack.l1 k y0 y1 y2 y3 y4 y5 y6) (interleaveref11_Unpack.l1 (k + 1) y0 y1 y2 y3 y4 y5 y6))
  | 0 => ⟨fun _ _ _ _ r h => by simp [interleaveref11_Unpack.l0] at h, fun _ _ _ _ _ _ _ r h => by simp [interleaveref11_Unpack.j1] at h, fun _ _ _ _ _ _ _ r h => by simp [interleaveref11_Unpack.l1] at h⟩
  | k + 1 => by
    obtain ⟨ih0, ih1, ih2⟩ := interleaveref11_Unpack.mono_l k
    refine ⟨?_, ?_, ?_⟩
    · intro y0 y1 y2 y3
      unfold interleaveref11_Unpack.l0
      repeat' first
      | (with_reducible exact ih0 _ _ _ _)
      | (with_reducible exact ih1 _ _ _ _ _ _ _)
      | (with_reducible exact ih2 _ _ _ _ _ _ _)
      | (with_reducible exact LeO.refl _)
      | (with_reducible exact LeO.none _)
      | (with_reducible refine LeO.ite ?_ ?_)
      | (with_reducible refine LeO.bind ?_ (fun _ => ?_))
      | exact ih0 _ _ _ _
      | exact ih1 _ _ _ _ _ _ _
      | exact ih2 _ _ _ _ _ _ _
      | exact LeO.none _
      | refine LeO.ite ?_ ?_
      | refine LeO.bind ?_ (fun _ => ?_)
    · intro y0 y1 y2 y3 y4 y5 y6
      unfold interleaveref11_Unpack.j1
      repeat' first
      | (with_reducible exact ih0 _ _ _ _)
      | (with_reducible exact ih1 _ _ _ _ _ _ _)
      | (with_reducible exact ih2 _ _ _ _ _ _ _)
      | (with_reducible exact LeO.refl _)
      | (with_reducible exact LeO.none _)
      | (with_reducible refine LeO.ite ?_ ?_)
      | (with_reducible refine LeO.bind ?_ (fun _ => ?_))
      | exact ih0 _ _ _ _
      | exact ih1 _ _ _ _ _ _ _
      | exact ih2 _ _ _ _ _ _ _
      | exact LeO.none _
      | refine LeO.ite ?_ ?_
      | refine LeO.bind ?_ (fun _ => ?_)
    · intro y0 y1 y2 y3 y4 y5 y6
      unfold interleaveref11_Unpack.l1
      repeat' first
      | (with_reducible exact ih0 _ _ _ _)
      | (with_reducible exact ih1 _ _ _ _ _ _ _)
      | (with_reducible exact ih2 _ _ _ _ _ _ _)
      | (with_reducible exact LeO.refl _)
      | (with_reducible exact LeO.none _)
      | (with_reducible refine LeO.ite ?_ ?_)
      | (with_reducible refine LeO.bind ?_ (fun _ => ?_))
      | exact ih0 _ _ _ _
      | exact ih1 _ _ _ _ _ _ _
      | exact ih2 _ _ _ _ _ _ _
      | exact LeO.none _
      | refine LeO.ite ?_ ?_
      | refine LeO.bind ?_ (fun _ => ?_)
theorem interleaveref11_Unpack.mono : ∀ a0 a1 k, LeO (interleaveref11_Unpack.f k a0 a1) (interleaveref11_Unpack.f (k + 1) a0 a1) := by
  intro a0 a1 k
  obtain ⟨ih0, ih1, ih2⟩ := interleaveref11_Unpack.mono_l k
  unfold interleaveref11_Unpack.f
  repeat' first
      | (with_reducible exact ih0 _ _ _ _)
      | (with_reducible exact ih1 _ _ _ _ _ _ _)
      | (with_reducible exact ih2 _ _ _ _ _ _ _)
      | (with_reducible exact LeO.refl _)
      | (with_reducible exact LeO.none _)
      | (with_reducible refine LeO.ite ?_ ?_)
      | (with_reducible refine LeO.bind ?_ (fun _ => ?_))
      | exact ih0 _ _ _ _
      | exact ih1 _ _ _ _ _ _ _
      | exact ih2 _ _ _ _ _ _ _
      | exact LeO.none _
      | refine LeO.ite ?_ ?_
      | refine LeO.bind ?_ (fun _ => ?_)
set_option maxHeartbeats 8000000 in
set_option maxRecDepth 100000 in
theorem interleaveref11_Unpack.calls (k : Nat) (A0 : Option Addr) (c0 : Nat) (l0 : List Int) (a1 : Int) (r1 : List Int) (r2 : Int) (w : World) (hr0 : Kd.C (Kd.int .u8) w A0 l0.length l0) (hc0 : l0.length ≤ c0) (h : interleaveref11_Unpack.f k l0 a1 = some (r1, r2)) :
    Calls Try.prog 46 #[.slice A0 l0.length c0, .int .i64 a1] w fun e w' => ∃ v0_ : Value, e = .returned (.tuple #[v0_, .int .i64 r2]) ∧ Kd.R (Kd.int .u8) 5 w' w.heap.size (fun _ => True) v0_ r1 ∧ Below w.heap.size w w' := by
  have HR0 := Aside0.mk hr0
  have HC0 := Aside0.mk hc0
  clear hr0 hc0
  have HB := Aside0.mk (Below.refl w.heap.size w)
  have H : (interleaveref11_Unpack.l0 k l0 a1 ([] : List Int) 0) = some (r1, r2) := h
  clear h
  have H' := Aside0.mk H
  clear H
  go_enter Try.func46, Try.ntmps46
  go_wp2
  go_loopg [6, 7] k (fun kq v6 v7 w' => ∃ (x6_1 : List Int) (x7_1 : Int), v7 = .int .i64 x7_1 ∧ Aside0 (interleaveref11_Unpack.l0 kq l0 a1 x6_1 x7_1 = some (r1, r2)) ∧ Aside0 (kq ≤ k) ∧ Aside0 (Kd.R (Kd.int .u8) 5 w' w.heap.size (fun _ => True) v6 x6_1) ∧ Aside0 (Below w.heap.size w w'))
  case atStart => exact ⟨(([] : List Int)), (0), (by first | rfl | (simp; done) | (simp [*]; done)), H', ⟨Nat.le_refl _⟩, ⟨by first | exact Kd.R_nil _ _ _ _ _ | exact Kd.N_nil _ _ _ _ _ | exact Kd.V_nil _ _ _ _ _ | exact Kd.Q_nil _ _ _ _ _ | exact Kd.S_nil _ _ _ _ _⟩, ⟨by repeat (first | (with_reducible first | exact HB.out | apply below_alloc | apply pw_below_drewN | apply below_drew1) | exact HB.out)⟩⟩
  case round =>
    clear H'
    try clear p2
    obtain ⟨x6_1, x7_1, rfl, HA, HK1, HO_6, HB⟩ := hrel
    cases gk with
    | zero => exact absurd HA.out (by simp [interleaveref11_Unpack.l0])
    | succ k1 =>
      have H := HA.out
      clear HA
      simp only [interleaveref11_Unpack.l0] at H
      by_cases c3 : x7_1 < (l0.length : Int)
      · rw [if_pos c3] at H
        have c3b0 : decide (x7_1 < (l0.length : Int)) = true := decide_eq_true c3
        clear c3
        by_cases c4 : 0 ≤ x7_1
        · rw [if_pos c4] at H
          have c4b0 : decide (0 ≤ x7_1) = true := decide_eq_true c4
          clear c4
          by_cases c5 : (wrap64 (rd l0 x7_1)) < 128
          · rw [if_pos c5] at H
            have c5b0 : decide ((wrap64 (rd l0 x7_1)) < 128) = true := decide_eq_true c5
            clear c5
            by_cases c6 : (wrap64 ((wrap64 (rd l0 x7_1)) + 1)) > (wrap64 ((wrap64 ((l0.length : Int) - x7_1)) - 1))
            · rw [if_pos c6] at H
              have c6b0 : decide ((wrap64 ((wrap64 ((l0.length : Int) - x7_1)) - 1)) < (wrap64 ((wrap64 (rd l0 x7_1)) + 1))) = true := decide_eq_true c6
              clear c6
              simp only [Option.some.injEq, Prod.mk.injEq] at H
              obtain ⟨rfl, rfl⟩ := H
              have p349 : 0 ≤ (x7_1 : Int) := of_decide_eq_true (by first | (with_reducible assumption) | assumption)
              have q349 : x7_1 < (l0.length : Int) := of_decide_eq_true (by first | (with_reducible assumption) | assumption)
              obtain ⟨ad349, e349, hx349_0⟩ := Kd.at_int HR0.out x7_1 p349 q349
              cases e349
              replace hx349_0 := (HB.out.cell (World.block_lt_of_cell? w _ hx349_0)).trans hx349_0
              replace p349 := eq_true p349
              replace q349 := eq_true q349
              go_wp2
              go_ret2
              exact ⟨_, by first | rfl | (simp [errW_none, errW_some] <;> rfl) | (simp [*, errW_none, errW_some] <;> rfl), by first | exact Kd.R_nil _ _ _ _ _ | exact Kd.N_nil _ _ _ _ _ | exact Kd.V_nil _ _ _ _ _ | exact Kd.Q_nil _ _ _ _ _ | exact Kd.S_nil _ _ _ _ _, by repeat (first | (with_reducible first | exact HB.out | apply below_alloc | apply pw_below_drewN | apply below_drew1) | exact HB.out)⟩
            · rw [if_neg c6] at H
              have c6b0 : decide ((wrap64 ((wrap64 ((l0.length : Int) - x7_1)) - 1)) < (wrap64 ((wrap64 (rd l0 x7_1)) + 1))) = false := decide_eq_false c6
              clear c6
              by_cases c7 : (wrap64 ((wrap64 (rd l0 x7_1)) + 1)) > (wrap64 (a1 - (x6_1.length : Int)))
              · rw [if_pos c7] at H
                have c7b0 : decide ((wrap64 (a1 - (x6_1.length : Int))) < (wrap64 ((wrap64 (rd l0 x7_1)) + 1))) = true := decide_eq_true c7
                clear c7
                simp only [Option.some.injEq, Prod.mk.injEq] at H
                obtain ⟨rfl, rfl⟩ := H
                have p349 : 0 ≤ (x7_1 : Int) := of_decide_eq_true (by first | (with_reducible assumption) | assumption)
                have q349 : x7_1 < (l0.length : Int) := of_decide_eq_true (by first | (with_reducible assumption) | assumption)
                obtain ⟨ad349, e349, hx349_0⟩ := Kd.at_int HR0.out x7_1 p349 q349
                cases e349
                replace hx349_0 := (HB.out.cell (World.block_lt_of_cell? w _ hx349_0)).trans hx349_0
                replace p349 := eq_true p349
                replace q349 := eq_true q349
                obtain ⟨Ao8, co8, eo8⟩ := Kd.R_slice HO_6.out
                subst eo8
                go_wp2
                go_ret2
                exact ⟨_, by first | rfl | (simp [errW_none, errW_some] <;> rfl) | (simp [*, errW_none, errW_some] <;> rfl), by first | exact Kd.R_nil _ _ _ _ _ | exact Kd.N_nil _ _ _ _ _ | exact Kd.V_nil _ _ _ _ _ | exact Kd.Q_nil _ _ _ _ _ | exact Kd.S_nil _ _ _ _ _, by repeat (first | (with_reducible first | exact HB.out | apply below_alloc | apply pw_below_drewN | apply below_drew1) | exact HB.out)⟩
              · rw [if_neg c7] at H
                have c7b0 : decide ((wrap64 (a1 - (x6_1.length : Int))) < (wrap64 ((wrap64 (rd l0 x7_1)) + 1))) = false := decide_eq_false c7
                clear c7
                obtain ⟨ji9, hji9⟩ : ∃ j_ : Int, (wrap64 (x7_1 + 1)) = j_ := ⟨_, rfl⟩
                replace H : (if 0 ≤ (ji9) then (if (ji9) ≤ (wrap64 ((wrap64 (x7_1 + (wrap64 (rd l0 x7_1)))) + 2)) then (if (wrap64 ((wrap64 (x7_1 + (wrap64 (rd l0 x7_1)))) + 2)) ≤ (l0.length : Int) then (if x6_1.length + ((l0.take ((wrap64 ((wrap64 (x7_1 + (wrap64 (rd l0 x7_1)))) + 2)) : Int).toNat).drop ((ji9) : Int).toNat).length < 140737488355328 then (interleaveref11_Unpack.l0 k1 l0 a1 (x6_1 ++ ((l0.take ((wrap64 ((wrap64 (x7_1 + (wrap64 (rd l0 x7_1)))) + 2)) : Int).toNat).drop ((ji9) : Int).toNat)) (wrap64 ((wrap64 (x7_1 + (wrap64 (rd l0 x7_1)))) + 2))) else (none)) else (none)) else (none)) else (none)) = some (r1, r2) := by first | (rw [hji9] at H; exact H) | (simp only [hji9] at H ⊢; exact H)
                have hji9w : (IntKind.i64.wrap (x7_1 + 1)) = ji9 := (i64_w _).trans hji9
                by_cases c10 : 0 ≤ (ji9)
                · rw [if_pos c10] at H
                  have c10b0 := eq_true c10
                  have c10b1 : decide (0 ≤ (ji9)) = true := decide_eq_true c10
                  clear c10
                  by_cases c11 : (ji9) ≤ (wrap64 ((wrap64 (x7_1 + (wrap64 (rd l0 x7_1)))) + 2))
                  · rw [if_pos c11] at H
                    have c11b0 := eq_true c11
                    have c11b1 : decide ((ji9) ≤ (wrap64 ((wrap64 (x7_1 + (wrap64 (rd l0 x7_1)))) + 2))) = true := decide_eq_true c11
                    by_cases c12 : (wrap64 ((wrap64 (x7_1 + (wrap64 (rd l0 x7_1)))) + 2)) ≤ (l0.length : Int)
                    · rw [if_pos c12] at H
                      have c12b0 := eq_true c12
                      have c12b1 : decide ((wrap64 ((wrap64 (x7_1 + (wrap64 (rd l0 x7_1)))) + 2)) ≤ (l0.length : Int)) = true := decide_eq_true c12
                      by_cases c13 : x6_1.length + ((l0.take ((wrap64 ((wrap64 (x7_1 + (wrap64 (rd l0 x7_1)))) + 2)) : Int).toNat).drop ((ji9) : Int).toNat).length < 140737488355328
                      · rw [if_pos c13] at H
                        have LMc13 := Aside0.mk c13
                        clear c13
                        obtain ⟨y351, hy351⟩ : ∃ y_ : List Int, y_ = (x6_1 ++ ((l0.take ((wrap64 ((wrap64 (x7_1 + (wrap64 (rd l0 x7_1)))) + 2)) : Int).toNat).drop ((ji9) : Int).toNat)) := ⟨_, rfl⟩
                        replace H : (interleaveref11_Unpack.l0 k1 l0 a1 y351 (wrap64 ((wrap64 (x7_1 + (wrap64 (rd l0 x7_1)))) + 2))) = some (r1, r2) := by first | (rw [hy351]; with_reducible exact H) | (have H2_ := (Option.bind_some _ _).symm.trans H; rw [hy351]; with_reducible exact H2_) | (have H2_ := (Option.bind_some _ _).symm.trans H; with_reducible exact H2_) | with_reducible exact H | (rw [hy351]; exact H) | exact H
                        have Ny351 := Aside0.mk hy351
                        clear hy351
                        have H' := Aside0.mk H
                        clear H
                        have p349 : 0 ≤ (x7_1 : Int) := of_decide_eq_true (by first | (with_reducible assumption) | assumption)
                        have q349 : x7_1 < (l0.length : Int) := of_decide_eq_true (by first | (with_reducible assumption) | assumption)
                        obtain ⟨ad349, e349, hx349_0⟩ := Kd.at_int HR0.out x7_1 p349 q349
                        cases e349
                        replace hx349_0 := (HB.out.cell (World.block_lt_of_cell? w _ hx349_0)).trans hx349_0
                        replace p349 := eq_true p349
                        replace q349 := eq_true q349
                        obtain ⟨Ao14, co14, eo14⟩ := Kd.R_slice HO_6.out
                        subst eo14
                        obtain ⟨i015, hi015, _, hsz15, _⟩ := info_parts info5
                        obtain ⟨A15, hcut15, hA15, hC15⟩ := print_mid_of (P := Try.prog) (Value.int .u8) 0 22 5 .i64 .i64 Try.underlying22 hi015 hsz15 (some ad349) c0 l0 (ji9) (wrap64 ((wrap64 (x7_1 + (wrap64 (rd l0 x7_1)))) + 2)) (of_decide_eq_true (by first | (with_reducible assumption) | assumption)) (by first | omega | exact of_decide_eq_true (by first | (with_reducible assumption) | assumption)) (of_decide_eq_true (by first | (with_reducible assumption) | assumption)) HC0.out
                        have HR350 := Aside0.mk (Kd.C_of_reads (h1 := fun _ => rfl) (hA15 _ (Kd.reads_of_C HR0.out)))
                        have HC350 := Aside0.mk hC15
                        clear hA15 hC15 hi015 hsz15
                        go_wp2_with (first | ((with_reducible refine gate_builtin (b := .append) (xs := #[.tmp 37, .tmp 45]) rfl ?_); (try (refine gate_guard (by rfl) ?_; dsimp only)); at_builtin; refine Kd.R_append_rows (Kd.int .u8) (w0 := w) w.heap.size rfl (.tmp 37) (.tmp 45) 22 5 (.int .u8 0) 1 rfl Try.underlying22 info5 rfl (by decide) (by omega) (.slice Ao14 x6_1.length co14) x6_1 ((l0.take ((wrap64 ((wrap64 (x7_1 + (wrap64 (rd l0 x7_1)))) + 2)) : Int).toNat).drop ((ji9) : Int).toNat) _ _ _ (fun _ => True) (fun _ => False) rfl rfl ?aO ?aR (fun _ _ h => h) (fun _ h => h.elim) ?aF ?aB ?aS ?aL ?_; (case aR => first | (rw [← show ((l0.take ((wrap64 ((wrap64 (x7_1 + (wrap64 (rd l0 x7_1)))) + 2)) : Int).toNat).drop ((ji9) : Int).toNat).length = ((wrap64 ((wrap64 (x7_1 + (wrap64 (rd l0 x7_1)))) + 2)).toNat - (ji9).toNat) from (by rw [List.length_drop, List.length_take]; have h_ : ((wrap64 ((wrap64 (x7_1 + (wrap64 (rd l0 x7_1)))) + 2)) : Int) ≤ (l0.length : Int) := of_decide_eq_true (by first | (with_reducible assumption) | assumption); omega)]; repeat (first | exact (Kd.C_below HR350.out HB.out) | (with_reducible refine Kd.C_alloc ?_ _) | (with_reducible refine Kd.C_drewN ?_ _) | (with_reducible refine Kd.C_drew ?_))) | (repeat (first | exact (Kd.C_below HR350.out HB.out) | (with_reducible refine Kd.C_alloc ?_ _) | (with_reducible refine Kd.C_drewN ?_ _) | (with_reducible refine Kd.C_drew ?_)))); (case aB => exact (by repeat (first | (with_reducible first | exact HB.out | apply below_alloc | apply pw_below_drewN | apply below_drew1) | exact HB.out))); (case aF => exact (fun _ _ => trivial)); (case aO => exact (by (with_reducible repeat (first | apply Kd.R_alloc | apply Kd.R_drewN | apply Kd.R_drew)); exact HO_6.out)); (case aS => exact (below_size (by repeat (first | (with_reducible first | exact HB.out | apply below_alloc | apply pw_below_drewN | apply below_drew1) | exact HB.out)))); (case aL => have := LMc13.out; have hlx_ := (show ((l0.take ((wrap64 ((wrap64 (x7_1 + (wrap64 (rd l0 x7_1)))) + 2)) : Int).toNat).drop ((ji9) : Int).toNat).length = ((wrap64 ((wrap64 (x7_1 + (wrap64 (rd l0 x7_1)))) + 2)).toNat - (ji9).toNat) from (by rw [List.length_drop, List.length_take]; have h_ : ((wrap64 ((wrap64 (x7_1 + (wrap64 (rd l0 x7_1)))) + 2)) : Int) ≤ (l0.length : Int) := of_decide_eq_true (by first | (with_reducible assumption) | assumption); omega)); omega); intro v352 w16 ho hb hg hat; rw [← Ny351.out] at ho; have n0_ := Aside0.mk (hb); have n1_ := Aside0.mk (ho); clear HB; clear HO_6; have HB := n0_; have HO353 := n1_; clear n0_ n1_; clear ho hb hg hat))
                        go_roundg k1
                        case measure => have := HK1.out; omega
                        case rel => exact ⟨(y351), (wrap64 ((wrap64 (x7_1 + (wrap64 (rd l0 x7_1)))) + 2)), (by first | rfl | (simp; done) | (simp [*]; done)), H', ⟨by have := HK1.out; omega⟩, ⟨by (with_reducible repeat (first | apply Kd.R_alloc | apply Kd.R_drewN | apply Kd.R_drew)); exact HO353.out⟩, ⟨by repeat (first | (with_reducible first | exact HB.out | apply below_alloc | apply pw_below_drewN | apply below_drew1) | exact HB.out)⟩⟩
                      · rw [if_neg c13] at H
                        exact absurd H (by simp)
                    · rw [if_neg c12] at H
                      exact absurd H (by simp)
                  · rw [if_neg c11] at H
                    exact absurd H (by simp)
                · rw [if_neg c10] at H
                  exact absurd H (by simp)
          · rw [if_neg c5] at H
            have c5b0 : decide ((wrap64 (rd l0 x7_1)) < 128) = false := decide_eq_false c5
            clear c5
            by_cases c17 : (wrap64 (x7_1 + 1)) ≥ (l0.length : Int)
            · rw [if_pos c17] at H
              have c17b0 : decide ((l0.length : Int) ≤ (wrap64 (x7_1 + 1))) = true := decide_eq_true c17
              clear c17
              simp only [Option.some.injEq, Prod.mk.injEq] at H
              obtain ⟨rfl, rfl⟩ := H
              have p349 : 0 ≤ (x7_1 : Int) := of_decide_eq_true (by first | (with_reducible assumption) | assumption)
              have q349 : x7_1 < (l0.length : Int) := of_decide_eq_true (by first | (with_reducible assumption) | assumption)
              obtain ⟨ad349, e349, hx349_0⟩ := Kd.at_int HR0.out x7_1 p349 q349
              cases e349
              replace hx349_0 := (HB.out.cell (World.block_lt_of_cell? w _ hx349_0)).trans hx349_0
              replace p349 := eq_true p349
              replace q349 := eq_true q349
              go_wp2
              go_ret2
              exact ⟨_, by first | rfl | (simp [errW_none, errW_some] <;> rfl) | (simp [*, errW_none, errW_some] <;> rfl), by first | exact Kd.R_nil _ _ _ _ _ | exact Kd.N_nil _ _ _ _ _ | exact Kd.V_nil _ _ _ _ _ | exact Kd.Q_nil _ _ _ _ _ | exact Kd.S_nil _ _ _ _ _, by repeat (first | (with_reducible first | exact HB.out | apply below_alloc | apply pw_below_drewN | apply below_drew1) | exact HB.out)⟩
            · rw [if_neg c17] at H
              have c17b0 : decide ((l0.length : Int) ≤ (wrap64 (x7_1 + 1))) = false := decide_eq_false c17
              clear c17
              obtain ⟨ji18, hji18⟩ : ∃ j_ : Int, (wrap64 (x7_1 + 1)) = j_ := ⟨_, rfl⟩
              replace H : (if 0 ≤ (ji18) then (if (ji18) < (l0.length : Int) then (if (wrap64 (rd l0 (ji18))) = 0 then (interleaveref11_Unpack.j1 k1 l0 a1 x6_1 x7_1 (wrap64 (rd l0 x7_1)) (wrap64 (rd l0 (ji18))) true) else (interleaveref11_Unpack.j1 k1 l0 a1 x6_1 x7_1 (wrap64 (rd l0 x7_1)) (wrap64 (rd l0 (ji18))) (decide ((wrap64 (rd l0 (ji18))) > (x6_1.length : Int))))) else (none)) else (none)) = some (r1, r2) := by first | (rw [hji18] at H; exact H) | (simp only [hji18] at H ⊢; exact H)
              (try rw [hji18] at c17b0)
              have hji18w : (IntKind.i64.wrap (x7_1 + 1)) = ji18 := (i64_w _).trans hji18
              by_cases c19 : 0 ≤ (ji18)
              · rw [if_pos c19] at H
                have c19b0 : decide (0 ≤ (ji18)) = true := decide_eq_true c19
                clear c19
                by_cases c20 : (ji18) < (l0.length : Int)
                · rw [if_pos c20] at H
                  have c20b0 : decide ((ji18) < (l0.length : Int)) = true := decide_eq_true c20
                  clear c20
                  have HC21 := Aside0.mk H
                  clear H
                  have p349 : 0 ≤ (x7_1 : Int) := of_decide_eq_true (by first | (with_reducible assumption) | assumption)
                  have q349 : x7_1 < (l0.length : Int) := of_decide_eq_true (by first | (with_reducible assumption) | assumption)
                  obtain ⟨ad349, e349, hx349_0⟩ := Kd.at_int HR0.out x7_1 p349 q349
                  cases e349
                  replace hx349_0 := (HB.out.cell (World.block_lt_of_cell? w _ hx349_0)).trans hx349_0
                  replace p349 := eq_true p349
                  replace q349 := eq_true q349
                  have p354 : 0 ≤ ((ji18) : Int) := of_decide_eq_true (by first | (with_reducible assumption) | assumption)
                  have q354 : (ji18) < (l0.length : Int) := of_decide_eq_true (by first | (with_reducible assumption) | assumption)
                  obtain ⟨ad354, e354, hx354_0⟩ := Kd.at_int HR0.out (ji18) p354 q354
                  obtain rfl : ad349 = ad354 := (by injection e354)
                  replace hx354_0 := (HB.out.cell (World.block_lt_of_cell? w _ hx354_0)).trans hx354_0
                  replace p354 := eq_true p354
                  replace q354 := eq_true q354
                  go_upto_region 15 with (fail)
                  go_cut [69] (fun v69 wc => ∃ (kq : Nat) (x69_20 : Bool), v69 = .bool x69_20 ∧ Aside0 (interleaveref11_Unpack.j1 kq l0 a1 x6_1 x7_1 (wrap64 (rd l0 x7_1)) (wrap64 (rd l0 (ji18))) x69_20 = some (r1, r2)) ∧ Aside0 (kq ≤ k1) ∧ Aside0 (Kd.R (Kd.int .u8) 5 wc w.heap.size (fun _ => True) u6 x6_1) ∧ Aside0 (Below w.heap.size w wc))
                  case first =>
                    have H := HC21.out
                    clear HC21
                    by_cases c22 : (wrap64 (rd l0 (ji18))) = 0
                    · rw [if_pos c22] at H
                      have c22b0 : ((wrap64 (rd l0 (ji18))) == 0) = true := beq_iff_eq.mpr c22
                      have c22b1 : ((wrap64 (rd l0 (ji18))) != 0) = false := bne_eq_false_iff_eq.mpr c22
                      clear c22
                      (first | rw [c22b0] | (simp only [i64_w, i32_w]; rw [c22b0]) | skip)
                      have H' := Aside0.mk H
                      clear H
                      go_wp2
                      go_meet
                      case rel => exact ⟨_, (true), (by first | rfl | (simp; done) | (simp [*]; done)), H', ⟨by have := HK1.out; first | omega | exact Nat.le_refl _⟩, ⟨by (with_reducible repeat (first | apply Kd.R_alloc | apply Kd.R_drewN | apply Kd.R_drew)); exact HO_6.out⟩, ⟨by repeat (first | (with_reducible first | exact HB.out | apply below_alloc | apply pw_below_drewN | apply below_drew1) | exact HB.out)⟩⟩
                    · rw [if_neg c22] at H
                      have c22b0 : ((wrap64 (rd l0 (ji18))) == 0) = false := beq_eq_false_iff_ne.mpr c22
                      have c22b1 : ((wrap64 (rd l0 (ji18))) != 0) = true := bne_iff_ne.mpr c22
                      (first | rw [c22b0] | (simp only [i64_w, i32_w]; rw [c22b0]) | skip)
                      have H' := Aside0.mk H
                      clear H
                      obtain ⟨Ao23, co23, eo23⟩ := Kd.R_slice HO_6.out
                      subst eo23
                      go_wp2
                      go_meet
                      case rel => exact ⟨_, (decide ((wrap64 (rd l0 (ji18))) > (x6_1.length : Int))), (by first | rfl | (simp; done) | (simp only [← hji18] <;> (first | rfl | simp)) | (simp [*]; done)), H', ⟨by have := HK1.out; first | omega | exact Nat.le_refl _⟩, ⟨by (with_reducible repeat (first | apply Kd.R_alloc | apply Kd.R_drewN | apply Kd.R_drew)); exact HO_6.out⟩, ⟨by repeat (first | (with_reducible first | exact HB.out | apply below_alloc | apply pw_below_drewN | apply below_drew1) | exact HB.out)⟩⟩
                  case rest =>
                    clear HC21
                    try clear c1
                    try clear c2
                    try clear p2
                    try clear c3
                    try clear c3b0
                    try clear p3
                    try clear q3
                    try clear hx3
                    try clear c4
                    try clear c4b0
                    try clear c5
                    try clear c5b0
                    try clear c6
                    try clear c6b0
                    try clear p6
                    try clear c7
                    try clear c7b0
                    try clear c10
                    try clear c10b0
                    try clear c10b1
                    try clear c11
                    try clear c11b0
                    try clear c11b1
                    try clear c12
                    try clear c12b0
                    try clear c12b1
                    try clear c13
                    try clear c17
                    try clear c17b0
                    try clear c19
                    try clear c19b0
                    try clear c20
                    try clear c20b0
                    try clear c22
                    try clear c22b0
                    try clear c22b1
                    try clear hx349_0
                    try clear hx354_0
                    try clear p2
                    try clear p349
                    try clear p354
                    try clear q349
                    try clear q354
                    obtain ⟨kq, x69_20, rfl, HA, HJ20, HO_6, HB⟩ := hcut
                    cases kq with
                    | zero => exact absurd HA.out (by simp [interleaveref11_Unpack.j1])
                    | succ kj20 =>
                      have H := HA.out
                      clear HA
                      simp only [interleaveref11_Unpack.j1] at H
                      by_cases c24 : x69_20 = true
                      · subst c24
                        have H1 : (some (([] : List Int), 11)) = some (r1, r2) := by rw [if_pos rfl] at H; exact H
                        clear H
                        have H := H1
                        clear H1
                        simp only [Option.some.injEq, Prod.mk.injEq] at H
                        obtain ⟨rfl, rfl⟩ := H
                        go_wp2
                        go_ret2
                        exact ⟨_, by first | rfl | (simp [errW_none, errW_some] <;> rfl) | (simp only [← hji18]; first | rfl | (simp [errW_none, errW_some] <;> rfl)) | (simp [*, errW_none, errW_some] <;> rfl), by first | exact Kd.R_nil _ _ _ _ _ | exact Kd.N_nil _ _ _ _ _ | exact Kd.V_nil _ _ _ _ _ | exact Kd.Q_nil _ _ _ _ _ | exact Kd.S_nil _ _ _ _ _, by repeat (first | (with_reducible first | exact HB.out | apply below_alloc | apply pw_below_drewN | apply below_drew1) | exact HB.out)⟩
                      · replace c24 := Bool.eq_false_iff.mpr c24
                        subst c24
                        have H1 : (if (wrap64 ((wrap64 (rd l0 x7_1)) - 125)) > (wrap64 (a1 - (x6_1.length : Int))) then (some (([] : List Int), 2)) else (interleaveref11_Unpack.l1 kj20 l0 a1 x6_1 x7_1 (wrap64 (rd l0 x7_1)) (wrap64 (rd l0 (ji18))) 0)) = some (r1, r2) := by rw [if_neg (show ¬ (false = true) by decide)] at H; exact H
                        clear H
                        have H := H1
                        clear H1
                        by_cases c25 : (wrap64 ((wrap64 (rd l0 x7_1)) - 125)) > (wrap64 (a1 - (x6_1.length : Int)))
                        · rw [if_pos c25] at H
                          have c25b0 : decide ((wrap64 (a1 - (x6_1.length : Int))) < (wrap64 ((wrap64 (rd l0 x7_1)) - 125))) = true := decide_eq_true c25
                          clear c25
                          simp only [Option.some.injEq, Prod.mk.injEq] at H
                          obtain ⟨rfl, rfl⟩ := H
                          obtain ⟨Ao26, co26, eo26⟩ := Kd.R_slice HO_6.out
                          subst eo26
                          go_wp2
                          go_ret2
                          exact ⟨_, by first | rfl | (simp [errW_none, errW_some] <;> rfl) | (simp only [← hji18]; first | rfl | (simp [errW_none, errW_some] <;> rfl)) | (simp [*, errW_none, errW_some] <;> rfl), by first | exact Kd.R_nil _ _ _ _ _ | exact Kd.N_nil _ _ _ _ _ | exact Kd.V_nil _ _ _ _ _ | exact Kd.Q_nil _ _ _ _ _ | exact Kd.S_nil _ _ _ _ _, by repeat (first | (with_reducible first | exact HB.out | apply below_alloc | apply pw_below_drewN | apply below_drew1) | exact HB.out)⟩
                        · rw [if_neg c25] at H
                          have c25b0 : decide ((wrap64 (a1 - (x6_1.length : Int))) < (wrap64 ((wrap64 (rd l0 x7_1)) - 125))) = false := decide_eq_false c25
                          clear c25
                          have H' := Aside0.mk H
                          clear H
                          obtain ⟨Ao27, co27, eo27⟩ := Kd.R_slice HO_6.out
                          subst eo27
                          go_wp2
                          go_loopg [6, 10] kj20 (fun kq v6 v10 w' => ∃ (x6_3 : List Int) (x10_3 : Int), v10 = .int .i64 x10_3 ∧ Aside0 (interleaveref11_Unpack.l1 kq l0 a1 x6_3 x7_1 (wrap64 (rd l0 x7_1)) (wrap64 (rd l0 (ji18))) x10_3 = some (r1, r2)) ∧ Aside0 (kq ≤ kj20) ∧ Aside0 (Kd.R (Kd.int .u8) 5 w' w.heap.size (fun _ => True) v6 x6_3) ∧ Aside0 (Below w.heap.size w w'))
                          case atStart => exact ⟨(x6_1), (0), (by first | rfl | (simp; done) | (simp [*]; done)), H', ⟨Nat.le_refl _⟩, ⟨by (with_reducible repeat (first | apply Kd.R_alloc | apply Kd.R_drewN | apply Kd.R_drew)); exact HO_6.out⟩, ⟨by repeat (first | (with_reducible first | exact HB.out | apply below_alloc | apply pw_below_drewN | apply below_drew1) | exact HB.out)⟩⟩
                          case round =>
                            clear H'
                            try clear c1
                            try clear c2
                            try clear p2
                            try clear c3
                            try clear c3b0
                            try clear p3
                            try clear q3
                            try clear hx3
                            try clear c4
                            try clear c4b0
                            try clear c5
                            try clear c5b0
                            try clear c6
                            try clear c6b0
                            try clear p6
                            try clear c7
                            try clear c7b0
                            try clear c10
                            try clear c10b0
                            try clear c10b1
                            try clear c11
                            try clear c11b0
                            try clear c11b1
                            try clear c12
                            try clear c12b0
                            try clear c12b1
                            try clear c13
                            try clear c17
                            try clear c17b0
                            try clear c19
                            try clear c19b0
                            try clear c20
                            try clear c20b0
                            try clear c22
                            try clear c22b0
                            try clear c22b1
                            try clear c24
                            try clear c25
                            try clear c25b0
                            try clear hx349_0
                            try clear hx354_0
                            try clear p2
                            try clear p3
                            try clear p349
                            try clear p354
                            try clear p6
                            try clear q3
                            try clear q349
                            try clear q354
                            obtain ⟨x6_3, x10_3, rfl, HA, HK3, HO_6, HB⟩ := hrel
                            cases gk with
                            | zero => exact absurd HA.out (by simp [interleaveref11_Unpack.l1])
                            | succ k3 =>
                              have H := HA.out
                              clear HA
                              simp only [interleaveref11_Unpack.l1] at H
                              by_cases c28 : x10_3 < (wrap64 ((wrap64 (rd l0 x7_1)) - 125))
                              · rw [if_pos c28] at H
                                have c28b0 : decide (x10_3 < (wrap64 ((wrap64 (rd l0 x7_1)) - 125))) = true := decide_eq_true c28
                                clear c28
                                obtain ⟨ji29, hji29⟩ : ∃ j_ : Int, (wrap64 ((x6_3.length : Int) - (wrap64 (rd l0 (ji18))))) = j_ := ⟨_, rfl⟩
                                replace H : (if 0 ≤ (ji29) then (if (ji29) < (x6_3.length : Int) then (if x6_3.length < 140737488355328 then (interleaveref11_Unpack.l1 k3 l0 a1 (x6_3 ++ [rd x6_3 (ji29)]) x7_1 (wrap64 (rd l0 x7_1)) (wrap64 (rd l0 (ji18))) (wrap64 (x10_3 + 1))) else (none)) else (none)) else (none)) = some (r1, r2) := by first | (rw [hji29] at H; exact H) | (simp only [hji29] at H ⊢; exact H)
                                have hji29w : (IntKind.i64.wrap ((x6_3.length : Int) - (wrap64 (rd l0 (ji18))))) = ji29 := (i64_w _).trans hji29
                                by_cases c30 : 0 ≤ (ji29)
                                · rw [if_pos c30] at H
                                  have c30b0 : decide (0 ≤ (ji29)) = true := decide_eq_true c30
                                  clear c30
                                  by_cases c31 : (ji29) < (x6_3.length : Int)
                                  · rw [if_pos c31] at H
                                    have c31b0 : decide ((ji29) < (x6_3.length : Int)) = true := decide_eq_true c31
                                    clear c31
                                    by_cases c32 : x6_3.length < 140737488355328
                                    · rw [if_pos c32] at H
                                      have LMc32 := Aside0.mk c32
                                      clear c32
                                      obtain ⟨y356, hy356⟩ : ∃ y_ : List Int, y_ = (x6_3 ++ [rd x6_3 (ji29)]) := ⟨_, rfl⟩
                                      replace H : (interleaveref11_Unpack.l1 k3 l0 a1 y356 x7_1 (wrap64 (rd l0 x7_1)) (wrap64 (rd l0 (ji18))) (wrap64 (x10_3 + 1))) = some (r1, r2) := by first | (rw [hy356]; with_reducible exact H) | (have H2_ := (Option.bind_some _ _).symm.trans H; rw [hy356]; with_reducible exact H2_) | (have H2_ := (Option.bind_some _ _).symm.trans H; with_reducible exact H2_) | with_reducible exact H | (rw [hy356]; exact H) | exact H
                                      have Ny356 := Aside0.mk hy356
                                      clear hy356
                                      have H' := Aside0.mk H
                                      clear H
                                      obtain ⟨Ao33, co33, eo33⟩ := Kd.R_slice HO_6.out
                                      subst eo33
                                      have p355 : 0 ≤ ((ji29) : Int) := of_decide_eq_true (by first | (with_reducible assumption) | assumption)
                                      have q355 : (ji29) < (x6_3.length : Int) := of_decide_eq_true (by first | (with_reducible assumption) | assumption)
                                      obtain ⟨ad355, e355, hx355_0⟩ := Kd.at_int (Kd.R_reads' HO_6.out).2.2 (ji29) p355 q355
                                      cases e355
                                      replace p355 := eq_true p355
                                      replace q355 := eq_true q355
                                      go_wp2_with (first | ((with_reducible refine gate_builtin (b := .append) (xs := #[.tmp 83, .tmp 91]) rfl ?_); (try (refine gate_guard (by rfl) ?_; dsimp only)); at_builtin; refine Kd.R_append (Kd.int .u8) (w0 := w) w.heap.size rfl (.tmp 83) (.tmp 91) 22 5 (.int .u8 0) 1 rfl Try.underlying22 info5 rfl (by decide) (by omega) (.slice (some ad355) x6_3.length co33) x6_3 (rd x6_3 (ji29)) [.int .u8 (rd x6_3 (ji29))] (fun _ => True) (fun _ => False) rfl rfl ?aP (fun _ hk => hk.elim) ?aF ?aO ?aB ?aS ?aL ?_; (case aP => exact rfl); (case aB => exact (by repeat (first | (with_reducible first | exact HB.out | apply below_alloc | apply pw_below_drewN | apply below_drew1) | exact HB.out))); (case aF => exact (fun _ _ => trivial)); (case aO => exact (by (with_reducible repeat (first | apply Kd.R_alloc | apply Kd.R_drewN | apply Kd.R_drew)); exact HO_6.out)); (case aS => exact (below_size (by repeat (first | (with_reducible first | exact HB.out | apply below_alloc | apply pw_below_drewN | apply below_drew1) | exact HB.out)))); (case aL => have := LMc32.out; omega); intro v357 w34 ho hb hg hat; rw [← Ny356.out] at ho; have n0_ := Aside0.mk (hb); have n1_ := Aside0.mk (ho); clear HB; clear HO_6; have HB := n0_; have HO358 := n1_; clear n0_ n1_; clear ho hb hg hat))
                                      go_roundg k3
                                      case measure => have := HK1.out; have := HJ20.out; have := HK3.out; omega
                                      case rel => exact ⟨(y356), (wrap64 (x10_3 + 1)), (by first | rfl | (simp; done) | (simp [*]; done)), H', ⟨by have := HK1.out; have := HJ20.out; have := HK3.out; omega⟩, ⟨by (with_reducible repeat (first | apply Kd.R_alloc | apply Kd.R_drewN | apply Kd.R_drew)); exact HO358.out⟩, ⟨by repeat (first | (with_reducible first | exact HB.out | apply below_alloc | apply pw_below_drewN | apply below_drew1) | exact HB.out)⟩⟩
                                    · rw [if_neg c32] at H
                                      exact absurd H (by simp)
                                  · rw [if_neg c31] at H
                                    exact absurd H (by simp)
                                · rw [if_neg c30] at H
                                  exact absurd H (by simp)
                              · rw [if_neg c28] at H
                                have c28b0 : decide (x10_3 < (wrap64 ((wrap64 (rd l0 x7_1)) - 125))) = false := decide_eq_false c28
                                clear c28
                                have H' := Aside0.mk H
                                clear H
                                go_wp2
                                go_roundg k3
                                case measure => have := HK1.out; have := HJ20.out; have := HK3.out; omega
                                case rel => exact ⟨(x6_3), (wrap64 (x7_1 + 2)), (by first | rfl | (simp; done) | (simp [*]; done)), H', ⟨by have := HK1.out; have := HJ20.out; have := HK3.out; omega⟩, ⟨by (with_reducible repeat (first | apply Kd.R_alloc | apply Kd.R_drewN | apply Kd.R_drew)); exact HO_6.out⟩, ⟨by repeat (first | (with_reducible first | exact HB.out | apply below_alloc | apply pw_below_drewN | apply below_drew1) | exact HB.out)⟩⟩
                · rw [if_neg c20] at H
                  exact absurd H (by simp)
              · rw [if_neg c19] at H
                exact absurd H (by simp)
        · rw [if_neg c4] at H
          exact absurd H (by simp)
      · rw [if_neg c3] at H
        have c3b0 : decide (x7_1 < (l0.length : Int)) = false := decide_eq_false c3
        clear c3
        simp only [Option.some.injEq, Prod.mk.injEq] at H
        obtain ⟨rfl, rfl⟩ := H
        go_wp2
        go_ret2
        exact ⟨_, by first | rfl | (simp [errW_none, errW_some] <;> rfl) | (simp [*, errW_none, errW_some] <;> rfl), by (with_reducible repeat (first | apply Kd.R_alloc | apply Kd.R_drewN | apply Kd.R_drew)); exact HO_6.out, by repeat (first | (with_reducible first | exact HB.out | apply below_alloc | apply pw_below_drewN | apply below_drew1) | exact HB.out)⟩

end Go.Proofs.Ytkanlkgmiednfaa.A
