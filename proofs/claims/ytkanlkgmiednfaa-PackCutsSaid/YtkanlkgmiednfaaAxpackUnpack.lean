/- Made by a program of this session (drv.py) over the kit's printer: plain functions, and the proofs that the program's functions come to their answers. No condition. -/
import Derived.Test.YtkanlkgmiednfaaAx0
namespace Go.Proofs.Ytkanlkgmiednfaa.A
open Go.RowKit Go.Proofs.YtkanlkgmiednfaaW.PrintWords Go.Proofs.YtkanlkgmiednfaaW.PrintLast Go.Proofs.YtkanlkgmiednfaaW.PrintMore
attribute [local go_sem] max2_int min2_int max_two min_two max_three min_three max_four min_four   -- for this text's walks alone
set_option linter.unusedVariables false
set_option linter.unusedSimpArgs false

/-! ### pack_Unpack: function 45 -/
mutual
def pack_Unpack.l0 : Nat → List Int → Int → List Int → Int → Option (List Int × Int)
  | 0, _, _, _, _ => none
  | k + 1, x0, x1, x6, x7 => if x7 < (x0.length : Int) then (if 0 ≤ x7 then (if (wrap64 (rd x0 x7)) < 128 then (if (wrap64 ((wrap64 (x7 + (wrap64 (rd x0 x7)))) + 1)) ≥ (x0.length : Int) then (pack_Unpack.j1 k x0 x1 x6 x7 (wrap64 (rd x0 x7)) true) else (if (wrap64 (rd x0 x7)) ≥ 128 then (pack_Unpack.j1 k x0 x1 x6 x7 (wrap64 (rd x0 x7)) (decide ((wrap64 (x7 + 1)) ≥ (x0.length : Int)))) else (pack_Unpack.j1 k x0 x1 x6 x7 (wrap64 (rd x0 x7)) false))) else (if (wrap64 (rd x0 x7)) ≥ 128 then (pack_Unpack.j1 k x0 x1 x6 x7 (wrap64 (rd x0 x7)) (decide ((wrap64 (x7 + 1)) ≥ (x0.length : Int)))) else (pack_Unpack.j1 k x0 x1 x6 x7 (wrap64 (rd x0 x7)) false))) else (none)) else (some (x6, 0))
def pack_Unpack.j1 : Nat → List Int → Int → List Int → Int → Int → Bool → Option (List Int × Int)
  | 0, _, _, _, _, _, _ => none
  | k + 1, x0, x1, x6, x7, x8, x51 => if x51 = true then (some (([] : List Int), 9)) else (if x8 < 128 then (if 0 ≤ (wrap64 (x7 + 1)) then (if (wrap64 (x7 + 1)) ≤ (wrap64 ((wrap64 (x7 + x8)) + 2)) then (if (wrap64 ((wrap64 (x7 + x8)) + 2)) ≤ (x0.length : Int) then (if x6.length + ((x0.take ((wrap64 ((wrap64 (x7 + x8)) + 2)) : Int).toNat).drop ((wrap64 (x7 + 1)) : Int).toNat).length < 140737488355328 then ((some (x6 ++ ((x0.take ((wrap64 ((wrap64 (x7 + x8)) + 2)) : Int).toNat).drop ((wrap64 (x7 + 1)) : Int).toNat) : List Int)).bind fun y341 => (if (y341.length : Int) > x1 then (some (([] : List Int), 2)) else (pack_Unpack.l0 k x0 x1 y341 (wrap64 (x7 + (wrap64 (x8 + 2))))))) else (none)) else (none)) else (none)) else (none)) else (if 0 ≤ (wrap64 (x7 + 1)) then (if (wrap64 (x7 + 1)) < (x0.length : Int) then (if (wrap64 (rd x0 (wrap64 (x7 + 1)))) = 0 then (pack_Unpack.j2 k x0 x1 x6 x7 x8 (wrap64 (rd x0 (wrap64 (x7 + 1)))) true) else (pack_Unpack.j2 k x0 x1 x6 x7 x8 (wrap64 (rd x0 (wrap64 (x7 + 1)))) (decide ((wrap64 (rd x0 (wrap64 (x7 + 1)))) > (x6.length : Int))))) else (none)) else (none)))
def pack_Unpack.j2 : Nat → List Int → Int → List Int → Int → Int → Int → Bool → Option (List Int × Int)
  | 0, _, _, _, _, _, _, _ => none
  | k + 1, x0, x1, x6, x7, x8, x9, x32 => if x32 = true then (some (([] : List Int), 11)) else (pack_Unpack.l1 k x0 x1 x6 x7 x9 (wrap64 ((wrap64 (x8 - 128)) + 3)) 0)
def pack_Unpack.l1 : Nat → List Int → Int → List Int → Int → Int → Int → Int → Option (List Int × Int)
  | 0, _, _, _, _, _, _, _ => none
  | k + 1, x0, x1, x6, x7, x9, x35, x36 => if x36 < x35 then (if 0 ≤ (wrap64 ((x6.length : Int) - x9)) then (if (wrap64 ((x6.length : Int) - x9)) < (x6.length : Int) then (if x6.length < 140737488355328 then (pack_Unpack.l1 k x0 x1 (x6 ++ [rd x6 (wrap64 ((x6.length : Int) - x9))]) x7 x9 x35 (wrap64 (x36 + 1))) else (none)) else (none)) else (none)) else (if (x6.length : Int) > x1 then (some (([] : List Int), 2)) else (pack_Unpack.l0 k x0 x1 x6 (wrap64 (x7 + 2))))
end
def pack_Unpack.f (k : Nat) (l0 : List Int) (a1 : Int) : Option (List Int × Int) := pack_Unpack.l0 k l0 a1 ([] : List Int) 0
theorem pack_Unpack.mono_l : ∀ k, (∀ y0 y1 y2 y3, LeO (pack_Unpack.l0 k y0 y1 y2 y3) (pack_Unpack.l0 (k + 1) y0 y1 y2 y3)) ∧ (∀ y0 y1 y2 y3 y4 y5, LeO (pack_Unpack.j1 k y0 y1 y2 y3 y4 y5) (pack_Unpack.j1 (k + 1) y0 y1 y2 y3 y4 y5)) ∧ (∀ y0 y1 y2 y3 y4 y5 y6, LeO (pack_Unpack.j2 k y0 y1 y2 y3 y4 y5 y6) (pack_Unpack.j2 (k + 1) y0 y1 y2 y3 y4 y5 y6)) ∧ (∀ y0 y1 y2 y3 y4 y5 y6, LeO (pack_Unpack.l1 k y0 y1 y2 y3 y4 y5 y6) (pack_Unpack.l1 (k + 1) y0 y1 y2 y3 y4 y5 y6))
  | 0 => ⟨fun _ _ _ _ r h => by simp [pack_Unpack.l0] at h, fun _ _ _ _ _ _ r h => by simp [pack_Unpack.j1] at h, fun _ _ _ _ _ _ _ r h => by simp [pack_Unpack.j2] at h, fun _ _ _ _ _ _ _ r h => by simp [pack_Unpack.l1] at h⟩
  | k + 1 => by
    obtain ⟨ih0, ih1, ih2, ih3⟩ := pack_Unpack.mono_l k
    refine ⟨?_, ?_, ?_, ?_⟩
    · intro y0 y1 y2 y3
      unfold pack_Unpack.l0
      repeat' first
      | (with_reducible exact ih0 _ _ _ _)
      | (with_reducible exact ih1 _ _ _ _ _ _)
      | (with_reducible exact ih2 _ _ _ _ _ _ _)
      | (with_reducible exact ih3 _ _ _ _ _ _ _)
      | (with_reducible exact LeO.refl _)
      | (with_reducible exact LeO.none _)
      | (with_reducible refine LeO.ite ?_ ?_)
      | (with_reducible refine LeO.bind ?_ (fun _ => ?_))
      | exact ih0 _ _ _ _
      | exact ih1 _ _ _ _ _ _
      | exact ih2 _ _ _ _ _ _ _
      | exact ih3 _ _ _ _ _ _ _
      | exact LeO.none _
      | refine LeO.ite ?_ ?_
      | refine LeO.bind ?_ (fun _ => ?_)
    · intro y0 y1 y2 y3 y4 y5
      unfold pack_Unpack.j1
      repeat' first
      | (with_reducible exact ih0 _ _ _ _)
      | (with_reducible exact ih1 _ _ _ _ _ _)
      | (with_reducible exact ih2 _ _ _ _ _ _ _)
      | (with_reducible exact ih3 _ _ _ _ _ _ _)
      | (with_reducible exact LeO.refl _)
      | (with_reducible exact LeO.none _)
      | (with_reducible refine LeO.ite ?_ ?_)
      | (with_reducible refine LeO.bind ?_ (fun _ => ?_))
      | exact ih0 _ _ _ _
      | exact ih1 _ _ _ _ _ _
      | exact ih2 _ _ _ _ _ _ _
      | exact ih3 _ _ _ _ _ _ _
      | exact LeO.none _
      | refine LeO.ite ?_ ?_
      | refine LeO.bind ?_ (fun _ => ?_)
    · intro y0 y1 y2 y3 y4 y5 y6
      unfold pack_Unpack.j2
      repeat' first
      | (with_reducible exact ih0 _ _ _ _)
      | (with_reducible exact ih1 _ _ _ _ _ _)
      | (with_reducible exact ih2 _ _ _ _ _ _ _)
      | (with_reducible exact ih3 _ _ _ _ _ _ _)
      | (with_reducible exact LeO.refl _)
      | (with_reducible exact LeO.none _)
      | (with_reducible refine LeO.ite ?_ ?_)
      | (with_reducible refine LeO.bind ?_ (fun _ => ?_))
      | exact ih0 _ _ _ _
      | exact ih1 _ _ _ _ _ _
      | exact ih2 _ _ _ _ _ _ _
      | exact ih3 _ _ _ _ _ _ _
      | exact LeO.none _
      | refine LeO.ite ?_ ?_
      | refine LeO.bind ?_ (fun _ => ?_)
    · intro y0 y1 y2 y3 y4 y5 y6
      unfold pack_Unpack.l1
      repeat' first
      | (with_reducible exact ih0 _ _ _ _)
      | (with_reducible exact ih1 _ _ _ _ _ _)
      | (with_reducible exact ih2 _ _ _ _ _ _ _)
      | (with_reducible exact ih3 _ _ _ _ _ _ _)
      | (with_reducible exact LeO.refl _)
      | (with_reducible exact LeO.none _)
      | (with_reducible refine LeO.ite ?_ ?_)
      | (with_reducible refine LeO.bind ?_ (fun _ => ?_))
      | exact ih0 _ _ _ _
      | exact ih1 _ _ _ _ _ _
      | exact ih2 _ _ _ _ _ _ _
      | exact ih3 _ _ _ _ _ _ _
      | exact LeO.none _
      | refine LeO.ite ?_ ?_
      | refine LeO.bind ?_ (fun _ => ?_)
theorem pack_Unpack.mono : ∀ a0 a1 k, LeO (pack_Unpack.f k a0 a1) (pack_Unpack.f (k + 1) a0 a1) := by
  intro a0 a1 k
  obtain ⟨ih0, ih1, ih2, ih3⟩ := pack_Unpack.mono_l k
  unfold pack_Unpack.f
  repeat' first
      | (with_reducible exact ih0 _ _ _ _)
      | (with_reducible exact ih1 _ _ _ _ _ _)
      | (with_reducible exact ih2 _ _ _ _ _ _ _)
      | (with_reducible exact ih3 _ _ _ _ _ _ _)
      | (with_reducible exact LeO.refl _)
      | (with_reducible exact LeO.none _)
      | (with_reducible refine LeO.ite ?_ ?_)
      | (with_reducible refine LeO.bind ?_ (fun _ => ?_))
      | exact ih0 _ _ _ _
      | exact ih1 _ _ _ _ _ _
      | exact ih2 _ _ _ _ _ _ _
      | exact ih3 _ _ _ _ _ _ _
      | exact LeO.none _
      | refine LeO.ite ?_ ?_
      | refine LeO.bind ?_ (fun _ => ?_)
set_option maxHeartbeats 8000000 in
set_option maxRecDepth 100000 in
theorem pack_Unpack.calls (k : Nat) (A0 : Option Addr) (c0 : Nat) (l0 : List Int) (a1 : Int) (r1 : List Int) (r2 : Int) (w : World) (hr0 : Kd.C (Kd.int .u8) w A0 l0.length l0) (hc0 : l0.length ≤ c0) (h : pack_Unpack.f k l0 a1 = some (r1, r2)) :
    Calls Try.prog 45 #[.slice A0 l0.length c0, .int .i64 a1] w fun e w' => ∃ v0_ : Value, e = .returned (.tuple #[v0_, .int .i64 r2]) ∧ Kd.R (Kd.int .u8) 5 w' w.heap.size (fun _ => True) v0_ r1 ∧ Below w.heap.size w w' := by
  have HR0 := Aside0.mk hr0
  have HC0 := Aside0.mk hc0
  clear hr0 hc0
  have HB := Aside0.mk (Below.refl w.heap.size w)
  have H : (pack_Unpack.l0 k l0 a1 ([] : List Int) 0) = some (r1, r2) := h
  clear h
  have H' := Aside0.mk H
  clear H
  go_enter Try.func45, Try.ntmps45
  go_wp2
  go_loopg [6, 7] k (fun kq v6 v7 w' => ∃ (x6_1 : List Int) (x7_1 : Int), v7 = .int .i64 x7_1 ∧ Aside0 (pack_Unpack.l0 kq l0 a1 x6_1 x7_1 = some (r1, r2)) ∧ Aside0 (kq ≤ k) ∧ Aside0 (Kd.R (Kd.int .u8) 5 w' w.heap.size (fun _ => True) v6 x6_1) ∧ Aside0 (Below w.heap.size w w'))
  case atStart => exact ⟨(([] : List Int)), (0), (by first | rfl | (simp; done) | (simp [*]; done)), H', ⟨Nat.le_refl _⟩, ⟨by first | exact Kd.R_nil _ _ _ _ _ | exact Kd.N_nil _ _ _ _ _ | exact Kd.V_nil _ _ _ _ _ | exact Kd.Q_nil _ _ _ _ _ | exact Kd.S_nil _ _ _ _ _⟩, ⟨by repeat (first | (with_reducible first | exact HB.out | apply below_alloc | apply pw_below_drewN | apply below_drew1) | exact HB.out)⟩⟩
  case round =>
    clear H'
    try clear p2
    obtain ⟨x6_1, x7_1, rfl, HA, HK1, HO_6, HB⟩ := hrel
    cases gk with
    | zero => exact absurd HA.out (by simp [pack_Unpack.l0])
    | succ k1 =>
      have H := HA.out
      clear HA
      simp only [pack_Unpack.l0] at H
      by_cases c3 : x7_1 < (l0.length : Int)
      · rw [if_pos c3] at H
        have c3b0 : decide (x7_1 < (l0.length : Int)) = true := decide_eq_true c3
        clear c3
        by_cases c4 : 0 ≤ x7_1
        · rw [if_pos c4] at H
          have c4b0 : decide (0 ≤ x7_1) = true := decide_eq_true c4
          clear c4
          have HC5 := Aside0.mk H
          clear H
          have p339 : 0 ≤ (x7_1 : Int) := of_decide_eq_true (by first | (with_reducible assumption) | assumption)
          have q339 : x7_1 < (l0.length : Int) := of_decide_eq_true (by first | (with_reducible assumption) | assumption)
          obtain ⟨ad339, e339, hx339_0⟩ := Kd.at_int HR0.out x7_1 p339 q339
          cases e339
          replace hx339_0 := (HB.out.cell (World.block_lt_of_cell? w _ hx339_0)).trans hx339_0
          replace p339 := eq_true p339
          replace q339 := eq_true q339
          go_upto_region 13 with (fail)
          go_cut [51] (fun v51 wc => ∃ (kq : Nat) (x51_4 : Bool), v51 = .bool x51_4 ∧ Aside0 (pack_Unpack.j1 kq l0 a1 x6_1 x7_1 (wrap64 (rd l0 x7_1)) x51_4 = some (r1, r2)) ∧ Aside0 (kq ≤ k1) ∧ Aside0 (Kd.R (Kd.int .u8) 5 wc w.heap.size (fun _ => True) u6 x6_1) ∧ Aside0 (Below w.heap.size w wc))
          case first =>
            have H := HC5.out
            clear HC5
            by_cases c6 : (wrap64 (rd l0 x7_1)) < 128
            · rw [if_pos c6] at H
              have c6b0 : decide ((wrap64 (rd l0 x7_1)) < 128) = true := decide_eq_true c6
              clear c6
              (first | rw [c6b0] | (simp only [i64_w, i32_w]; rw [c6b0]) | skip)
              by_cases c7 : (wrap64 ((wrap64 (x7_1 + (wrap64 (rd l0 x7_1)))) + 1)) ≥ (l0.length : Int)
              · rw [if_pos c7] at H
                have c7b0 : decide ((l0.length : Int) ≤ (wrap64 ((wrap64 (x7_1 + (wrap64 (rd l0 x7_1)))) + 1))) = true := decide_eq_true c7
                clear c7
                have H' := Aside0.mk H
                clear H
                go_wp2
                go_meet
                case rel => exact ⟨_, (true), (by first | rfl | (simp; done) | (simp [*]; done)), H', ⟨by have := HK1.out; first | omega | exact Nat.le_refl _⟩, ⟨by (with_reducible repeat (first | apply Kd.R_alloc | apply Kd.R_drewN | apply Kd.R_drew)); exact HO_6.out⟩, ⟨by repeat (first | (with_reducible first | exact HB.out | apply below_alloc | apply pw_below_drewN | apply below_drew1) | exact HB.out)⟩⟩
              · rw [if_neg c7] at H
                have c7b0 : decide ((l0.length : Int) ≤ (wrap64 ((wrap64 (x7_1 + (wrap64 (rd l0 x7_1)))) + 1))) = false := decide_eq_false c7
                clear c7
                by_cases c8 : (wrap64 (rd l0 x7_1)) ≥ 128
                · rw [if_pos c8] at H
                  have c8b0 : decide (128 ≤ (wrap64 (rd l0 x7_1))) = true := decide_eq_true c8
                  clear c8
                  have H' := Aside0.mk H
                  clear H
                  go_wp2
                  go_meet
                  case rel => exact ⟨_, (decide ((wrap64 (x7_1 + 1)) ≥ (l0.length : Int))), (by first | rfl | (simp; done) | (simp [*]; done)), H', ⟨by have := HK1.out; first | omega | exact Nat.le_refl _⟩, ⟨by (with_reducible repeat (first | apply Kd.R_alloc | apply Kd.R_drewN | apply Kd.R_drew)); exact HO_6.out⟩, ⟨by repeat (first | (with_reducible first | exact HB.out | apply below_alloc | apply pw_below_drewN | apply below_drew1) | exact HB.out)⟩⟩
                · rw [if_neg c8] at H
                  have c8b0 : decide (128 ≤ (wrap64 (rd l0 x7_1))) = false := decide_eq_false c8
                  clear c8
                  have H' := Aside0.mk H
                  clear H
                  go_wp2
                  go_meet
                  case rel => exact ⟨_, (false), (by first | rfl | (simp; done) | (simp [*]; done)), H', ⟨by have := HK1.out; first | omega | exact Nat.le_refl _⟩, ⟨by (with_reducible repeat (first | apply Kd.R_alloc | apply Kd.R_drewN | apply Kd.R_drew)); exact HO_6.out⟩, ⟨by repeat (first | (with_reducible first | exact HB.out | apply below_alloc | apply pw_below_drewN | apply below_drew1) | exact HB.out)⟩⟩
            · rw [if_neg c6] at H
              have c6b0 : decide ((wrap64 (rd l0 x7_1)) < 128) = false := decide_eq_false c6
              clear c6
              (first | rw [c6b0] | (simp only [i64_w, i32_w]; rw [c6b0]) | skip)
              by_cases c9 : (wrap64 (rd l0 x7_1)) ≥ 128
              · rw [if_pos c9] at H
                have c9b0 : decide (128 ≤ (wrap64 (rd l0 x7_1))) = true := decide_eq_true c9
                clear c9
                have H' := Aside0.mk H
                clear H
                go_wp2
                go_meet
                case rel => exact ⟨_, (decide ((wrap64 (x7_1 + 1)) ≥ (l0.length : Int))), (by first | rfl | (simp; done) | (simp [*]; done)), H', ⟨by have := HK1.out; first | omega | exact Nat.le_refl _⟩, ⟨by (with_reducible repeat (first | apply Kd.R_alloc | apply Kd.R_drewN | apply Kd.R_drew)); exact HO_6.out⟩, ⟨by repeat (first | (with_reducible first | exact HB.out | apply below_alloc | apply pw_below_drewN | apply below_drew1) | exact HB.out)⟩⟩
              · rw [if_neg c9] at H
                have c9b0 : decide (128 ≤ (wrap64 (rd l0 x7_1))) = false := decide_eq_false c9
                clear c9
                have H' := Aside0.mk H
                clear H
                go_wp2
                go_meet
                case rel => exact ⟨_, (false), (by first | rfl | (simp; done) | (simp [*]; done)), H', ⟨by have := HK1.out; first | omega | exact Nat.le_refl _⟩, ⟨by (with_reducible repeat (first | apply Kd.R_alloc | apply Kd.R_drewN | apply Kd.R_drew)); exact HO_6.out⟩, ⟨by repeat (first | (with_reducible first | exact HB.out | apply below_alloc | apply pw_below_drewN | apply below_drew1) | exact HB.out)⟩⟩
          case rest =>
            clear HC5
            try clear p2
            try clear c3
            try clear c3b0
            try clear p3
            try clear q3
            try clear hx3
            try clear c4
            try clear c4b0
            try clear c6
            try clear c6b0
            try clear p6
            try clear c7
            try clear c7b0
            try clear c8
            try clear c8b0
            try clear c9
            try clear c9b0
            try clear hx339_0
            try clear p2
            try clear p339
            try clear q339
            obtain ⟨kq, x51_4, rfl, HA, HJ4, HO_6, HB⟩ := hcut
            cases kq with
            | zero => exact absurd HA.out (by simp [pack_Unpack.j1])
            | succ kj4 =>
              have H := HA.out
              clear HA
              simp only [pack_Unpack.j1] at H
              by_cases c10 : x51_4 = true
              · subst c10
                have H1 : (some (([] : List Int), 9)) = some (r1, r2) := by rw [if_pos rfl] at H; exact H
                clear H
                have H := H1
                clear H1
                simp only [Option.some.injEq, Prod.mk.injEq] at H
                obtain ⟨rfl, rfl⟩ := H
                go_wp2
                go_ret2
                exact ⟨_, by first | rfl | (simp [errW_none, errW_some] <;> rfl) | (simp [*, errW_none, errW_some] <;> rfl), by first | exact Kd.R_nil _ _ _ _ _ | exact Kd.N_nil _ _ _ _ _ | exact Kd.V_nil _ _ _ _ _ | exact Kd.Q_nil _ _ _ _ _ | exact Kd.S_nil _ _ _ _ _, by repeat (first | (with_reducible first | exact HB.out | apply below_alloc | apply pw_below_drewN | apply below_drew1) | exact HB.out)⟩
              · replace c10 := Bool.eq_false_iff.mpr c10
                subst c10
                have H1 : (if (wrap64 (rd l0 x7_1)) < 128 then (if 0 ≤ (wrap64 (x7_1 + 1)) then (if (wrap64 (x7_1 + 1)) ≤ (wrap64 ((wrap64 (x7_1 + (wrap64 (rd l0 x7_1)))) + 2)) then (if (wrap64 ((wrap64 (x7_1 + (wrap64 (rd l0 x7_1)))) + 2)) ≤ (l0.length : Int) then (if x6_1.length + ((l0.take ((wrap64 ((wrap64 (x7_1 + (wrap64 (rd l0 x7_1)))) + 2)) : Int).toNat).drop ((wrap64 (x7_1 + 1)) : Int).toNat).length < 140737488355328 then ((some (x6_1 ++ ((l0.take ((wrap64 ((wrap64 (x7_1 + (wrap64 (rd l0 x7_1)))) + 2)) : Int).toNat).drop ((wrap64 (x7_1 + 1)) : Int).toNat) : List Int)).bind fun y341 => (if (y341.length : Int) > a1 then (some (([] : List Int), 2)) else (pack_Unpack.l0 kj4 l0 a1 y341 (wrap64 (x7_1 + (wrap64 ((wrap64 (rd l0 x7_1)) + 2))))))) else (none)) else (none)) else (none)) else (none)) else (if 0 ≤ (wrap64 (x7_1 + 1)) then (if (wrap64 (x7_1 + 1)) < (l0.length : Int) then (if (wrap64 (rd l0 (wrap64 (x7_1 + 1)))) = 0 then (pack_Unpack.j2 kj4 l0 a1 x6_1 x7_1 (wrap64 (rd l0 x7_1)) (wrap64 (rd l0 (wrap64 (x7_1 + 1)))) true) else (pack_Unpack.j2 kj4 l0 a1 x6_1 x7_1 (wrap64 (rd l0 x7_1)) (wrap64 (rd l0 (wrap64 (x7_1 + 1)))) (decide ((wrap64 (rd l0 (wrap64 (x7_1 + 1)))) > (x6_1.length : Int))))) else (none)) else (none))) = some (r1, r2) := by rw [if_neg (show ¬ (false = true) by decide)] at H; exact H
                clear H
                have H := H1
                clear H1
                by_cases c11 : (wrap64 (rd l0 x7_1)) < 128
                · rw [if_pos c11] at H
                  have c11b0 : decide ((wrap64 (rd l0 x7_1)) < 128) = true := decide_eq_true c11
                  clear c11
                  obtain ⟨ji12, hji12⟩ : ∃ j_ : Int, (wrap64 (x7_1 + 1)) = j_ := ⟨_, rfl⟩
                  replace H : (if 0 ≤ (ji12) then (if (ji12) ≤ (wrap64 ((wrap64 (x7_1 + (wrap64 (rd l0 x7_1)))) + 2)) then (if (wrap64 ((wrap64 (x7_1 + (wrap64 (rd l0 x7_1)))) + 2)) ≤ (l0.length : Int) then (if x6_1.length + ((l0.take ((wrap64 ((wrap64 (x7_1 + (wrap64 (rd l0 x7_1)))) + 2)) : Int).toNat).drop ((ji12) : Int).toNat).length < 140737488355328 then ((some (x6_1 ++ ((l0.take ((wrap64 ((wrap64 (x7_1 + (wrap64 (rd l0 x7_1)))) + 2)) : Int).toNat).drop ((ji12) : Int).toNat) : List Int)).bind fun y341 => (if (y341.length : Int) > a1 then (some (([] : List Int), 2)) else (pack_Unpack.l0 kj4 l0 a1 y341 (wrap64 (x7_1 + (wrap64 ((wrap64 (rd l0 x7_1)) + 2))))))) else (none)) else (none)) else (none)) else (none)) = some (r1, r2) := by first | (rw [hji12] at H; exact H) | (simp only [hji12] at H ⊢; exact H)
                  have hji12w : (IntKind.i64.wrap (x7_1 + 1)) = ji12 := (i64_w _).trans hji12
                  by_cases c13 : 0 ≤ (ji12)
                  · rw [if_pos c13] at H
                    have c13b0 := eq_true c13
                    have c13b1 : decide (0 ≤ (ji12)) = true := decide_eq_true c13
                    clear c13
                    by_cases c14 : (ji12) ≤ (wrap64 ((wrap64 (x7_1 + (wrap64 (rd l0 x7_1)))) + 2))
                    · rw [if_pos c14] at H
                      have c14b0 := eq_true c14
                      have c14b1 : decide ((ji12) ≤ (wrap64 ((wrap64 (x7_1 + (wrap64 (rd l0 x7_1)))) + 2))) = true := decide_eq_true c14
                      by_cases c15 : (wrap64 ((wrap64 (x7_1 + (wrap64 (rd l0 x7_1)))) + 2)) ≤ (l0.length : Int)
                      · rw [if_pos c15] at H
                        have c15b0 := eq_true c15
                        have c15b1 : decide ((wrap64 ((wrap64 (x7_1 + (wrap64 (rd l0 x7_1)))) + 2)) ≤ (l0.length : Int)) = true := decide_eq_true c15
                        by_cases c16 : x6_1.length + ((l0.take ((wrap64 ((wrap64 (x7_1 + (wrap64 (rd l0 x7_1)))) + 2)) : Int).toNat).drop ((ji12) : Int).toNat).length < 140737488355328
                        · rw [if_pos c16] at H
                          have LMc16 := Aside0.mk c16
                          clear c16
                          obtain ⟨y341, hy341⟩ : ∃ y_ : List Int, y_ = (x6_1 ++ ((l0.take ((wrap64 ((wrap64 (x7_1 + (wrap64 (rd l0 x7_1)))) + 2)) : Int).toNat).drop ((ji12) : Int).toNat)) := ⟨_, rfl⟩
                          replace H : (if (y341.length : Int) > a1 then (some (([] : List Int), 2)) else (pack_Unpack.l0 kj4 l0 a1 y341 (wrap64 (x7_1 + (wrap64 ((wrap64 (rd l0 x7_1)) + 2)))))) = some (r1, r2) := by first | (rw [hy341]; with_reducible exact H) | (have H2_ := (Option.bind_some _ _).symm.trans H; rw [hy341]; with_reducible exact H2_) | (have H2_ := (Option.bind_some _ _).symm.trans H; with_reducible exact H2_) | with_reducible exact H | (rw [hy341]; exact H) | exact H
                          have Ny341 := Aside0.mk hy341
                          clear hy341
                          by_cases c17 : (y341.length : Int) > a1
                          · rw [if_pos c17] at H
                            have c17b0 : decide (a1 < (y341.length : Int)) = true := decide_eq_true c17
                            clear c17
                            simp only [Option.some.injEq, Prod.mk.injEq] at H
                            obtain ⟨rfl, rfl⟩ := H
                            obtain ⟨i018, hi018, _, hsz18, _⟩ := info_parts info5
                            obtain ⟨A18, hcut18, hA18, hC18⟩ := print_mid_of (P := Try.prog) (Value.int .u8) 0 22 5 .i64 .i64 Try.underlying22 hi018 hsz18 (some ad339) c0 l0 (ji12) (wrap64 ((wrap64 (x7_1 + (wrap64 (rd l0 x7_1)))) + 2)) (of_decide_eq_true (by first | (with_reducible assumption) | assumption)) (by first | omega | exact of_decide_eq_true (by first | (with_reducible assumption) | assumption)) (of_decide_eq_true (by first | (with_reducible assumption) | assumption)) HC0.out
                            have HR340 := Aside0.mk (Kd.C_of_reads (h1 := fun _ => rfl) (hA18 _ (Kd.reads_of_C HR0.out)))
                            have HC340 := Aside0.mk hC18
                            clear hA18 hC18 hi018 hsz18
                            go_wp2_with (first | ((with_reducible refine gate_builtin (b := .append) (xs := #[.tmp 77, .tmp 85]) rfl ?_); (try (refine gate_guard (by rfl) ?_; dsimp only)); at_builtin; refine Kd.R_append_rows (Kd.int .u8) (w0 := w) w.heap.size rfl (.tmp 77) (.tmp 85) 22 5 (.int .u8 0) 1 rfl Try.underlying22 info5 rfl (by decide) (by omega) u6 x6_1 ((l0.take ((wrap64 ((wrap64 (x7_1 + (wrap64 (rd l0 x7_1)))) + 2)) : Int).toNat).drop ((ji12) : Int).toNat) _ _ _ (fun _ => True) (fun _ => False) rfl rfl ?aO ?aR (fun _ _ h => h) (fun _ h => h.elim) ?aF ?aB ?aS ?aL ?_; (case aR => first | (rw [← show ((l0.take ((wrap64 ((wrap64 (x7_1 + (wrap64 (rd l0 x7_1)))) + 2)) : Int).toNat).drop ((ji12) : Int).toNat).length = ((wrap64 ((wrap64 (x7_1 + (wrap64 (rd l0 x7_1)))) + 2)).toNat - (ji12).toNat) from (by rw [List.length_drop, List.length_take]; have h_ : ((wrap64 ((wrap64 (x7_1 + (wrap64 (rd l0 x7_1)))) + 2)) : Int) ≤ (l0.length : Int) := of_decide_eq_true (by first | (with_reducible assumption) | assumption); omega)]; repeat (first | exact (Kd.C_below HR340.out HB.out) | (with_reducible refine Kd.C_alloc ?_ _) | (with_reducible refine Kd.C_drewN ?_ _) | (with_reducible refine Kd.C_drew ?_))) | (repeat (first | exact (Kd.C_below HR340.out HB.out) | (with_reducible refine Kd.C_alloc ?_ _) | (with_reducible refine Kd.C_drewN ?_ _) | (with_reducible refine Kd.C_drew ?_)))); (case aB => exact (by repeat (first | (with_reducible first | exact HB.out | apply below_alloc | apply pw_below_drewN | apply below_drew1) | exact HB.out))); (case aF => exact (fun _ _ => trivial)); (case aO => exact (by (with_reducible repeat (first | apply Kd.R_alloc | apply Kd.R_drewN | apply Kd.R_drew)); exact HO_6.out)); (case aS => exact (below_size (by repeat (first | (with_reducible first | exact HB.out | apply below_alloc | apply pw_below_drewN | apply below_drew1) | exact HB.out)))); (case aL => have := LMc16.out; have hlx_ := (show ((l0.take ((wrap64 ((wrap64 (x7_1 + (wrap64 (rd l0 x7_1)))) + 2)) : Int).toNat).drop ((ji12) : Int).toNat).length = ((wrap64 ((wrap64 (x7_1 + (wrap64 (rd l0 x7_1)))) + 2)).toNat - (ji12).toNat) from (by rw [List.length_drop, List.length_take]; have h_ : ((wrap64 ((wrap64 (x7_1 + (wrap64 (rd l0 x7_1)))) + 2)) : Int) ≤ (l0.length : Int) := of_decide_eq_true (by first | (with_reducible assumption) | assumption); omega)); omega); intro v342 w19 ho hb hg hat; rw [← Ny341.out] at ho; have n0_ := Aside0.mk (hb); have n1_ := Aside0.mk (ho); clear HB; clear HO_6; have HB := n0_; have HO343 := n1_; clear n0_ n1_; clear ho hb hg hat; obtain ⟨Ao20, co20, eo20⟩ := Kd.R_slice HO343.out; subst eo20))
                            go_ret2
                            exact ⟨_, by first | rfl | (simp [errW_none, errW_some] <;> rfl) | (simp only [← hji12]; first | rfl | (simp [errW_none, errW_some] <;> rfl)) | (simp [*, errW_none, errW_some] <;> rfl), by first | exact Kd.R_nil _ _ _ _ _ | exact Kd.N_nil _ _ _ _ _ | exact Kd.V_nil _ _ _ _ _ | exact Kd.Q_nil _ _ _ _ _ | exact Kd.S_nil _ _ _ _ _, by repeat (first | (with_reducible first | exact HB.out | apply below_alloc | apply pw_below_drewN | apply below_drew1) | exact HB.out)⟩
                          · rw [if_neg c17] at H
                            have c17b0 : decide (a1 < (y341.length : Int)) = false := decide_eq_false c17
                            clear c17
                            have H' := Aside0.mk H
                            clear H
                            obtain ⟨i021, hi021, _, hsz21, _⟩ := info_parts info5
                            obtain ⟨A21, hcut21, hA21, hC21⟩ := print_mid_of (P := Try.prog) (Value.int .u8) 0 22 5 .i64 .i64 Try.underlying22 hi021 hsz21 (some ad339) c0 l0 (ji12) (wrap64 ((wrap64 (x7_1 + (wrap64 (rd l0 x7_1)))) + 2)) (of_decide_eq_true (by first | (with_reducible assumption) | assumption)) (by first | omega | exact of_decide_eq_true (by first | (with_reducible assumption) | assumption)) (of_decide_eq_true (by first | (with_reducible assumption) | assumption)) HC0.out
                            have HR340 := Aside0.mk (Kd.C_of_reads (h1 := fun _ => rfl) (hA21 _ (Kd.reads_of_C HR0.out)))
                            have HC340 := Aside0.mk hC21
                            clear hA21 hC21 hi021 hsz21
                            go_wp2_with (first | ((with_reducible refine gate_builtin (b := .append) (xs := #[.tmp 77, .tmp 85]) rfl ?_); (try (refine gate_guard (by rfl) ?_; dsimp only)); at_builtin; refine Kd.R_append_rows (Kd.int .u8) (w0 := w) w.heap.size rfl (.tmp 77) (.tmp 85) 22 5 (.int .u8 0) 1 rfl Try.underlying22 info5 rfl (by decide) (by omega) u6 x6_1 ((l0.take ((wrap64 ((wrap64 (x7_1 + (wrap64 (rd l0 x7_1)))) + 2)) : Int).toNat).drop ((ji12) : Int).toNat) _ _ _ (fun _ => True) (fun _ => False) rfl rfl ?aO ?aR (fun _ _ h => h) (fun _ h => h.elim) ?aF ?aB ?aS ?aL ?_; (case aR => first | (rw [← show ((l0.take ((wrap64 ((wrap64 (x7_1 + (wrap64 (rd l0 x7_1)))) + 2)) : Int).toNat).drop ((ji12) : Int).toNat).length = ((wrap64 ((wrap64 (x7_1 + (wrap64 (rd l0 x7_1)))) + 2)).toNat - (ji12).toNat) from (by rw [List.length_drop, List.length_take]; have h_ : ((wrap64 ((wrap64 (x7_1 + (wrap64 (rd l0 x7_1)))) + 2)) : Int) ≤ (l0.length : Int) := of_decide_eq_true (by first | (with_reducible assumption) | assumption); omega)]; repeat (first | exact (Kd.C_below HR340.out HB.out) | (with_reducible refine Kd.C_alloc ?_ _) | (with_reducible refine Kd.C_drewN ?_ _) | (with_reducible refine Kd.C_drew ?_))) | (repeat (first | exact (Kd.C_below HR340.out HB.out) | (with_reducible refine Kd.C_alloc ?_ _) | (with_reducible refine Kd.C_drewN ?_ _) | (with_reducible refine Kd.C_drew ?_)))); (case aB => exact (by repeat (first | (with_reducible first | exact HB.out | apply below_alloc | apply pw_below_drewN | apply below_drew1) | exact HB.out))); (case aF => exact (fun _ _ => trivial)); (case aO => exact (by (with_reducible repeat (first | apply Kd.R_alloc | apply Kd.R_drewN | apply Kd.R_drew)); exact HO_6.out)); (case aS => exact (below_size (by repeat (first | (with_reducible first | exact HB.out | apply below_alloc | apply pw_below_drewN | apply below_drew1) | exact HB.out)))); (case aL => have := LMc16.out; have hlx_ := (show ((l0.take ((wrap64 ((wrap64 (x7_1 + (wrap64 (rd l0 x7_1)))) + 2)) : Int).toNat).drop ((ji12) : Int).toNat).length = ((wrap64 ((wrap64 (x7_1 + (wrap64 (rd l0 x7_1)))) + 2)).toNat - (ji12).toNat) from (by rw [List.length_drop, List.length_take]; have h_ : ((wrap64 ((wrap64 (x7_1 + (wrap64 (rd l0 x7_1)))) + 2)) : Int) ≤ (l0.length : Int) := of_decide_eq_true (by first | (with_reducible assumption) | assumption); omega)); omega); intro v342 w22 ho hb hg hat; rw [← Ny341.out] at ho; have n0_ := Aside0.mk (hb); have n1_ := Aside0.mk (ho); clear HB; clear HO_6; have HB := n0_; have HO343 := n1_; clear n0_ n1_; clear ho hb hg hat; obtain ⟨Ao23, co23, eo23⟩ := Kd.R_slice HO343.out; subst eo23))
                            go_roundg kj4
                            case measure => have := HK1.out; have := HJ4.out; omega
                            case rel => exact ⟨(y341), (wrap64 (x7_1 + (wrap64 ((wrap64 (rd l0 x7_1)) + 2)))), (by first | rfl | (simp; done) | (simp [*]; done)), H', ⟨by have := HK1.out; have := HJ4.out; omega⟩, ⟨by (with_reducible repeat (first | apply Kd.R_alloc | apply Kd.R_drewN | apply Kd.R_drew)); exact HO343.out⟩, ⟨by repeat (first | (with_reducible first | exact HB.out | apply below_alloc | apply pw_below_drewN | apply below_drew1) | exact HB.out)⟩⟩
                        · rw [if_neg c16] at H
                          exact absurd H (by simp)
                      · rw [if_neg c15] at H
                        exact absurd H (by simp)
                    · rw [if_neg c14] at H
                      exact absurd H (by simp)
                  · rw [if_neg c13] at H
                    exact absurd H (by simp)
                · rw [if_neg c11] at H
                  have c11b0 : decide ((wrap64 (rd l0 x7_1)) < 128) = false := decide_eq_false c11
                  clear c11
                  obtain ⟨ji24, hji24⟩ : ∃ j_ : Int, (wrap64 (x7_1 + 1)) = j_ := ⟨_, rfl⟩
                  replace H : (if 0 ≤ (ji24) then (if (ji24) < (l0.length : Int) then (if (wrap64 (rd l0 (ji24))) = 0 then (pack_Unpack.j2 kj4 l0 a1 x6_1 x7_1 (wrap64 (rd l0 x7_1)) (wrap64 (rd l0 (ji24))) true) else (pack_Unpack.j2 kj4 l0 a1 x6_1 x7_1 (wrap64 (rd l0 x7_1)) (wrap64 (rd l0 (ji24))) (decide ((wrap64 (rd l0 (ji24))) > (x6_1.length : Int))))) else (none)) else (none)) = some (r1, r2) := by first | (rw [hji24] at H; exact H) | (simp only [hji24] at H ⊢; exact H)
                  have hji24w : (IntKind.i64.wrap (x7_1 + 1)) = ji24 := (i64_w _).trans hji24
                  by_cases c25 : 0 ≤ (ji24)
                  · rw [if_pos c25] at H
                    have c25b0 : decide (0 ≤ (ji24)) = true := decide_eq_true c25
                    clear c25
                    by_cases c26 : (ji24) < (l0.length : Int)
                    · rw [if_pos c26] at H
                      have c26b0 : decide ((ji24) < (l0.length : Int)) = true := decide_eq_true c26
                      clear c26
                      have HC27 := Aside0.mk H
                      clear H
                      have p344 : 0 ≤ ((ji24) : Int) := of_decide_eq_true (by first | (with_reducible assumption) | assumption)
                      have q344 : (ji24) < (l0.length : Int) := of_decide_eq_true (by first | (with_reducible assumption) | assumption)
                      obtain ⟨ad344, e344, hx344_0⟩ := Kd.at_int HR0.out (ji24) p344 q344
                      obtain rfl : ad339 = ad344 := (by injection e344)
                      replace hx344_0 := (HB.out.cell (World.block_lt_of_cell? w _ hx344_0)).trans hx344_0
                      replace p344 := eq_true p344
                      replace q344 := eq_true q344
                      go_upto_region 6 with (fail)
                      go_cut [32] (fun v32 wc => ∃ (kq : Nat) (x32_26 : Bool), v32 = .bool x32_26 ∧ Aside0 (pack_Unpack.j2 kq l0 a1 x6_1 x7_1 (wrap64 (rd l0 x7_1)) (wrap64 (rd l0 (ji24))) x32_26 = some (r1, r2)) ∧ Aside0 (kq ≤ kj4) ∧ Aside0 (Kd.R (Kd.int .u8) 5 wc w.heap.size (fun _ => True) u6 x6_1) ∧ Aside0 (Below w.heap.size w wc))
                      case first =>
                        have H := HC27.out
                        clear HC27
                        by_cases c28 : (wrap64 (rd l0 (ji24))) = 0
                        · rw [if_pos c28] at H
                          have c28b0 : ((wrap64 (rd l0 (ji24))) == 0) = true := beq_iff_eq.mpr c28
                          have c28b1 : ((wrap64 (rd l0 (ji24))) != 0) = false := bne_eq_false_iff_eq.mpr c28
                          clear c28
                          (first | rw [c28b0] | (simp only [i64_w, i32_w]; rw [c28b0]) | skip)
                          have H' := Aside0.mk H
                          clear H
                          go_wp2
                          go_meet
                          case rel => exact ⟨_, (true), (by first | rfl | (simp; done) | (simp [*]; done)), H', ⟨by have := HK1.out; have := HJ4.out; first | omega | exact Nat.le_refl _⟩, ⟨by (with_reducible repeat (first | apply Kd.R_alloc | apply Kd.R_drewN | apply Kd.R_drew)); exact HO_6.out⟩, ⟨by repeat (first | (with_reducible first | exact HB.out | apply below_alloc | apply pw_below_drewN | apply below_drew1) | exact HB.out)⟩⟩
                        · rw [if_neg c28] at H
                          have c28b0 : ((wrap64 (rd l0 (ji24))) == 0) = false := beq_eq_false_iff_ne.mpr c28
                          have c28b1 : ((wrap64 (rd l0 (ji24))) != 0) = true := bne_iff_ne.mpr c28
                          (first | rw [c28b0] | (simp only [i64_w, i32_w]; rw [c28b0]) | skip)
                          have H' := Aside0.mk H
                          clear H
                          obtain ⟨Ao29, co29, eo29⟩ := Kd.R_slice HO_6.out
                          subst eo29
                          go_wp2
                          go_meet
                          case rel => exact ⟨_, (decide ((wrap64 (rd l0 (ji24))) > (x6_1.length : Int))), (by first | rfl | (simp; done) | (simp only [← hji24] <;> (first | rfl | simp)) | (simp [*]; done)), H', ⟨by have := HK1.out; have := HJ4.out; first | omega | exact Nat.le_refl _⟩, ⟨by (with_reducible repeat (first | apply Kd.R_alloc | apply Kd.R_drewN | apply Kd.R_drew)); exact HO_6.out⟩, ⟨by repeat (first | (with_reducible first | exact HB.out | apply below_alloc | apply pw_below_drewN | apply below_drew1) | exact HB.out)⟩⟩
                      case rest =>
                        clear HC27
                        try clear c1
                        try clear c2
                        try clear p2
                        try clear c3
                        try clear c3b0
                        try clear p3
                        try clear q3
                        try clear hx3
                        try clear c4
                        try clear c4b0
                        try clear c6
                        try clear c6b0
                        try clear p6
                        try clear c7
                        try clear c7b0
                        try clear c8
                        try clear c8b0
                        try clear c9
                        try clear c9b0
                        try clear c10
                        try clear c11
                        try clear c11b0
                        try clear c13
                        try clear c13b0
                        try clear c13b1
                        try clear c14
                        try clear c14b0
                        try clear c14b1
                        try clear c15
                        try clear c15b0
                        try clear c15b1
                        try clear c16
                        try clear c17
                        try clear c17b0
                        try clear c25
                        try clear c25b0
                        try clear c26
                        try clear c26b0
                        try clear c28
                        try clear c28b0
                        try clear c28b1
                        try clear hx339_0
                        try clear hx344_0
                        try clear p2
                        try clear p3
                        try clear p339
                        try clear p344
                        try clear p6
                        try clear q3
                        try clear q339
                        try clear q344
                        obtain ⟨kq, x32_26, rfl, HA, HJ26, HO_6, HB⟩ := hcut
                        cases kq with
                        | zero => exact absurd HA.out (by simp [pack_Unpack.j2])
                        | succ kj26 =>
                          have H := HA.out
                          clear HA
                          simp only [pack_Unpack.j2] at H
                          by_cases c30 : x32_26 = true
                          · subst c30
                            have H1 : (some (([] : List Int), 11)) = some (r1, r2) := by rw [if_pos rfl] at H; exact H
                            clear H
                            have H := H1
                            clear H1
                            simp only [Option.some.injEq, Prod.mk.injEq] at H
                            obtain ⟨rfl, rfl⟩ := H
                            go_wp2
                            go_ret2
                            exact ⟨_, by first | rfl | (simp [errW_none, errW_some] <;> rfl) | (simp only [← hji24]; first | rfl | (simp [errW_none, errW_some] <;> rfl)) | (simp [*, errW_none, errW_some] <;> rfl), by first | exact Kd.R_nil _ _ _ _ _ | exact Kd.N_nil _ _ _ _ _ | exact Kd.V_nil _ _ _ _ _ | exact Kd.Q_nil _ _ _ _ _ | exact Kd.S_nil _ _ _ _ _, by repeat (first | (with_reducible first | exact HB.out | apply below_alloc | apply pw_below_drewN | apply below_drew1) | exact HB.out)⟩
                          · replace c30 := Bool.eq_false_iff.mpr c30
                            subst c30
                            have H1 : (pack_Unpack.l1 kj26 l0 a1 x6_1 x7_1 (wrap64 (rd l0 (ji24))) (wrap64 ((wrap64 ((wrap64 (rd l0 x7_1)) - 128)) + 3)) 0) = some (r1, r2) := by rw [if_neg (show ¬ (false = true) by decide)] at H; exact H
                            clear H
                            have H := H1
                            clear H1
                            have H' := Aside0.mk H
                            clear H
                            go_wp2
                            go_loopg [6, 36] kj26 (fun kq v6 v36 w' => ∃ (x6_4 : List Int) (x36_4 : Int), v36 = .int .i64 x36_4 ∧ Aside0 (pack_Unpack.l1 kq l0 a1 x6_4 x7_1 (wrap64 (rd l0 (ji24))) (wrap64 ((wrap64 ((wrap64 (rd l0 x7_1)) - 128)) + 3)) x36_4 = some (r1, r2)) ∧ Aside0 (kq ≤ kj26) ∧ Aside0 (Kd.R (Kd.int .u8) 5 w' w.heap.size (fun _ => True) v6 x6_4) ∧ Aside0 (Below w.heap.size w w'))
                            case atStart => exact ⟨(x6_1), (0), (by first | rfl | (simp; done) | (simp [*]; done)), H', ⟨Nat.le_refl _⟩, ⟨by (with_reducible repeat (first | apply Kd.R_alloc | apply Kd.R_drewN | apply Kd.R_drew)); exact HO_6.out⟩, ⟨by repeat (first | (with_reducible first | exact HB.out | apply below_alloc | apply pw_below_drewN | apply below_drew1) | exact HB.out)⟩⟩
                            case round =>
                              clear H'
                              try clear c1
                              try clear c2
                              try clear p2
                              try clear c3
                              try clear c3b0
                              try clear p3
                              try clear q3
                              try clear hx3
                              try clear c4
                              try clear c4b0
                              try clear c6
                              try clear c6b0
                              try clear p6
                              try clear c7
                              try clear c7b0
                              try clear c8
                              try clear c8b0
                              try clear c9
                              try clear c9b0
                              try clear c10
                              try clear c11
                              try clear c11b0
                              try clear c13
                              try clear c13b0
                              try clear c13b1
                              try clear c14
                              try clear c14b0
                              try clear c14b1
                              try clear c15
                              try clear c15b0
                              try clear c15b1
                              try clear c16
                              try clear c17
                              try clear c17b0
                              try clear c25
                              try clear c25b0
                              try clear c26
                              try clear c26b0
                              try clear c28
                              try clear c28b0
                              try clear c28b1
                              try clear c30
                              try clear hx339_0
                              try clear hx344_0
                              try clear p2
                              try clear p3
                              try clear p339
                              try clear p344
                              try clear p6
                              try clear q3
                              try clear q339
                              try clear q344
                              obtain ⟨x6_4, x36_4, rfl, HA, HK4, HO_6, HB⟩ := hrel
                              cases gk with
                              | zero => exact absurd HA.out (by simp [pack_Unpack.l1])
                              | succ k4 =>
                                have H := HA.out
                                clear HA
                                simp only [pack_Unpack.l1] at H
                                by_cases c31 : x36_4 < (wrap64 ((wrap64 ((wrap64 (rd l0 x7_1)) - 128)) + 3))
                                · rw [if_pos c31] at H
                                  have c31b0 : decide (x36_4 < (wrap64 ((wrap64 ((wrap64 (rd l0 x7_1)) - 128)) + 3))) = true := decide_eq_true c31
                                  clear c31
                                  obtain ⟨ji32, hji32⟩ : ∃ j_ : Int, (wrap64 ((x6_4.length : Int) - (wrap64 (rd l0 (ji24))))) = j_ := ⟨_, rfl⟩
                                  replace H : (if 0 ≤ (ji32) then (if (ji32) < (x6_4.length : Int) then (if x6_4.length < 140737488355328 then (pack_Unpack.l1 k4 l0 a1 (x6_4 ++ [rd x6_4 (ji32)]) x7_1 (wrap64 (rd l0 (ji24))) (wrap64 ((wrap64 ((wrap64 (rd l0 x7_1)) - 128)) + 3)) (wrap64 (x36_4 + 1))) else (none)) else (none)) else (none)) = some (r1, r2) := by first | (rw [hji32] at H; exact H) | (simp only [hji32] at H ⊢; exact H)
                                  have hji32w : (IntKind.i64.wrap ((x6_4.length : Int) - (wrap64 (rd l0 (ji24))))) = ji32 := (i64_w _).trans hji32
                                  by_cases c33 : 0 ≤ (ji32)
                                  · rw [if_pos c33] at H
                                    have c33b0 : decide (0 ≤ (ji32)) = true := decide_eq_true c33
                                    clear c33
                                    by_cases c34 : (ji32) < (x6_4.length : Int)
                                    · rw [if_pos c34] at H
                                      have c34b0 : decide ((ji32) < (x6_4.length : Int)) = true := decide_eq_true c34
                                      clear c34
                                      by_cases c35 : x6_4.length < 140737488355328
                                      · rw [if_pos c35] at H
                                        have LMc35 := Aside0.mk c35
                                        clear c35
                                        obtain ⟨y346, hy346⟩ : ∃ y_ : List Int, y_ = (x6_4 ++ [rd x6_4 (ji32)]) := ⟨_, rfl⟩
                                        replace H : (pack_Unpack.l1 k4 l0 a1 y346 x7_1 (wrap64 (rd l0 (ji24))) (wrap64 ((wrap64 ((wrap64 (rd l0 x7_1)) - 128)) + 3)) (wrap64 (x36_4 + 1))) = some (r1, r2) := by first | (rw [hy346]; with_reducible exact H) | (have H2_ := (Option.bind_some _ _).symm.trans H; rw [hy346]; with_reducible exact H2_) | (have H2_ := (Option.bind_some _ _).symm.trans H; with_reducible exact H2_) | with_reducible exact H | (rw [hy346]; exact H) | exact H
                                        have Ny346 := Aside0.mk hy346
                                        clear hy346
                                        have H' := Aside0.mk H
                                        clear H
                                        obtain ⟨Ao36, co36, eo36⟩ := Kd.R_slice HO_6.out
                                        subst eo36
                                        have p345 : 0 ≤ ((ji32) : Int) := of_decide_eq_true (by first | (with_reducible assumption) | assumption)
                                        have q345 : (ji32) < (x6_4.length : Int) := of_decide_eq_true (by first | (with_reducible assumption) | assumption)
                                        obtain ⟨ad345, e345, hx345_0⟩ := Kd.at_int (Kd.R_reads' HO_6.out).2.2 (ji32) p345 q345
                                        cases e345
                                        replace p345 := eq_true p345
                                        replace q345 := eq_true q345
                                        go_wp2_with (first | ((with_reducible refine gate_builtin (b := .append) (xs := #[.tmp 38, .tmp 46]) rfl ?_); (try (refine gate_guard (by rfl) ?_; dsimp only)); at_builtin; refine Kd.R_append (Kd.int .u8) (w0 := w) w.heap.size rfl (.tmp 38) (.tmp 46) 22 5 (.int .u8 0) 1 rfl Try.underlying22 info5 rfl (by decide) (by omega) (.slice (some ad345) x6_4.length co36) x6_4 (rd x6_4 (ji32)) [.int .u8 (rd x6_4 (ji32))] (fun _ => True) (fun _ => False) rfl rfl ?aP (fun _ hk => hk.elim) ?aF ?aO ?aB ?aS ?aL ?_; (case aP => exact rfl); (case aB => exact (by repeat (first | (with_reducible first | exact HB.out | apply below_alloc | apply pw_below_drewN | apply below_drew1) | exact HB.out))); (case aF => exact (fun _ _ => trivial)); (case aO => exact (by (with_reducible repeat (first | apply Kd.R_alloc | apply Kd.R_drewN | apply Kd.R_drew)); exact HO_6.out)); (case aS => exact (below_size (by repeat (first | (with_reducible first | exact HB.out | apply below_alloc | apply pw_below_drewN | apply below_drew1) | exact HB.out)))); (case aL => have := LMc35.out; omega); intro v347 w37 ho hb hg hat; rw [← Ny346.out] at ho; have n0_ := Aside0.mk (hb); have n1_ := Aside0.mk (ho); clear HB; clear HO_6; have HB := n0_; have HO348 := n1_; clear n0_ n1_; clear ho hb hg hat))
                                        go_roundg k4
                                        case measure => have := HK1.out; have := HJ4.out; have := HJ26.out; have := HK4.out; omega
                                        case rel => exact ⟨(y346), (wrap64 (x36_4 + 1)), (by first | rfl | (simp; done) | (simp [*]; done)), H', ⟨by have := HK1.out; have := HJ4.out; have := HJ26.out; have := HK4.out; omega⟩, ⟨by (with_reducible repeat (first | apply Kd.R_alloc | apply Kd.R_drewN | apply Kd.R_drew)); exact HO348.out⟩, ⟨by repeat (first | (with_reducible first | exact HB.out | apply below_alloc | apply pw_below_drewN | apply below_drew1) | exact HB.out)⟩⟩
                                      · rw [if_neg c35] at H
                                        exact absurd H (by simp)
                                    · rw [if_neg c34] at H
                                      exact absurd H (by simp)
                                  · rw [if_neg c33] at H
                                    exact absurd H (by simp)
                                · rw [if_neg c31] at H
                                  have c31b0 : decide (x36_4 < (wrap64 ((wrap64 ((wrap64 (rd l0 x7_1)) - 128)) + 3))) = false := decide_eq_false c31
                                  clear c31
                                  by_cases c38 : (x6_4.length : Int) > a1
                                  · rw [if_pos c38] at H
                                    have c38b0 : decide (a1 < (x6_4.length : Int)) = true := decide_eq_true c38
                                    clear c38
                                    simp only [Option.some.injEq, Prod.mk.injEq] at H
                                    obtain ⟨rfl, rfl⟩ := H
                                    obtain ⟨Ao39, co39, eo39⟩ := Kd.R_slice HO_6.out
                                    subst eo39
                                    go_wp2
                                    go_ret2
                                    exact ⟨_, by first | rfl | (simp [errW_none, errW_some] <;> rfl) | (simp only [← hji24]; first | rfl | (simp [errW_none, errW_some] <;> rfl)) | (simp [*, errW_none, errW_some] <;> rfl), by first | exact Kd.R_nil _ _ _ _ _ | exact Kd.N_nil _ _ _ _ _ | exact Kd.V_nil _ _ _ _ _ | exact Kd.Q_nil _ _ _ _ _ | exact Kd.S_nil _ _ _ _ _, by repeat (first | (with_reducible first | exact HB.out | apply below_alloc | apply pw_below_drewN | apply below_drew1) | exact HB.out)⟩
                                  · rw [if_neg c38] at H
                                    have c38b0 : decide (a1 < (x6_4.length : Int)) = false := decide_eq_false c38
                                    clear c38
                                    have H' := Aside0.mk H
                                    clear H
                                    obtain ⟨Ao40, co40, eo40⟩ := Kd.R_slice HO_6.out
                                    subst eo40
                                    go_wp2
                                    go_roundg k4
                                    case measure => have := HK1.out; have := HJ4.out; have := HJ26.out; have := HK4.out; omega
                                    case rel => exact ⟨(x6_4), (wrap64 (x7_1 + 2)), (by first | rfl | (simp; done) | (simp [*]; done)), H', ⟨by have := HK1.out; have := HJ4.out; have := HJ26.out; have := HK4.out; omega⟩, ⟨by (with_reducible repeat (first | apply Kd.R_alloc | apply Kd.R_drewN | apply Kd.R_drew)); exact HO_6.out⟩, ⟨by repeat (first | (with_reducible first | exact HB.out | apply below_alloc | apply pw_below_drewN | apply below_drew1) | exact HB.out)⟩⟩
                    · rw [if_neg c26] at H
                      exact absurd H (by simp)
                  · rw [if_neg c25] at H
                    exact absurd H (by simp)
        · rw [if_neg c4] at H
          exact absurd H (by simp)
      · rw [if_neg c3] at H
        have c3b0 : decide (x7_1 < (l0.length : Int)) = false := decide_eq_false c3
        clear c3
        simp only [Option.some.injEq, Prod.mk.injEq] at H
        obtain ⟨rfl, rfl⟩ := H
        go_wp2
        go_ret2
        exact ⟨_, by first | rfl | (simp [errW_none, errW_some] <;> rfl) | (simp [*, errW_none, errW_some] <;> rfl), by (with_reducible repeat (first | apply Kd.R_alloc | apply Kd.R_drewN | apply Kd.R_drew)); exact HO_6.out, by repeat (first | (with_reducible first | exact HB.out | apply below_alloc | apply pw_below_drewN | apply below_drew1) | exact HB.out)⟩

end Go.Proofs.Ytkanlkgmiednfaa.A
