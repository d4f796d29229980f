/- Made by a program of this session (drv.py) over the kit's printer: plain functions, and the proofs that the program's functions come to their answers. No condition. -/
import Derived.Test.YtnmmkgagbfniiaaAx0
namespace Go.Proofs.Ytnmmkgagbfniiaa.A
open Go.RowKit Go.Proofs.YtnmmkgagbfniiaaW.PrintWords Go.Proofs.YtnmmkgagbfniiaaW.PrintLast Go.Proofs.YtnmmkgagbfniiaaW.PrintMore
attribute [local go_sem] max2_int min2_int max_two min_two max_three min_three max_four min_four   -- for this text's walks alone
set_option linter.unusedVariables false
set_option linter.unusedSimpArgs false

/-! ### block_check: function 50 -/
mutual
def block_check.j0 : Nat → Bool → Int → Int → List (S26) → Option (Int)
  | 0, _, _, _, _ => none
  | k + 1, x33, x261000, x261001, x261002 => if x33 = true then (some 1) else (block_check.l0 k (-1) x261002 (x261002.length : Int) 0 x261000 x261001 x261002)
def block_check.l0 : Nat → Int → List (S26) → Int → Int → Int → Int → List (S26) → Option (Int)
  | 0, _, _, _, _, _, _, _ => none
  | k + 1, x3, x35, x36, x37, x261000, x261001, x261002 => if x37 < x36 then (if 0 ≤ x37 then (if x37 < (x35.length : Int) then (if ((rd_T26 x35 x37).f1.f0) = x261000 then (if ((rd_T26 x35 x37).f0) ≤ x3 then (some 1) else (if (((rd_T26 x35 x37).f1.f5).length : Int) > 400 then (some 1) else (if (((rd_T26 x35 x37).f1.f6).length : Int) > 400 then (some 1) else (block_check.l0 k ((rd_T26 x35 x37).f0) x35 x36 (wrap64 (x37 + 1)) x261000 x261001 x261002)))) else (some 1)) else (none)) else (none)) else (some 0)
end
def block_check.f (k : Nat) (a0_0 : Int) (a0_1 : Int) (l0_2 : List (S26)) : Option (Int) := if (l0_2.length : Int) > 64 then (some 2) else (if (l0_2.length : Int) = 0 then (block_check.j0 k true a0_0 a0_1 l0_2) else (if a0_0 < 0 then (block_check.j0 k true a0_0 a0_1 l0_2) else (if a0_0 ≥ 4 then (block_check.j0 k true a0_0 a0_1 l0_2) else (if a0_1 < 0 then (block_check.j0 k true a0_0 a0_1 l0_2) else (block_check.j0 k (decide (a0_1 > 400)) a0_0 a0_1 l0_2)))))
theorem block_check.mono_l : ∀ k, (∀ y0 y1 y2 y3, LeO (block_check.j0 k y0 y1 y2 y3) (block_check.j0 (k + 1) y0 y1 y2 y3)) ∧ (∀ y0 y1 y2 y3 y4 y5 y6, LeO (block_check.l0 k y0 y1 y2 y3 y4 y5 y6) (block_check.l0 (k + 1) y0 y1 y2 y3 y4 y5 y6))
  | 0 => ⟨fun _ _ _ _ r h => by simp [block_check.j0] at h, fun _ _ _ _ _ _ _ r h => by simp [block_check.l0] at h⟩
  | k + 1 => by
    obtain ⟨ih0, ih1⟩ := block_check.mono_l k
    refine ⟨?_, ?_⟩
    · intro y0 y1 y2 y3
      unfold block_check.j0
      repeat' first
      | (with_reducible exact ih0 _ _ _ _)
      | (with_reducible exact ih1 _ _ _ _ _ _ _)
      | (with_reducible exact LeO.refl _)
      | (with_reducible exact LeO.none _)
      | (with_reducible refine LeO.ite ?_ ?_)
      | (with_reducible refine LeO.bind ?_ (fun _ => ?_))
      | exact ih0 _ _ _ _
      | exact ih1 _ _ _ _ _ _ _
      | exact LeO.none _
      | refine LeO.ite ?_ ?_
      | refine LeO.bind ?_ (fun _ => ?_)
    · intro y0 y1 y2 y3 y4 y5 y6
      unfold block_check.l0
      repeat' first
      | (with_reducible exact ih0 _ _ _ _)
      | (with_reducible exact ih1 _ _ _ _ _ _ _)
      | (with_reducible exact LeO.refl _)
      | (with_reducible exact LeO.none _)
      | (with_reducible refine LeO.ite ?_ ?_)
      | (with_reducible refine LeO.bind ?_ (fun _ => ?_))
      | exact ih0 _ _ _ _
      | exact ih1 _ _ _ _ _ _ _
      | exact LeO.none _
      | refine LeO.ite ?_ ?_
      | refine LeO.bind ?_ (fun _ => ?_)
theorem block_check.mono : ∀ a0 a1 a2 k, LeO (block_check.f k a0 a1 a2) (block_check.f (k + 1) a0 a1 a2) := by
  intro a0 a1 a2 k
  obtain ⟨ih0, ih1⟩ := block_check.mono_l k
  unfold block_check.f
  repeat' first
      | (with_reducible exact ih0 _ _ _ _)
      | (with_reducible exact ih1 _ _ _ _ _ _ _)
      | (with_reducible exact LeO.refl _)
      | (with_reducible exact LeO.none _)
      | (with_reducible refine LeO.ite ?_ ?_)
      | (with_reducible refine LeO.bind ?_ (fun _ => ?_))
      | exact ih0 _ _ _ _
      | exact ih1 _ _ _ _ _ _ _
      | exact LeO.none _
      | refine LeO.ite ?_ ?_
      | refine LeO.bind ?_ (fun _ => ?_)
set_option maxHeartbeats 8000000 in
set_option maxRecDepth 100000 in
theorem block_check.calls (k : Nat) (a0_0 : Int) (a0_1 : Int) (A0_2 : Option Addr) (c0_2 : Nat) (l0_2 : List (S26)) (r : Int) (w : World) (hr0_2 : Kd.C k26 w A0_2 l0_2.length l0_2) (hc0_2 : l0_2.length ≤ c0_2) (h : block_check.f k a0_0 a0_1 l0_2 = some r) :
    Calls Try.prog 50 #[.agg #[.int .i64 a0_0, .int .i64 a0_1, .slice A0_2 l0_2.length c0_2]] w fun e w' => e = .returned (.int .i64 r) ∧ Below w.heap.size w w' := by
  have hu42 := Try.underlying42
  have hu26 := Try.underlying26
  have HR0_2 := Aside0.mk hr0_2
  have HC0_2 := Aside0.mk hc0_2
  clear hr0_2 hc0_2
  have HB := Aside0.mk (Below.refl w.heap.size w)
  have H : (if (l0_2.length : Int) > 64 then (some 2) else (if (l0_2.length : Int) = 0 then (block_check.j0 k true a0_0 a0_1 l0_2) else (if a0_0 < 0 then (block_check.j0 k true a0_0 a0_1 l0_2) else (if a0_0 ≥ 4 then (block_check.j0 k true a0_0 a0_1 l0_2) else (if a0_1 < 0 then (block_check.j0 k true a0_0 a0_1 l0_2) else (block_check.j0 k (decide (a0_1 > 400)) a0_0 a0_1 l0_2)))))) = some r := h
  clear h
  by_cases c2 : (l0_2.length : Int) > 64
  · rw [if_pos c2] at H
    have c2b0 : decide (64 < (l0_2.length : Int)) = true := decide_eq_true c2
    have c2b1 : decide (64 < l0_2.length) = true := decide_eq_true (by omega)
    clear c2
    obtain rfl := Option.some.inj H
    go_enter Try.func50, Try.ntmps50
    go_wp2_with (first | ((with_reducible refine gate_dst (N := 1) rfl ?_); (try (refine gate_guard (by rfl) ?_; dsimp only)); refine box_event ?hg (N := 1) ?hd (cs := #[.int .i64 a0_0, .int .i64 a0_1, .slice A0_2 l0_2.length c0_2]) (t := 42) ?hr ?_; (case hd => rfl); (case hg => rfl); (case hr => first | (go_simp; done) | (go_simp; rfl)); intro gb260 hg w3 hbox hb; have n0_ := Aside0.mk (below_step (by repeat (first | (with_reducible first | exact HB.out | apply below_alloc | apply pw_below_drewN | apply below_drew1) | exact HB.out)) hb); have n1_ := Aside0.mk (hbox); have n2_ := Aside0.mk ((by rw [hg]; exact (below_size (by repeat (first | (with_reducible first | exact HB.out | apply below_alloc | apply pw_below_drewN | apply below_drew1) | exact HB.out))) : w.heap.size ≤ gb260)); have n3_ := Aside0.mk ((by rw [hg]; exact (below_size (by repeat (first | (with_reducible first | exact HB.out | apply below_alloc | apply pw_below_drewN | apply below_drew1) | exact HB.out))) : w.heap.size ≤ gb260)); clear HB; have HB := n0_; have BK260 := n1_; have GW260 := n2_; have GE260 := n3_; clear n0_ n1_ n2_ n3_; clear hb hbox hg; have hcz4_0 : w3.cell? ⟨gb260, 0, none⟩ = some (.int .i64 a0_0) := (blk_cell BK260.out 0).trans rfl; have hcz4_1 : w3.cell? ⟨gb260, 1, none⟩ = some (.int .i64 a0_1) := (blk_cell BK260.out 1).trans rfl; have hcz4_2 : w3.cell? ⟨gb260, 2, none⟩ = some (.slice A0_2 l0_2.length c0_2) := (blk_cell BK260.out 2).trans rfl; have hfz4_0 := blk_frozen BK260.out 0; have hfz4_1 := blk_frozen BK260.out 1; have hfz4_2 := blk_frozen BK260.out 2))
    go_ret
    exact ⟨by first | rfl | (simp [errW_none, errW_some] <;> rfl) | (simp [*, errW_none, errW_some] <;> rfl), by repeat (first | (with_reducible first | exact HB.out | apply below_alloc | apply pw_below_drewN | apply below_drew1 | refine below_set ?_ GE260.out) | exact HB.out)⟩
  · rw [if_neg c2] at H
    have c2b0 : decide (64 < (l0_2.length : Int)) = false := decide_eq_false c2
    have c2b1 : decide (64 < l0_2.length) = false := decide_eq_false (by omega)
    clear c2
    have HC5 := Aside0.mk H
    clear H
    go_enter Try.func50, Try.ntmps50
    go_upto_region 3 with (first | ((with_reducible refine gate_dst (N := 1) rfl ?_); (try (refine gate_guard (by rfl) ?_; dsimp only)); refine box_event ?hg (N := 1) ?hd (cs := #[.int .i64 a0_0, .int .i64 a0_1, .slice A0_2 l0_2.length c0_2]) (t := 42) ?hr ?_; (case hd => rfl); (case hg => rfl); (case hr => first | (go_simp; done) | (go_simp; rfl)); intro gb260 hg w6 hbox hb; have n0_ := Aside0.mk (below_step (by repeat (first | (with_reducible first | exact HB.out | apply below_alloc | apply pw_below_drewN | apply below_drew1) | exact HB.out)) hb); have n1_ := Aside0.mk (hbox); have n2_ := Aside0.mk ((by rw [hg]; exact (below_size (by repeat (first | (with_reducible first | exact HB.out | apply below_alloc | apply pw_below_drewN | apply below_drew1) | exact HB.out))) : w.heap.size ≤ gb260)); have n3_ := Aside0.mk ((by rw [hg]; exact (below_size (by repeat (first | (with_reducible first | exact HB.out | apply below_alloc | apply pw_below_drewN | apply below_drew1) | exact HB.out))) : w.heap.size ≤ gb260)); clear HB; have HB := n0_; have BK260 := n1_; have GW260 := n2_; have GE260 := n3_; clear n0_ n1_ n2_ n3_; clear hb hbox hg; have hcz7_0 : w6.cell? ⟨gb260, 0, none⟩ = some (.int .i64 a0_0) := (blk_cell BK260.out 0).trans rfl; have hcz7_1 : w6.cell? ⟨gb260, 1, none⟩ = some (.int .i64 a0_1) := (blk_cell BK260.out 1).trans rfl; have hcz7_2 : w6.cell? ⟨gb260, 2, none⟩ = some (.slice A0_2 l0_2.length c0_2) := (blk_cell BK260.out 2).trans rfl; have hfz7_0 := blk_frozen BK260.out 0; have hfz7_1 := blk_frozen BK260.out 1; have hfz7_2 := blk_frozen BK260.out 2))
    (try simp only [Act.put, List.setIfInBounds_toArray, List.set_cons_zero, List.set_cons_succ])
    go_cut [33] (fun v33 wc => ∃ (kq : Nat) (x33_4 : Bool), v33 = .bool x33_4 ∧ Aside0 (block_check.j0 kq x33_4 a0_0 a0_1 l0_2 = some r) ∧ Aside0 (kq ≤ k) ∧ Aside0 (wc.heap[gb260]? = some (.cells #[.int .i64 a0_0, .int .i64 a0_1, (.slice A0_2 l0_2.length c0_2)] 42 (0, 0))) ∧ Aside0 (Below w.heap.size w wc))
    case first =>
      have H := HC5.out
      clear HC5
      by_cases c8 : (l0_2.length : Int) = 0
      · rw [if_pos c8] at H
        have c8b0 : ((l0_2.length : Int) == 0) = true := beq_iff_eq.mpr c8
        have c8b1 : ((l0_2.length : Int) != 0) = false := bne_eq_false_iff_eq.mpr c8
        clear c8
        (first | rw [c8b0] | (simp only [i64_w, i32_w]; rw [c8b0]) | skip)
        have H' := Aside0.mk H
        clear H
        have hcz9_0 : w6.cell? ⟨gb260, 0, none⟩ = some (.int .i64 a0_0) := (blk_cell BK260.out 0).trans rfl
        have hcz9_1 : w6.cell? ⟨gb260, 1, none⟩ = some (.int .i64 a0_1) := (blk_cell BK260.out 1).trans rfl
        have hcz9_2 : w6.cell? ⟨gb260, 2, none⟩ = some (.slice A0_2 l0_2.length c0_2) := (blk_cell BK260.out 2).trans rfl
        have hfz9_0 := blk_frozen BK260.out 0
        have hfz9_1 := blk_frozen BK260.out 1
        have hfz9_2 := blk_frozen BK260.out 2
        go_wp2
        go_meet
        case rel => exact ⟨_, (true), (by first | rfl | (simp; done) | (simp [*]; done)), H', ⟨by first | omega | exact Nat.le_refl _⟩, ⟨by (with_reducible repeat (first | refine blk_drewN ?_ _ | refine blk_drew ?_ | refine blk_alloc ?_ _)); exact BK260.out⟩, ⟨by repeat (first | (with_reducible first | exact HB.out | apply below_alloc | apply pw_below_drewN | apply below_drew1 | refine below_set ?_ GE260.out) | exact HB.out)⟩⟩
      · rw [if_neg c8] at H
        have c8b0 : ((l0_2.length : Int) == 0) = false := beq_eq_false_iff_ne.mpr c8
        have c8b1 : ((l0_2.length : Int) != 0) = true := bne_iff_ne.mpr c8
        have c8b2 : ¬ (l0_2 = []) := fun h_ => c8 (by rw [h_]; rfl)
        (first | rw [c8b0] | (simp only [i64_w, i32_w]; rw [c8b0]) | skip)
        by_cases c10 : a0_0 < 0
        · rw [if_pos c10] at H
          have c10b0 : decide (a0_0 < 0) = true := decide_eq_true c10
          clear c10
          have H' := Aside0.mk H
          clear H
          have hcz11_0 : w6.cell? ⟨gb260, 0, none⟩ = some (.int .i64 a0_0) := (blk_cell BK260.out 0).trans rfl
          have hcz11_1 : w6.cell? ⟨gb260, 1, none⟩ = some (.int .i64 a0_1) := (blk_cell BK260.out 1).trans rfl
          have hcz11_2 : w6.cell? ⟨gb260, 2, none⟩ = some (.slice A0_2 l0_2.length c0_2) := (blk_cell BK260.out 2).trans rfl
          have hfz11_0 := blk_frozen BK260.out 0
          have hfz11_1 := blk_frozen BK260.out 1
          have hfz11_2 := blk_frozen BK260.out 2
          go_wp2
          go_meet
          case rel => exact ⟨_, (true), (by first | rfl | (simp; done) | (simp [*]; done)), H', ⟨by first | omega | exact Nat.le_refl _⟩, ⟨by (with_reducible repeat (first | refine blk_drewN ?_ _ | refine blk_drew ?_ | refine blk_alloc ?_ _)); exact BK260.out⟩, ⟨by repeat (first | (with_reducible first | exact HB.out | apply below_alloc | apply pw_below_drewN | apply below_drew1 | refine below_set ?_ GE260.out) | exact HB.out)⟩⟩
        · rw [if_neg c10] at H
          have c10b0 : decide (a0_0 < 0) = false := decide_eq_false c10
          clear c10
          by_cases c12 : a0_0 ≥ 4
          · rw [if_pos c12] at H
            have c12b0 : decide (4 ≤ a0_0) = true := decide_eq_true c12
            clear c12
            have H' := Aside0.mk H
            clear H
            have hcz13_0 : w6.cell? ⟨gb260, 0, none⟩ = some (.int .i64 a0_0) := (blk_cell BK260.out 0).trans rfl
            have hcz13_1 : w6.cell? ⟨gb260, 1, none⟩ = some (.int .i64 a0_1) := (blk_cell BK260.out 1).trans rfl
            have hcz13_2 : w6.cell? ⟨gb260, 2, none⟩ = some (.slice A0_2 l0_2.length c0_2) := (blk_cell BK260.out 2).trans rfl
            have hfz13_0 := blk_frozen BK260.out 0
            have hfz13_1 := blk_frozen BK260.out 1
            have hfz13_2 := blk_frozen BK260.out 2
            go_wp2
            go_meet
            case rel => exact ⟨_, (true), (by first | rfl | (simp; done) | (simp [*]; done)), H', ⟨by first | omega | exact Nat.le_refl _⟩, ⟨by (with_reducible repeat (first | refine blk_drewN ?_ _ | refine blk_drew ?_ | refine blk_alloc ?_ _)); exact BK260.out⟩, ⟨by repeat (first | (with_reducible first | exact HB.out | apply below_alloc | apply pw_below_drewN | apply below_drew1 | refine below_set ?_ GE260.out) | exact HB.out)⟩⟩
          · rw [if_neg c12] at H
            have c12b0 : decide (4 ≤ a0_0) = false := decide_eq_false c12
            clear c12
            by_cases c14 : a0_1 < 0
            · rw [if_pos c14] at H
              have c14b0 : decide (a0_1 < 0) = true := decide_eq_true c14
              clear c14
              have H' := Aside0.mk H
              clear H
              have hcz15_0 : w6.cell? ⟨gb260, 0, none⟩ = some (.int .i64 a0_0) := (blk_cell BK260.out 0).trans rfl
              have hcz15_1 : w6.cell? ⟨gb260, 1, none⟩ = some (.int .i64 a0_1) := (blk_cell BK260.out 1).trans rfl
              have hcz15_2 : w6.cell? ⟨gb260, 2, none⟩ = some (.slice A0_2 l0_2.length c0_2) := (blk_cell BK260.out 2).trans rfl
              have hfz15_0 := blk_frozen BK260.out 0
              have hfz15_1 := blk_frozen BK260.out 1
              have hfz15_2 := blk_frozen BK260.out 2
              go_wp2
              go_meet
              case rel => exact ⟨_, (true), (by first | rfl | (simp; done) | (simp [*]; done)), H', ⟨by first | omega | exact Nat.le_refl _⟩, ⟨by (with_reducible repeat (first | refine blk_drewN ?_ _ | refine blk_drew ?_ | refine blk_alloc ?_ _)); exact BK260.out⟩, ⟨by repeat (first | (with_reducible first | exact HB.out | apply below_alloc | apply pw_below_drewN | apply below_drew1 | refine below_set ?_ GE260.out) | exact HB.out)⟩⟩
            · rw [if_neg c14] at H
              have c14b0 : decide (a0_1 < 0) = false := decide_eq_false c14
              clear c14
              have H' := Aside0.mk H
              clear H
              have hcz16_0 : w6.cell? ⟨gb260, 0, none⟩ = some (.int .i64 a0_0) := (blk_cell BK260.out 0).trans rfl
              have hcz16_1 : w6.cell? ⟨gb260, 1, none⟩ = some (.int .i64 a0_1) := (blk_cell BK260.out 1).trans rfl
              have hcz16_2 : w6.cell? ⟨gb260, 2, none⟩ = some (.slice A0_2 l0_2.length c0_2) := (blk_cell BK260.out 2).trans rfl
              have hfz16_0 := blk_frozen BK260.out 0
              have hfz16_1 := blk_frozen BK260.out 1
              have hfz16_2 := blk_frozen BK260.out 2
              go_wp2
              go_meet
              case rel => exact ⟨_, (decide (a0_1 > 400)), (by first | rfl | (simp; done) | (simp [*]; done)), H', ⟨by first | omega | exact Nat.le_refl _⟩, ⟨by (with_reducible repeat (first | refine blk_drewN ?_ _ | refine blk_drew ?_ | refine blk_alloc ?_ _)); exact BK260.out⟩, ⟨by repeat (first | (with_reducible first | exact HB.out | apply below_alloc | apply pw_below_drewN | apply below_drew1 | refine below_set ?_ GE260.out) | exact HB.out)⟩⟩
    case rest =>
      clear HC5
      try clear c1
      try clear c2
      try clear c2b0
      try clear c2b1
      try clear p2
      try clear c5
      try clear c8
      try clear c8b0
      try clear c8b1
      try clear c8b2
      try clear c10
      try clear c10b0
      try clear c12
      try clear c12b0
      try clear c14
      try clear c14b0
      try clear hcz11_0
      try clear hcz11_1
      try clear hcz11_2
      try clear hcz13_0
      try clear hcz13_1
      try clear hcz13_2
      try clear hcz15_0
      try clear hcz15_1
      try clear hcz15_2
      try clear hcz16_0
      try clear hcz16_1
      try clear hcz16_2
      try clear hcz4_0
      try clear hcz4_1
      try clear hcz4_2
      try clear hcz7_0
      try clear hcz7_1
      try clear hcz7_2
      try clear hcz9_0
      try clear hcz9_1
      try clear hcz9_2
      try clear hfz11_0
      try clear hfz11_1
      try clear hfz11_2
      try clear hfz13_0
      try clear hfz13_1
      try clear hfz13_2
      try clear hfz15_0
      try clear hfz15_1
      try clear hfz15_2
      try clear hfz16_0
      try clear hfz16_1
      try clear hfz16_2
      try clear hfz4_0
      try clear hfz4_1
      try clear hfz4_2
      try clear hfz7_0
      try clear hfz7_1
      try clear hfz7_2
      try clear hfz9_0
      try clear hfz9_1
      try clear hfz9_2
      obtain ⟨kq, x33_4, rfl, HA, HJ4, BK260, HB⟩ := hcut
      cases kq with
      | zero => exact absurd HA.out (by simp [block_check.j0])
      | succ kj4 =>
        have H := HA.out
        clear HA
        simp only [block_check.j0] at H
        by_cases c17 : x33_4 = true
        · subst c17
          have H1 : (some 1) = some r := by rw [if_pos rfl] at H; exact H
          clear H
          have H := H1
          clear H1
          obtain rfl := Option.some.inj H
          go_wp2
          go_ret
          exact ⟨by first | rfl | (simp [errW_none, errW_some] <;> rfl) | (simp [*, errW_none, errW_some] <;> rfl), by repeat (first | (with_reducible first | exact HB.out | apply below_alloc | apply pw_below_drewN | apply below_drew1 | refine below_set ?_ GE260.out) | exact HB.out)⟩
        · replace c17 := Bool.eq_false_iff.mpr c17
          subst c17
          have H1 : (block_check.l0 kj4 (-1) l0_2 (l0_2.length : Int) 0 a0_0 a0_1 l0_2) = some r := by rw [if_neg (show ¬ (false = true) by decide)] at H; exact H
          clear H
          have H := H1
          clear H1
          have H' := Aside0.mk H
          clear H
          have hcz18_0 : wc.cell? ⟨gb260, 0, none⟩ = some (.int .i64 a0_0) := (blk_cell BK260.out 0).trans rfl
          have hcz18_1 : wc.cell? ⟨gb260, 1, none⟩ = some (.int .i64 a0_1) := (blk_cell BK260.out 1).trans rfl
          have hcz18_2 : wc.cell? ⟨gb260, 2, none⟩ = some (.slice A0_2 l0_2.length c0_2) := (blk_cell BK260.out 2).trans rfl
          have hfz18_0 := blk_frozen BK260.out 0
          have hfz18_1 := blk_frozen BK260.out 1
          have hfz18_2 := blk_frozen BK260.out 2
          go_wp2
          go_loopg [3, 37] kj4 (fun kq v3 v37 w' => ∃ (x3_2 : Int) (x37_2 : Int), v3 = .int .i64 x3_2 ∧ v37 = .int .i64 x37_2 ∧ Aside0 (block_check.l0 kq x3_2 l0_2 (l0_2.length : Int) x37_2 a0_0 a0_1 l0_2 = some r) ∧ Aside0 (kq ≤ kj4) ∧ Aside0 (w'.heap[gb260]? = some (.cells #[.int .i64 a0_0, .int .i64 a0_1, (.slice A0_2 l0_2.length c0_2)] 42 (0, 0))) ∧ Aside0 (Below w.heap.size w w'))
          case atStart => exact ⟨((-1)), (0), (by first | rfl | (simp; done) | (simp [*]; done)), (by first | rfl | (simp; done) | (simp [*]; done)), H', ⟨Nat.le_refl _⟩, ⟨by (with_reducible repeat (first | refine blk_drewN ?_ _ | refine blk_drew ?_ | refine blk_alloc ?_ _)); exact BK260.out⟩, ⟨by repeat (first | (with_reducible first | exact HB.out | apply below_alloc | apply pw_below_drewN | apply below_drew1 | refine below_set ?_ GE260.out) | exact HB.out)⟩⟩
          case round =>
            clear H'
            try clear c1
            try clear c2
            try clear c2b0
            try clear c2b1
            try clear p2
            try clear c5
            try clear c8
            try clear c8b0
            try clear c8b1
            try clear c8b2
            try clear c10
            try clear c10b0
            try clear c12
            try clear c12b0
            try clear c14
            try clear c14b0
            try clear c17
            try clear hcz11_0
            try clear hcz11_1
            try clear hcz11_2
            try clear hcz13_0
            try clear hcz13_1
            try clear hcz13_2
            try clear hcz15_0
            try clear hcz15_1
            try clear hcz15_2
            try clear hcz16_0
            try clear hcz16_1
            try clear hcz16_2
            try clear hcz18_0
            try clear hcz18_1
            try clear hcz18_2
            try clear hcz4_0
            try clear hcz4_1
            try clear hcz4_2
            try clear hcz7_0
            try clear hcz7_1
            try clear hcz7_2
            try clear hcz9_0
            try clear hcz9_1
            try clear hcz9_2
            try clear hfz11_0
            try clear hfz11_1
            try clear hfz11_2
            try clear hfz13_0
            try clear hfz13_1
            try clear hfz13_2
            try clear hfz15_0
            try clear hfz15_1
            try clear hfz15_2
            try clear hfz16_0
            try clear hfz16_1
            try clear hfz16_2
            try clear hfz18_0
            try clear hfz18_1
            try clear hfz18_2
            try clear hfz4_0
            try clear hfz4_1
            try clear hfz4_2
            try clear hfz7_0
            try clear hfz7_1
            try clear hfz7_2
            try clear hfz9_0
            try clear hfz9_1
            try clear hfz9_2
            try clear p2
            obtain ⟨x3_2, x37_2, rfl, rfl, HA, HK2, BK260, HB⟩ := hrel
            cases gk with
            | zero => exact absurd HA.out (by simp [block_check.l0])
            | succ k2 =>
              have H := HA.out
              clear HA
              simp only [block_check.l0] at H
              by_cases c19 : x37_2 < (l0_2.length : Int)
              · rw [if_pos c19] at H
                have c19b0 : decide (x37_2 < (l0_2.length : Int)) = true := decide_eq_true c19
                clear c19
                by_cases c20 : 0 ≤ x37_2
                · rw [if_pos c20] at H
                  have c20b0 : decide (0 ≤ x37_2) = true := decide_eq_true c20
                  clear c20
                  by_cases c21 : x37_2 < (l0_2.length : Int)
                  · rw [if_pos c21] at H
                    have c21b0 : decide (x37_2 < (l0_2.length : Int)) = true := decide_eq_true c21
                    clear c21
                    by_cases c22 : ((rd_T26 l0_2 x37_2).f1.f0) = a0_0
                    · rw [if_pos c22] at H
                      have c22b0 : (((rd_T26 l0_2 x37_2).f1.f0) == a0_0) = true := beq_iff_eq.mpr c22
                      have c22b1 : (((rd_T26 l0_2 x37_2).f1.f0) != a0_0) = false := bne_eq_false_iff_eq.mpr c22
                      clear c22
                      by_cases c23 : ((rd_T26 l0_2 x37_2).f0) ≤ x3_2
                      · rw [if_pos c23] at H
                        have c23b0 : decide (((rd_T26 l0_2 x37_2).f0) ≤ x3_2) = true := decide_eq_true c23
                        clear c23
                        obtain rfl := Option.some.inj H
                        have p261 : 0 ≤ (x37_2 : Int) := of_decide_eq_true (by first | (with_reducible assumption) | assumption)
                        have q261 : x37_2 < (l0_2.length : Int) := of_decide_eq_true (by first | (with_reducible assumption) | assumption)
                        obtain ⟨ad261, A261_6, c261_6, A261_7, c261_7, e261, hx261_0, hx261_1, hx261_2, hx261_3, hx261_4, hx261_5, hx261_6, hx261_7, hl261_6, hi261_6, hl261_7, hi261_7⟩ := at_T26 HR0_2.out x37_2 p261 q261
                        cases e261
                        replace hx261_0 := (HB.out.cell (World.block_lt_of_cell? w _ hx261_0)).trans hx261_0
                        replace hx261_1 := (HB.out.cell (World.block_lt_of_cell? w _ hx261_1)).trans hx261_1
                        replace hx261_2 := (HB.out.cell (World.block_lt_of_cell? w _ hx261_2)).trans hx261_2
                        replace hx261_3 := (HB.out.cell (World.block_lt_of_cell? w _ hx261_3)).trans hx261_3
                        replace hx261_4 := (HB.out.cell (World.block_lt_of_cell? w _ hx261_4)).trans hx261_4
                        replace hx261_5 := (HB.out.cell (World.block_lt_of_cell? w _ hx261_5)).trans hx261_5
                        replace hx261_6 := (HB.out.cell (World.block_lt_of_cell? w _ hx261_6)).trans hx261_6
                        replace hx261_7 := (HB.out.cell (World.block_lt_of_cell? w _ hx261_7)).trans hx261_7
                        have HR261_6 := Aside0.mk hi261_6
                        have HC261_6 := Aside0.mk hl261_6
                        clear hi261_6 hl261_6
                        have HR261_7 := Aside0.mk hi261_7
                        have HC261_7 := Aside0.mk hl261_7
                        clear hi261_7 hl261_7
                        replace p261 := eq_true p261
                        replace q261 := eq_true q261
                        go_wp2_with (first | ((with_reducible refine gate_dst (N := 5) rfl ?_); (try (refine gate_guard (by rfl) ?_; dsimp only)); refine box_event ?hg (N := 5) ?hd (cs := #[.int .i64 0, .int .i64 0, .int .i64 0, .int .i64 0, .int .i64 0, .int .i64 0, .slice none 0 0, .slice none 0 0]) (t := 26) ?hr ?_; (case hd => rfl); (case hg => rfl); (case hr => first | (go_simp; done) | (go_simp; rfl)); intro gb262 hg w24 hbox hb; have n0_ := Aside0.mk (blk_below (g := gb260) (o := .cells #[.int .i64 a0_0, .int .i64 a0_1, .slice (some ad261) l0_2.length c0_2] 42 (0, 0)) (by (with_reducible repeat (first | refine blk_drewN ?_ _ | refine blk_drew ?_ | refine blk_alloc ?_ _)); exact BK260.out) hb); have n1_ := Aside0.mk (below_step (by repeat (first | (with_reducible first | exact HB.out | apply below_alloc | apply pw_below_drewN | apply below_drew1 | refine below_set ?_ GE260.out) | exact HB.out)) hb); have n2_ := Aside0.mk (hbox); have n3_ := Aside0.mk ((by rw [hg]; exact (below_size (by repeat (first | (with_reducible first | exact HB.out | apply below_alloc | apply pw_below_drewN | apply below_drew1 | refine below_set ?_ GE260.out) | exact HB.out))) : w.heap.size ≤ gb262)); have n4_ := Aside0.mk ((by rw [hg]; exact (below_size (by repeat (first | (with_reducible first | exact HB.out | apply below_alloc | apply pw_below_drewN | apply below_drew1 | refine below_set ?_ GE260.out) | exact HB.out))) : w.heap.size ≤ gb262)); have n5_ := Aside0.mk ((by rw [hg]; exact Nat.ne_of_lt (blk_lt (g := gb260) (o := .cells #[.int .i64 a0_0, .int .i64 a0_1, .slice (some ad261) l0_2.length c0_2] 42 (0, 0)) (by (with_reducible repeat (first | refine blk_drewN ?_ _ | refine blk_drew ?_ | refine blk_alloc ?_ _)); exact BK260.out)) : gb260 ≠ gb262)); have n6_ := Aside0.mk ((by rw [hg]; exact Nat.ne_of_gt (blk_lt (g := gb260) (o := .cells #[.int .i64 a0_0, .int .i64 a0_1, .slice (some ad261) l0_2.length c0_2] 42 (0, 0)) (by (with_reducible repeat (first | refine blk_drewN ?_ _ | refine blk_drew ?_ | refine blk_alloc ?_ _)); exact BK260.out)) : gb262 ≠ gb260)); clear BK260; clear HB; have BK260 := n0_; have HB := n1_; have BK262 := n2_; have GW262 := n3_; have GE262 := n4_; have NB260_262 := n5_; have NB262_260 := n6_; clear n0_ n1_ n2_ n3_ n4_ n5_ n6_; clear hb hbox hg; have hnb25 := NB262_260.out; have hnc25 := NB260_262.out; have hcz26_0 : w24.cell? ⟨gb262, 0, none⟩ = some (.int .i64 0) := (blk_cell BK262.out 0).trans rfl; have hcz26_1 : w24.cell? ⟨gb262, 1, none⟩ = some (.int .i64 0) := (blk_cell BK262.out 1).trans rfl; have hcz26_2 : w24.cell? ⟨gb262, 2, none⟩ = some (.int .i64 0) := (blk_cell BK262.out 2).trans rfl; have hcz26_3 : w24.cell? ⟨gb262, 3, none⟩ = some (.int .i64 0) := (blk_cell BK262.out 3).trans rfl; have hcz26_4 : w24.cell? ⟨gb262, 4, none⟩ = some (.int .i64 0) := (blk_cell BK262.out 4).trans rfl; have hcz26_5 : w24.cell? ⟨gb262, 5, none⟩ = some (.int .i64 0) := (blk_cell BK262.out 5).trans rfl; have hcz26_6 : w24.cell? ⟨gb262, 6, none⟩ = some (.slice none 0 0) := (blk_cell BK262.out 6).trans rfl; have hcz26_7 : w24.cell? ⟨gb262, 7, none⟩ = some (.slice none 0 0) := (blk_cell BK262.out 7).trans rfl; have hfz26_0 := blk_frozen BK262.out 0; have hfz26_1 := blk_frozen BK262.out 1; have hfz26_2 := blk_frozen BK262.out 2; have hfz26_3 := blk_frozen BK262.out 3; have hfz26_4 := blk_frozen BK262.out 4; have hfz26_5 := blk_frozen BK262.out 5; have hfz26_6 := blk_frozen BK262.out 6; have hfz26_7 := blk_frozen BK262.out 7; have hcz27_0 : w24.cell? ⟨gb260, 0, none⟩ = some (.int .i64 a0_0) := (blk_cell BK260.out 0).trans rfl; have hcz27_1 : w24.cell? ⟨gb260, 1, none⟩ = some (.int .i64 a0_1) := (blk_cell BK260.out 1).trans rfl; have hcz27_2 : w24.cell? ⟨gb260, 2, none⟩ = some (.slice (some ad261) l0_2.length c0_2) := (blk_cell BK260.out 2).trans rfl; have hfz27_0 := blk_frozen BK260.out 0; have hfz27_1 := blk_frozen BK260.out 1; have hfz27_2 := blk_frozen BK260.out 2))
                        go_ret
                        exact ⟨by first | rfl | (simp [errW_none, errW_some] <;> rfl) | (simp [*, errW_none, errW_some] <;> rfl), by repeat (first | (with_reducible first | exact HB.out | apply below_alloc | apply pw_below_drewN | apply below_drew1 | refine below_set ?_ GE260.out | refine below_set ?_ GE262.out) | exact HB.out)⟩
                      · rw [if_neg c23] at H
                        have c23b0 : decide (((rd_T26 l0_2 x37_2).f0) ≤ x3_2) = false := decide_eq_false c23
                        clear c23
                        by_cases c28 : (((rd_T26 l0_2 x37_2).f1.f5).length : Int) > 400
                        · rw [if_pos c28] at H
                          have c28b0 : decide (400 < (((rd_T26 l0_2 x37_2).f1.f5).length : Int)) = true := decide_eq_true c28
                          have c28b1 : decide (400 < ((rd_T26 l0_2 x37_2).f1.f5).length) = true := decide_eq_true (by omega)
                          clear c28
                          obtain rfl := Option.some.inj H
                          have p261 : 0 ≤ (x37_2 : Int) := of_decide_eq_true (by first | (with_reducible assumption) | assumption)
                          have q261 : x37_2 < (l0_2.length : Int) := of_decide_eq_true (by first | (with_reducible assumption) | assumption)
                          obtain ⟨ad261, A261_6, c261_6, A261_7, c261_7, e261, hx261_0, hx261_1, hx261_2, hx261_3, hx261_4, hx261_5, hx261_6, hx261_7, hl261_6, hi261_6, hl261_7, hi261_7⟩ := at_T26 HR0_2.out x37_2 p261 q261
                          cases e261
                          replace hx261_0 := (HB.out.cell (World.block_lt_of_cell? w _ hx261_0)).trans hx261_0
                          replace hx261_1 := (HB.out.cell (World.block_lt_of_cell? w _ hx261_1)).trans hx261_1
                          replace hx261_2 := (HB.out.cell (World.block_lt_of_cell? w _ hx261_2)).trans hx261_2
                          replace hx261_3 := (HB.out.cell (World.block_lt_of_cell? w _ hx261_3)).trans hx261_3
                          replace hx261_4 := (HB.out.cell (World.block_lt_of_cell? w _ hx261_4)).trans hx261_4
                          replace hx261_5 := (HB.out.cell (World.block_lt_of_cell? w _ hx261_5)).trans hx261_5
                          replace hx261_6 := (HB.out.cell (World.block_lt_of_cell? w _ hx261_6)).trans hx261_6
                          replace hx261_7 := (HB.out.cell (World.block_lt_of_cell? w _ hx261_7)).trans hx261_7
                          have HR261_6 := Aside0.mk hi261_6
                          have HC261_6 := Aside0.mk hl261_6
                          clear hi261_6 hl261_6
                          have HR261_7 := Aside0.mk hi261_7
                          have HC261_7 := Aside0.mk hl261_7
                          clear hi261_7 hl261_7
                          replace p261 := eq_true p261
                          replace q261 := eq_true q261
                          go_wp2_with (first | ((with_reducible refine gate_dst (N := 5) rfl ?_); (try (refine gate_guard (by rfl) ?_; dsimp only)); refine box_event ?hg (N := 5) ?hd (cs := #[.int .i64 0, .int .i64 0, .int .i64 0, .int .i64 0, .int .i64 0, .int .i64 0, .slice none 0 0, .slice none 0 0]) (t := 26) ?hr ?_; (case hd => rfl); (case hg => rfl); (case hr => first | (go_simp; done) | (go_simp; rfl)); intro gb262 hg w29 hbox hb; have n0_ := Aside0.mk (blk_below (g := gb260) (o := .cells #[.int .i64 a0_0, .int .i64 a0_1, .slice (some ad261) l0_2.length c0_2] 42 (0, 0)) (by (with_reducible repeat (first | refine blk_drewN ?_ _ | refine blk_drew ?_ | refine blk_alloc ?_ _)); exact BK260.out) hb); have n1_ := Aside0.mk (below_step (by repeat (first | (with_reducible first | exact HB.out | apply below_alloc | apply pw_below_drewN | apply below_drew1 | refine below_set ?_ GE260.out) | exact HB.out)) hb); have n2_ := Aside0.mk (hbox); have n3_ := Aside0.mk ((by rw [hg]; exact (below_size (by repeat (first | (with_reducible first | exact HB.out | apply below_alloc | apply pw_below_drewN | apply below_drew1 | refine below_set ?_ GE260.out) | exact HB.out))) : w.heap.size ≤ gb262)); have n4_ := Aside0.mk ((by rw [hg]; exact (below_size (by repeat (first | (with_reducible first | exact HB.out | apply below_alloc | apply pw_below_drewN | apply below_drew1 | refine below_set ?_ GE260.out) | exact HB.out))) : w.heap.size ≤ gb262)); have n5_ := Aside0.mk ((by rw [hg]; exact Nat.ne_of_lt (blk_lt (g := gb260) (o := .cells #[.int .i64 a0_0, .int .i64 a0_1, .slice (some ad261) l0_2.length c0_2] 42 (0, 0)) (by (with_reducible repeat (first | refine blk_drewN ?_ _ | refine blk_drew ?_ | refine blk_alloc ?_ _)); exact BK260.out)) : gb260 ≠ gb262)); have n6_ := Aside0.mk ((by rw [hg]; exact Nat.ne_of_gt (blk_lt (g := gb260) (o := .cells #[.int .i64 a0_0, .int .i64 a0_1, .slice (some ad261) l0_2.length c0_2] 42 (0, 0)) (by (with_reducible repeat (first | refine blk_drewN ?_ _ | refine blk_drew ?_ | refine blk_alloc ?_ _)); exact BK260.out)) : gb262 ≠ gb260)); clear BK260; clear HB; have BK260 := n0_; have HB := n1_; have BK262 := n2_; have GW262 := n3_; have GE262 := n4_; have NB260_262 := n5_; have NB262_260 := n6_; clear n0_ n1_ n2_ n3_ n4_ n5_ n6_; clear hb hbox hg; have hnb30 := NB262_260.out; have hnc30 := NB260_262.out; have hcz31_0 : w29.cell? ⟨gb262, 0, none⟩ = some (.int .i64 0) := (blk_cell BK262.out 0).trans rfl; have hcz31_1 : w29.cell? ⟨gb262, 1, none⟩ = some (.int .i64 0) := (blk_cell BK262.out 1).trans rfl; have hcz31_2 : w29.cell? ⟨gb262, 2, none⟩ = some (.int .i64 0) := (blk_cell BK262.out 2).trans rfl; have hcz31_3 : w29.cell? ⟨gb262, 3, none⟩ = some (.int .i64 0) := (blk_cell BK262.out 3).trans rfl; have hcz31_4 : w29.cell? ⟨gb262, 4, none⟩ = some (.int .i64 0) := (blk_cell BK262.out 4).trans rfl; have hcz31_5 : w29.cell? ⟨gb262, 5, none⟩ = some (.int .i64 0) := (blk_cell BK262.out 5).trans rfl; have hcz31_6 : w29.cell? ⟨gb262, 6, none⟩ = some (.slice none 0 0) := (blk_cell BK262.out 6).trans rfl; have hcz31_7 : w29.cell? ⟨gb262, 7, none⟩ = some (.slice none 0 0) := (blk_cell BK262.out 7).trans rfl; have hfz31_0 := blk_frozen BK262.out 0; have hfz31_1 := blk_frozen BK262.out 1; have hfz31_2 := blk_frozen BK262.out 2; have hfz31_3 := blk_frozen BK262.out 3; have hfz31_4 := blk_frozen BK262.out 4; have hfz31_5 := blk_frozen BK262.out 5; have hfz31_6 := blk_frozen BK262.out 6; have hfz31_7 := blk_frozen BK262.out 7; have hcz32_0 : w29.cell? ⟨gb260, 0, none⟩ = some (.int .i64 a0_0) := (blk_cell BK260.out 0).trans rfl; have hcz32_1 : w29.cell? ⟨gb260, 1, none⟩ = some (.int .i64 a0_1) := (blk_cell BK260.out 1).trans rfl; have hcz32_2 : w29.cell? ⟨gb260, 2, none⟩ = some (.slice (some ad261) l0_2.length c0_2) := (blk_cell BK260.out 2).trans rfl; have hfz32_0 := blk_frozen BK260.out 0; have hfz32_1 := blk_frozen BK260.out 1; have hfz32_2 := blk_frozen BK260.out 2))
                          go_ret
                          exact ⟨by first | rfl | (simp [errW_none, errW_some] <;> rfl) | (simp [*, errW_none, errW_some] <;> rfl), by repeat (first | (with_reducible first | exact HB.out | apply below_alloc | apply pw_below_drewN | apply below_drew1 | refine below_set ?_ GE260.out | refine below_set ?_ GE262.out) | exact HB.out)⟩
                        · rw [if_neg c28] at H
                          have c28b0 : decide (400 < (((rd_T26 l0_2 x37_2).f1.f5).length : Int)) = false := decide_eq_false c28
                          have c28b1 : decide (400 < ((rd_T26 l0_2 x37_2).f1.f5).length) = false := decide_eq_false (by omega)
                          clear c28
                          by_cases c33 : (((rd_T26 l0_2 x37_2).f1.f6).length : Int) > 400
                          · rw [if_pos c33] at H
                            have c33b0 : decide (400 < (((rd_T26 l0_2 x37_2).f1.f6).length : Int)) = true := decide_eq_true c33
                            have c33b1 : decide (400 < ((rd_T26 l0_2 x37_2).f1.f6).length) = true := decide_eq_true (by omega)
                            clear c33
                            obtain rfl := Option.some.inj H
                            have p261 : 0 ≤ (x37_2 : Int) := of_decide_eq_true (by first | (with_reducible assumption) | assumption)
                            have q261 : x37_2 < (l0_2.length : Int) := of_decide_eq_true (by first | (with_reducible assumption) | assumption)
                            obtain ⟨ad261, A261_6, c261_6, A261_7, c261_7, e261, hx261_0, hx261_1, hx261_2, hx261_3, hx261_4, hx261_5, hx261_6, hx261_7, hl261_6, hi261_6, hl261_7, hi261_7⟩ := at_T26 HR0_2.out x37_2 p261 q261
                            cases e261
                            replace hx261_0 := (HB.out.cell (World.block_lt_of_cell? w _ hx261_0)).trans hx261_0
                            replace hx261_1 := (HB.out.cell (World.block_lt_of_cell? w _ hx261_1)).trans hx261_1
                            replace hx261_2 := (HB.out.cell (World.block_lt_of_cell? w _ hx261_2)).trans hx261_2
                            replace hx261_3 := (HB.out.cell (World.block_lt_of_cell? w _ hx261_3)).trans hx261_3
                            replace hx261_4 := (HB.out.cell (World.block_lt_of_cell? w _ hx261_4)).trans hx261_4
                            replace hx261_5 := (HB.out.cell (World.block_lt_of_cell? w _ hx261_5)).trans hx261_5
                            replace hx261_6 := (HB.out.cell (World.block_lt_of_cell? w _ hx261_6)).trans hx261_6
                            replace hx261_7 := (HB.out.cell (World.block_lt_of_cell? w _ hx261_7)).trans hx261_7
                            have HR261_6 := Aside0.mk hi261_6
                            have HC261_6 := Aside0.mk hl261_6
                            clear hi261_6 hl261_6
                            have HR261_7 := Aside0.mk hi261_7
                            have HC261_7 := Aside0.mk hl261_7
                            clear hi261_7 hl261_7
                            replace p261 := eq_true p261
                            replace q261 := eq_true q261
                            go_wp2_with (first | ((with_reducible refine gate_dst (N := 5) rfl ?_); (try (refine gate_guard (by rfl) ?_; dsimp only)); refine box_event ?hg (N := 5) ?hd (cs := #[.int .i64 0, .int .i64 0, .int .i64 0, .int .i64 0, .int .i64 0, .int .i64 0, .slice none 0 0, .slice none 0 0]) (t := 26) ?hr ?_; (case hd => rfl); (case hg => rfl); (case hr => first | (go_simp; done) | (go_simp; rfl)); intro gb262 hg w34 hbox hb; have n0_ := Aside0.mk (blk_below (g := gb260) (o := .cells #[.int .i64 a0_0, .int .i64 a0_1, .slice (some ad261) l0_2.length c0_2] 42 (0, 0)) (by (with_reducible repeat (first | refine blk_drewN ?_ _ | refine blk_drew ?_ | refine blk_alloc ?_ _)); exact BK260.out) hb); have n1_ := Aside0.mk (below_step (by repeat (first | (with_reducible first | exact HB.out | apply below_alloc | apply pw_below_drewN | apply below_drew1 | refine below_set ?_ GE260.out) | exact HB.out)) hb); have n2_ := Aside0.mk (hbox); have n3_ := Aside0.mk ((by rw [hg]; exact (below_size (by repeat (first | (with_reducible first | exact HB.out | apply below_alloc | apply pw_below_drewN | apply below_drew1 | refine below_set ?_ GE260.out) | exact HB.out))) : w.heap.size ≤ gb262)); have n4_ := Aside0.mk ((by rw [hg]; exact (below_size (by repeat (first | (with_reducible first | exact HB.out | apply below_alloc | apply pw_below_drewN | apply below_drew1 | refine below_set ?_ GE260.out) | exact HB.out))) : w.heap.size ≤ gb262)); have n5_ := Aside0.mk ((by rw [hg]; exact Nat.ne_of_lt (blk_lt (g := gb260) (o := .cells #[.int .i64 a0_0, .int .i64 a0_1, .slice (some ad261) l0_2.length c0_2] 42 (0, 0)) (by (with_reducible repeat (first | refine blk_drewN ?_ _ | refine blk_drew ?_ | refine blk_alloc ?_ _)); exact BK260.out)) : gb260 ≠ gb262)); have n6_ := Aside0.mk ((by rw [hg]; exact Nat.ne_of_gt (blk_lt (g := gb260) (o := .cells #[.int .i64 a0_0, .int .i64 a0_1, .slice (some ad261) l0_2.length c0_2] 42 (0, 0)) (by (with_reducible repeat (first | refine blk_drewN ?_ _ | refine blk_drew ?_ | refine blk_alloc ?_ _)); exact BK260.out)) : gb262 ≠ gb260)); clear BK260; clear HB; have BK260 := n0_; have HB := n1_; have BK262 := n2_; have GW262 := n3_; have GE262 := n4_; have NB260_262 := n5_; have NB262_260 := n6_; clear n0_ n1_ n2_ n3_ n4_ n5_ n6_; clear hb hbox hg; have hnb35 := NB262_260.out; have hnc35 := NB260_262.out; have hcz36_0 : w34.cell? ⟨gb262, 0, none⟩ = some (.int .i64 0) := (blk_cell BK262.out 0).trans rfl; have hcz36_1 : w34.cell? ⟨gb262, 1, none⟩ = some (.int .i64 0) := (blk_cell BK262.out 1).trans rfl; have hcz36_2 : w34.cell? ⟨gb262, 2, none⟩ = some (.int .i64 0) := (blk_cell BK262.out 2).trans rfl; have hcz36_3 : w34.cell? ⟨gb262, 3, none⟩ = some (.int .i64 0) := (blk_cell BK262.out 3).trans rfl; have hcz36_4 : w34.cell? ⟨gb262, 4, none⟩ = some (.int .i64 0) := (blk_cell BK262.out 4).trans rfl; have hcz36_5 : w34.cell? ⟨gb262, 5, none⟩ = some (.int .i64 0) := (blk_cell BK262.out 5).trans rfl; have hcz36_6 : w34.cell? ⟨gb262, 6, none⟩ = some (.slice none 0 0) := (blk_cell BK262.out 6).trans rfl; have hcz36_7 : w34.cell? ⟨gb262, 7, none⟩ = some (.slice none 0 0) := (blk_cell BK262.out 7).trans rfl; have hfz36_0 := blk_frozen BK262.out 0; have hfz36_1 := blk_frozen BK262.out 1; have hfz36_2 := blk_frozen BK262.out 2; have hfz36_3 := blk_frozen BK262.out 3; have hfz36_4 := blk_frozen BK262.out 4; have hfz36_5 := blk_frozen BK262.out 5; have hfz36_6 := blk_frozen BK262.out 6; have hfz36_7 := blk_frozen BK262.out 7; have hcz37_0 : w34.cell? ⟨gb260, 0, none⟩ = some (.int .i64 a0_0) := (blk_cell BK260.out 0).trans rfl; have hcz37_1 : w34.cell? ⟨gb260, 1, none⟩ = some (.int .i64 a0_1) := (blk_cell BK260.out 1).trans rfl; have hcz37_2 : w34.cell? ⟨gb260, 2, none⟩ = some (.slice (some ad261) l0_2.length c0_2) := (blk_cell BK260.out 2).trans rfl; have hfz37_0 := blk_frozen BK260.out 0; have hfz37_1 := blk_frozen BK260.out 1; have hfz37_2 := blk_frozen BK260.out 2))
                            go_ret
                            exact ⟨by first | rfl | (simp [errW_none, errW_some] <;> rfl) | (simp [*, errW_none, errW_some] <;> rfl), by repeat (first | (with_reducible first | exact HB.out | apply below_alloc | apply pw_below_drewN | apply below_drew1 | refine below_set ?_ GE260.out | refine below_set ?_ GE262.out) | exact HB.out)⟩
                          · rw [if_neg c33] at H
                            have c33b0 : decide (400 < (((rd_T26 l0_2 x37_2).f1.f6).length : Int)) = false := decide_eq_false c33
                            have c33b1 : decide (400 < ((rd_T26 l0_2 x37_2).f1.f6).length) = false := decide_eq_false (by omega)
                            clear c33
                            have H' := Aside0.mk H
                            clear H
                            have p261 : 0 ≤ (x37_2 : Int) := of_decide_eq_true (by first | (with_reducible assumption) | assumption)
                            have q261 : x37_2 < (l0_2.length : Int) := of_decide_eq_true (by first | (with_reducible assumption) | assumption)
                            obtain ⟨ad261, A261_6, c261_6, A261_7, c261_7, e261, hx261_0, hx261_1, hx261_2, hx261_3, hx261_4, hx261_5, hx261_6, hx261_7, hl261_6, hi261_6, hl261_7, hi261_7⟩ := at_T26 HR0_2.out x37_2 p261 q261
                            cases e261
                            replace hx261_0 := (HB.out.cell (World.block_lt_of_cell? w _ hx261_0)).trans hx261_0
                            replace hx261_1 := (HB.out.cell (World.block_lt_of_cell? w _ hx261_1)).trans hx261_1
                            replace hx261_2 := (HB.out.cell (World.block_lt_of_cell? w _ hx261_2)).trans hx261_2
                            replace hx261_3 := (HB.out.cell (World.block_lt_of_cell? w _ hx261_3)).trans hx261_3
                            replace hx261_4 := (HB.out.cell (World.block_lt_of_cell? w _ hx261_4)).trans hx261_4
                            replace hx261_5 := (HB.out.cell (World.block_lt_of_cell? w _ hx261_5)).trans hx261_5
                            replace hx261_6 := (HB.out.cell (World.block_lt_of_cell? w _ hx261_6)).trans hx261_6
                            replace hx261_7 := (HB.out.cell (World.block_lt_of_cell? w _ hx261_7)).trans hx261_7
                            have HR261_6 := Aside0.mk hi261_6
                            have HC261_6 := Aside0.mk hl261_6
                            clear hi261_6 hl261_6
                            have HR261_7 := Aside0.mk hi261_7
                            have HC261_7 := Aside0.mk hl261_7
                            clear hi261_7 hl261_7
                            replace p261 := eq_true p261
                            replace q261 := eq_true q261
                            go_wp2_with (first | ((with_reducible refine gate_dst (N := 5) rfl ?_); (try (refine gate_guard (by rfl) ?_; dsimp only)); refine box_event ?hg (N := 5) ?hd (cs := #[.int .i64 0, .int .i64 0, .int .i64 0, .int .i64 0, .int .i64 0, .int .i64 0, .slice none 0 0, .slice none 0 0]) (t := 26) ?hr ?_; (case hd => rfl); (case hg => rfl); (case hr => first | (go_simp; done) | (go_simp; rfl)); intro gb262 hg w38 hbox hb; have n0_ := Aside0.mk (blk_below (g := gb260) (o := .cells #[.int .i64 a0_0, .int .i64 a0_1, .slice (some ad261) l0_2.length c0_2] 42 (0, 0)) (by (with_reducible repeat (first | refine blk_drewN ?_ _ | refine blk_drew ?_ | refine blk_alloc ?_ _)); exact BK260.out) hb); have n1_ := Aside0.mk (below_step (by repeat (first | (with_reducible first | exact HB.out | apply below_alloc | apply pw_below_drewN | apply below_drew1 | refine below_set ?_ GE260.out) | exact HB.out)) hb); have n2_ := Aside0.mk (hbox); have n3_ := Aside0.mk ((by rw [hg]; exact (below_size (by repeat (first | (with_reducible first | exact HB.out | apply below_alloc | apply pw_below_drewN | apply below_drew1 | refine below_set ?_ GE260.out) | exact HB.out))) : w.heap.size ≤ gb262)); have n4_ := Aside0.mk ((by rw [hg]; exact (below_size (by repeat (first | (with_reducible first | exact HB.out | apply below_alloc | apply pw_below_drewN | apply below_drew1 | refine below_set ?_ GE260.out) | exact HB.out))) : w.heap.size ≤ gb262)); have n5_ := Aside0.mk ((by rw [hg]; exact Nat.ne_of_lt (blk_lt (g := gb260) (o := .cells #[.int .i64 a0_0, .int .i64 a0_1, .slice (some ad261) l0_2.length c0_2] 42 (0, 0)) (by (with_reducible repeat (first | refine blk_drewN ?_ _ | refine blk_drew ?_ | refine blk_alloc ?_ _)); exact BK260.out)) : gb260 ≠ gb262)); have n6_ := Aside0.mk ((by rw [hg]; exact Nat.ne_of_gt (blk_lt (g := gb260) (o := .cells #[.int .i64 a0_0, .int .i64 a0_1, .slice (some ad261) l0_2.length c0_2] 42 (0, 0)) (by (with_reducible repeat (first | refine blk_drewN ?_ _ | refine blk_drew ?_ | refine blk_alloc ?_ _)); exact BK260.out)) : gb262 ≠ gb260)); clear BK260; clear HB; have BK260 := n0_; have HB := n1_; have BK262 := n2_; have GW262 := n3_; have GE262 := n4_; have NB260_262 := n5_; have NB262_260 := n6_; clear n0_ n1_ n2_ n3_ n4_ n5_ n6_; clear hb hbox hg; have hnb39 := NB262_260.out; have hnc39 := NB260_262.out; have hcz40_0 : w38.cell? ⟨gb262, 0, none⟩ = some (.int .i64 0) := (blk_cell BK262.out 0).trans rfl; have hcz40_1 : w38.cell? ⟨gb262, 1, none⟩ = some (.int .i64 0) := (blk_cell BK262.out 1).trans rfl; have hcz40_2 : w38.cell? ⟨gb262, 2, none⟩ = some (.int .i64 0) := (blk_cell BK262.out 2).trans rfl; have hcz40_3 : w38.cell? ⟨gb262, 3, none⟩ = some (.int .i64 0) := (blk_cell BK262.out 3).trans rfl; have hcz40_4 : w38.cell? ⟨gb262, 4, none⟩ = some (.int .i64 0) := (blk_cell BK262.out 4).trans rfl; have hcz40_5 : w38.cell? ⟨gb262, 5, none⟩ = some (.int .i64 0) := (blk_cell BK262.out 5).trans rfl; have hcz40_6 : w38.cell? ⟨gb262, 6, none⟩ = some (.slice none 0 0) := (blk_cell BK262.out 6).trans rfl; have hcz40_7 : w38.cell? ⟨gb262, 7, none⟩ = some (.slice none 0 0) := (blk_cell BK262.out 7).trans rfl; have hfz40_0 := blk_frozen BK262.out 0; have hfz40_1 := blk_frozen BK262.out 1; have hfz40_2 := blk_frozen BK262.out 2; have hfz40_3 := blk_frozen BK262.out 3; have hfz40_4 := blk_frozen BK262.out 4; have hfz40_5 := blk_frozen BK262.out 5; have hfz40_6 := blk_frozen BK262.out 6; have hfz40_7 := blk_frozen BK262.out 7; have hcz41_0 : w38.cell? ⟨gb260, 0, none⟩ = some (.int .i64 a0_0) := (blk_cell BK260.out 0).trans rfl; have hcz41_1 : w38.cell? ⟨gb260, 1, none⟩ = some (.int .i64 a0_1) := (blk_cell BK260.out 1).trans rfl; have hcz41_2 : w38.cell? ⟨gb260, 2, none⟩ = some (.slice (some ad261) l0_2.length c0_2) := (blk_cell BK260.out 2).trans rfl; have hfz41_0 := blk_frozen BK260.out 0; have hfz41_1 := blk_frozen BK260.out 1; have hfz41_2 := blk_frozen BK260.out 2))
                            go_roundg k2
                            case measure => have := HJ4.out; have := HK2.out; omega
                            case rel => exact ⟨((rd_T26 l0_2 x37_2).f0), (wrap64 (x37_2 + 1)), (by first | rfl | (simp; done) | (simp [*]; done)), (by first | rfl | (simp; done) | (simp [*]; done)), H', ⟨by have := HJ4.out; have := HK2.out; omega⟩, ⟨by (with_reducible repeat (first | refine blk_drewN ?_ _ | refine blk_drew ?_ | refine blk_alloc ?_ _)); refine blk_far ?_ NB260_262.out _; (with_reducible repeat (first | refine blk_drewN ?_ _ | refine blk_drew ?_ | refine blk_alloc ?_ _)); refine blk_far ?_ NB260_262.out _; (with_reducible repeat (first | refine blk_drewN ?_ _ | refine blk_drew ?_ | refine blk_alloc ?_ _)); refine blk_far ?_ NB260_262.out _; (with_reducible repeat (first | refine blk_drewN ?_ _ | refine blk_drew ?_ | refine blk_alloc ?_ _)); refine blk_far ?_ NB260_262.out _; (with_reducible repeat (first | refine blk_drewN ?_ _ | refine blk_drew ?_ | refine blk_alloc ?_ _)); refine blk_far ?_ NB260_262.out _; (with_reducible repeat (first | refine blk_drewN ?_ _ | refine blk_drew ?_ | refine blk_alloc ?_ _)); refine blk_far ?_ NB260_262.out _; (with_reducible repeat (first | refine blk_drewN ?_ _ | refine blk_drew ?_ | refine blk_alloc ?_ _)); refine blk_far ?_ NB260_262.out _; (with_reducible repeat (first | refine blk_drewN ?_ _ | refine blk_drew ?_ | refine blk_alloc ?_ _)); refine blk_far ?_ NB260_262.out _; (with_reducible repeat (first | refine blk_drewN ?_ _ | refine blk_drew ?_ | refine blk_alloc ?_ _)); exact BK260.out⟩, ⟨by repeat (first | (with_reducible first | exact HB.out | apply below_alloc | apply pw_below_drewN | apply below_drew1 | refine below_set ?_ GE260.out | refine below_set ?_ GE262.out) | exact HB.out)⟩⟩
                    · rw [if_neg c22] at H
                      have c22b0 : (((rd_T26 l0_2 x37_2).f1.f0) == a0_0) = false := beq_eq_false_iff_ne.mpr c22
                      have c22b1 : (((rd_T26 l0_2 x37_2).f1.f0) != a0_0) = true := bne_iff_ne.mpr c22
                      obtain rfl := Option.some.inj H
                      have p261 : 0 ≤ (x37_2 : Int) := of_decide_eq_true (by first | (with_reducible assumption) | assumption)
                      have q261 : x37_2 < (l0_2.length : Int) := of_decide_eq_true (by first | (with_reducible assumption) | assumption)
                      obtain ⟨ad261, A261_6, c261_6, A261_7, c261_7, e261, hx261_0, hx261_1, hx261_2, hx261_3, hx261_4, hx261_5, hx261_6, hx261_7, hl261_6, hi261_6, hl261_7, hi261_7⟩ := at_T26 HR0_2.out x37_2 p261 q261
                      cases e261
                      replace hx261_0 := (HB.out.cell (World.block_lt_of_cell? w _ hx261_0)).trans hx261_0
                      replace hx261_1 := (HB.out.cell (World.block_lt_of_cell? w _ hx261_1)).trans hx261_1
                      replace hx261_2 := (HB.out.cell (World.block_lt_of_cell? w _ hx261_2)).trans hx261_2
                      replace hx261_3 := (HB.out.cell (World.block_lt_of_cell? w _ hx261_3)).trans hx261_3
                      replace hx261_4 := (HB.out.cell (World.block_lt_of_cell? w _ hx261_4)).trans hx261_4
                      replace hx261_5 := (HB.out.cell (World.block_lt_of_cell? w _ hx261_5)).trans hx261_5
                      replace hx261_6 := (HB.out.cell (World.block_lt_of_cell? w _ hx261_6)).trans hx261_6
                      replace hx261_7 := (HB.out.cell (World.block_lt_of_cell? w _ hx261_7)).trans hx261_7
                      have HR261_6 := Aside0.mk hi261_6
                      have HC261_6 := Aside0.mk hl261_6
                      clear hi261_6 hl261_6
                      have HR261_7 := Aside0.mk hi261_7
                      have HC261_7 := Aside0.mk hl261_7
                      clear hi261_7 hl261_7
                      replace p261 := eq_true p261
                      replace q261 := eq_true q261
                      go_wp2_with (first | ((with_reducible refine gate_dst (N := 5) rfl ?_); (try (refine gate_guard (by rfl) ?_; dsimp only)); refine box_event ?hg (N := 5) ?hd (cs := #[.int .i64 0, .int .i64 0, .int .i64 0, .int .i64 0, .int .i64 0, .int .i64 0, .slice none 0 0, .slice none 0 0]) (t := 26) ?hr ?_; (case hd => rfl); (case hg => rfl); (case hr => first | (go_simp; done) | (go_simp; rfl)); intro gb262 hg w42 hbox hb; have n0_ := Aside0.mk (blk_below (g := gb260) (o := .cells #[.int .i64 a0_0, .int .i64 a0_1, .slice (some ad261) l0_2.length c0_2] 42 (0, 0)) (by (with_reducible repeat (first | refine blk_drewN ?_ _ | refine blk_drew ?_ | refine blk_alloc ?_ _)); exact BK260.out) hb); have n1_ := Aside0.mk (below_step (by repeat (first | (with_reducible first | exact HB.out | apply below_alloc | apply pw_below_drewN | apply below_drew1 | refine below_set ?_ GE260.out) | exact HB.out)) hb); have n2_ := Aside0.mk (hbox); have n3_ := Aside0.mk ((by rw [hg]; exact (below_size (by repeat (first | (with_reducible first | exact HB.out | apply below_alloc | apply pw_below_drewN | apply below_drew1 | refine below_set ?_ GE260.out) | exact HB.out))) : w.heap.size ≤ gb262)); have n4_ := Aside0.mk ((by rw [hg]; exact (below_size (by repeat (first | (with_reducible first | exact HB.out | apply below_alloc | apply pw_below_drewN | apply below_drew1 | refine below_set ?_ GE260.out) | exact HB.out))) : w.heap.size ≤ gb262)); have n5_ := Aside0.mk ((by rw [hg]; exact Nat.ne_of_lt (blk_lt (g := gb260) (o := .cells #[.int .i64 a0_0, .int .i64 a0_1, .slice (some ad261) l0_2.length c0_2] 42 (0, 0)) (by (with_reducible repeat (first | refine blk_drewN ?_ _ | refine blk_drew ?_ | refine blk_alloc ?_ _)); exact BK260.out)) : gb260 ≠ gb262)); have n6_ := Aside0.mk ((by rw [hg]; exact Nat.ne_of_gt (blk_lt (g := gb260) (o := .cells #[.int .i64 a0_0, .int .i64 a0_1, .slice (some ad261) l0_2.length c0_2] 42 (0, 0)) (by (with_reducible repeat (first | refine blk_drewN ?_ _ | refine blk_drew ?_ | refine blk_alloc ?_ _)); exact BK260.out)) : gb262 ≠ gb260)); clear BK260; clear HB; have BK260 := n0_; have HB := n1_; have BK262 := n2_; have GW262 := n3_; have GE262 := n4_; have NB260_262 := n5_; have NB262_260 := n6_; clear n0_ n1_ n2_ n3_ n4_ n5_ n6_; clear hb hbox hg; have hnb43 := NB262_260.out; have hnc43 := NB260_262.out; have hcz44_0 : w42.cell? ⟨gb262, 0, none⟩ = some (.int .i64 0) := (blk_cell BK262.out 0).trans rfl; have hcz44_1 : w42.cell? ⟨gb262, 1, none⟩ = some (.int .i64 0) := (blk_cell BK262.out 1).trans rfl; have hcz44_2 : w42.cell? ⟨gb262, 2, none⟩ = some (.int .i64 0) := (blk_cell BK262.out 2).trans rfl; have hcz44_3 : w42.cell? ⟨gb262, 3, none⟩ = some (.int .i64 0) := (blk_cell BK262.out 3).trans rfl; have hcz44_4 : w42.cell? ⟨gb262, 4, none⟩ = some (.int .i64 0) := (blk_cell BK262.out 4).trans rfl; have hcz44_5 : w42.cell? ⟨gb262, 5, none⟩ = some (.int .i64 0) := (blk_cell BK262.out 5).trans rfl; have hcz44_6 : w42.cell? ⟨gb262, 6, none⟩ = some (.slice none 0 0) := (blk_cell BK262.out 6).trans rfl; have hcz44_7 : w42.cell? ⟨gb262, 7, none⟩ = some (.slice none 0 0) := (blk_cell BK262.out 7).trans rfl; have hfz44_0 := blk_frozen BK262.out 0; have hfz44_1 := blk_frozen BK262.out 1; have hfz44_2 := blk_frozen BK262.out 2; have hfz44_3 := blk_frozen BK262.out 3; have hfz44_4 := blk_frozen BK262.out 4; have hfz44_5 := blk_frozen BK262.out 5; have hfz44_6 := blk_frozen BK262.out 6; have hfz44_7 := blk_frozen BK262.out 7; have hcz45_0 : w42.cell? ⟨gb260, 0, none⟩ = some (.int .i64 a0_0) := (blk_cell BK260.out 0).trans rfl; have hcz45_1 : w42.cell? ⟨gb260, 1, none⟩ = some (.int .i64 a0_1) := (blk_cell BK260.out 1).trans rfl; have hcz45_2 : w42.cell? ⟨gb260, 2, none⟩ = some (.slice (some ad261) l0_2.length c0_2) := (blk_cell BK260.out 2).trans rfl; have hfz45_0 := blk_frozen BK260.out 0; have hfz45_1 := blk_frozen BK260.out 1; have hfz45_2 := blk_frozen BK260.out 2))
                      go_ret
                      exact ⟨by first | rfl | (simp [errW_none, errW_some] <;> rfl) | (simp [*, errW_none, errW_some] <;> rfl), by repeat (first | (with_reducible first | exact HB.out | apply below_alloc | apply pw_below_drewN | apply below_drew1 | refine below_set ?_ GE260.out | refine below_set ?_ GE262.out) | exact HB.out)⟩
                  · rw [if_neg c21] at H
                    exact absurd H (by simp)
                · rw [if_neg c20] at H
                  exact absurd H (by simp)
              · rw [if_neg c19] at H
                have c19b0 : decide (x37_2 < (l0_2.length : Int)) = false := decide_eq_false c19
                clear c19
                obtain rfl := Option.some.inj H
                go_wp2
                go_ret
                exact ⟨by first | rfl | (simp [errW_none, errW_some] <;> rfl) | (simp [*, errW_none, errW_some] <;> rfl), by repeat (first | (with_reducible first | exact HB.out | apply below_alloc | apply pw_below_drewN | apply below_drew1 | refine below_set ?_ GE260.out) | exact HB.out)⟩

end Go.Proofs.Ytnmmkgagbfniiaa.A
