/- Made by a program of this session (drv.py) over the kit's printer: plain functions, and the proofs that the program's functions come to their answers. No condition. -/
import Derived.Test.YtnmmkgagbfniiaaAxownwords
import Derived.Test.YtnmmkgagbfniiaaAx0
namespace Go.Proofs.Ytnmmkgagbfniiaa.A
open Go.RowKit Go.Proofs.YtnmmkgagbfniiaaW.PrintWords Go.Proofs.YtnmmkgagbfniiaaW.PrintLast Go.Proofs.YtnmmkgagbfniiaaW.PrintMore
attribute [local go_sem] max2_int min2_int max_two min_two max_three min_three max_four min_four   -- for this text's walks alone
set_option linter.unusedVariables false
set_option linter.unusedSimpArgs false

/-! ### interleaveref11_Fits: function 53 -/
mutual
def interleaveref11_Fits.j0 : Nat → Bool → Int → Int → List (S26) → Option (Int)
  | 0, _, _, _, _ => none
  | k + 1, x32, x303000, x303001, x303002 => if x32 = true then (some 1) else (interleaveref11_Fits.l0 k 0 x303000 x303001 x303002)
def interleaveref11_Fits.l0 : Nat → Int → Int → Int → List (S26) → Option (Int)
  | 0, _, _, _, _ => none
  | k + 1, x3, x303000, x303001, x303002 => if x3 < (x303002.length : Int) then (if 0 ≤ x3 then (if ((rd_T26 x303002 x3).f1.f0) = x303000 then (if ((rd_T26 x303002 x3).f0) < 0 then (some 1) else (if x3 > 0 then (if 0 ≤ (wrap64 (x3 - 1)) then (if (wrap64 (x3 - 1)) < (x303002.length : Int) then (if ((rd_T26 x303002 x3).f0) ≤ ((rd_T26 x303002 (wrap64 (x3 - 1))).f0) then (some 1) else (if (((rd_T26 x303002 x3).f1.f5).length : Int) > 400 then (some 1) else (if (((rd_T26 x303002 x3).f1.f6).length : Int) > 400 then (some 1) else (interleaveref11_Fits.l0 k (wrap64 (x3 + 1)) x303000 x303001 x303002)))) else (none)) else (none)) else (if (((rd_T26 x303002 x3).f1.f5).length : Int) > 400 then (some 1) else (if (((rd_T26 x303002 x3).f1.f6).length : Int) > 400 then (some 1) else (interleaveref11_Fits.l0 k (wrap64 (x3 + 1)) x303000 x303001 x303002))))) else (some 1)) else (none)) else (some 0)
end
def interleaveref11_Fits.f (k : Nat) (a0_0 : Int) (a0_1 : Int) (l0_2 : List (S26)) : Option (Int) := if (l0_2.length : Int) > 64 then (some 2) else (if (l0_2.length : Int) = 0 then (interleaveref11_Fits.j0 k true a0_0 a0_1 l0_2) else (if a0_0 < 0 then (interleaveref11_Fits.j0 k true a0_0 a0_1 l0_2) else (if a0_0 ≥ 4 then (interleaveref11_Fits.j0 k true a0_0 a0_1 l0_2) else (if a0_1 < 0 then (interleaveref11_Fits.j0 k true a0_0 a0_1 l0_2) else (interleaveref11_Fits.j0 k (decide (a0_1 > 400)) a0_0 a0_1 l0_2)))))
theorem interleaveref11_Fits.mono_l : ∀ k, (∀ y0 y1 y2 y3, LeO (interleaveref11_Fits.j0 k y0 y1 y2 y3) (interleaveref11_Fits.j0 (k + 1) y0 y1 y2 y3)) ∧ (∀ y0 y1 y2 y3, LeO (interleaveref11_Fits.l0 k y0 y1 y2 y3) (interleaveref11_Fits.l0 (k + 1) y0 y1 y2 y3))
  | 0 => ⟨fun _ _ _ _ r h => by simp [interleaveref11_Fits.j0] at h, fun _ _ _ _ r h => by simp [interleaveref11_Fits.l0] at h⟩
  | k + 1 => by
    obtain ⟨ih0, ih1⟩ := interleaveref11_Fits.mono_l k
    refine ⟨?_, ?_⟩
    · intro y0 y1 y2 y3
      unfold interleaveref11_Fits.j0
      repeat' first
      | (with_reducible exact ih0 _ _ _ _)
      | (with_reducible exact ih1 _ _ _ _)
      | (with_reducible exact LeO.refl _)
      | (with_reducible exact LeO.none _)
      | (with_reducible refine LeO.ite ?_ ?_)
      | (with_reducible refine LeO.bind ?_ (fun _ => ?_))
      | exact ih0 _ _ _ _
      | exact ih1 _ _ _ _
      | exact LeO.none _
      | refine LeO.ite ?_ ?_
      | refine LeO.bind ?_ (fun _ => ?_)
    · intro y0 y1 y2 y3
      unfold interleaveref11_Fits.l0
      repeat' first
      | (with_reducible exact ih0 _ _ _ _)
      | (with_reducible exact ih1 _ _ _ _)
      | (with_reducible exact LeO.refl _)
      | (with_reducible exact LeO.none _)
      | (with_reducible refine LeO.ite ?_ ?_)
      | (with_reducible refine LeO.bind ?_ (fun _ => ?_))
      | exact ih0 _ _ _ _
      | exact ih1 _ _ _ _
      | exact LeO.none _
      | refine LeO.ite ?_ ?_
      | refine LeO.bind ?_ (fun _ => ?_)
theorem interleaveref11_Fits.mono : ∀ a0 a1 a2 k, LeO (interleaveref11_Fits.f k a0 a1 a2) (interleaveref11_Fits.f (k + 1) a0 a1 a2) := by
  intro a0 a1 a2 k
  obtain ⟨ih0, ih1⟩ := interleaveref11_Fits.mono_l k
  unfold interleaveref11_Fits.f
  repeat' first
      | (with_reducible exact ih0 _ _ _ _)
      | (with_reducible exact ih1 _ _ _ _)
      | (with_reducible exact LeO.refl _)
      | (with_reducible exact LeO.none _)
      | (with_reducible refine LeO.ite ?_ ?_)
      | (with_reducible refine LeO.bind ?_ (fun _ => ?_))
      | exact ih0 _ _ _ _
      | exact ih1 _ _ _ _
      | exact LeO.none _
      | refine LeO.ite ?_ ?_
      | refine LeO.bind ?_ (fun _ => ?_)
set_option maxHeartbeats 8000000 in
set_option maxRecDepth 100000 in
theorem interleaveref11_Fits.calls (k : Nat) (a0_0 : Int) (a0_1 : Int) (A0_2 : Option Addr) (c0_2 : Nat) (l0_2 : List (S26)) (r : Int) (w : World) (hr0_2 : Kd.C k26 w A0_2 l0_2.length l0_2) (hc0_2 : l0_2.length ≤ c0_2) (h : interleaveref11_Fits.f k a0_0 a0_1 l0_2 = some r) :
    Calls Try.prog 53 #[.agg #[.int .i64 a0_0, .int .i64 a0_1, .slice A0_2 l0_2.length c0_2]] w fun e w' => e = .returned (.int .i64 r) ∧ Below w.heap.size w w' := by
  have hu42 := Try.underlying42
  have hu26 := Try.underlying26
  have HR0_2 := Aside0.mk hr0_2
  have HC0_2 := Aside0.mk hc0_2
  clear hr0_2 hc0_2
  have HB := Aside0.mk (Below.refl w.heap.size w)
  have H : (if (l0_2.length : Int) > 64 then (some 2) else (if (l0_2.length : Int) = 0 then (interleaveref11_Fits.j0 k true a0_0 a0_1 l0_2) else (if a0_0 < 0 then (interleaveref11_Fits.j0 k true a0_0 a0_1 l0_2) else (if a0_0 ≥ 4 then (interleaveref11_Fits.j0 k true a0_0 a0_1 l0_2) else (if a0_1 < 0 then (interleaveref11_Fits.j0 k true a0_0 a0_1 l0_2) else (interleaveref11_Fits.j0 k (decide (a0_1 > 400)) a0_0 a0_1 l0_2)))))) = some r := h
  clear h
  by_cases c2 : (l0_2.length : Int) > 64
  · rw [if_pos c2] at H
    have c2b0 : decide (64 < (l0_2.length : Int)) = true := decide_eq_true c2
    have c2b1 : decide (64 < l0_2.length) = true := decide_eq_true (by omega)
    clear c2
    obtain rfl := Option.some.inj H
    go_enter Try.func53, Try.ntmps53
    go_wp2_with (first | ((with_reducible refine gate_dst (N := 1) rfl ?_); (try (refine gate_guard (by rfl) ?_; dsimp only)); refine box_event ?hg (N := 1) ?hd (cs := #[.int .i64 a0_0, .int .i64 a0_1, .slice A0_2 l0_2.length c0_2]) (t := 42) ?hr ?_; (case hd => rfl); (case hg => rfl); (case hr => first | (go_simp; done) | (go_simp; rfl)); intro gb302 hg w3 hbox hb; have n0_ := Aside0.mk (below_step (by repeat (first | (with_reducible first | exact HB.out | apply below_alloc | apply pw_below_drewN | apply below_drew1) | exact HB.out)) hb); have n1_ := Aside0.mk (hbox); have n2_ := Aside0.mk ((by rw [hg]; exact (below_size (by repeat (first | (with_reducible first | exact HB.out | apply below_alloc | apply pw_below_drewN | apply below_drew1) | exact HB.out))) : w.heap.size ≤ gb302)); have n3_ := Aside0.mk ((by rw [hg]; exact (below_size (by repeat (first | (with_reducible first | exact HB.out | apply below_alloc | apply pw_below_drewN | apply below_drew1) | exact HB.out))) : w.heap.size ≤ gb302)); clear HB; have HB := n0_; have BK302 := n1_; have GW302 := n2_; have GE302 := n3_; clear n0_ n1_ n2_ n3_; clear hb hbox hg; have hcz4_0 : w3.cell? ⟨gb302, 0, none⟩ = some (.int .i64 a0_0) := (blk_cell BK302.out 0).trans rfl; have hcz4_1 : w3.cell? ⟨gb302, 1, none⟩ = some (.int .i64 a0_1) := (blk_cell BK302.out 1).trans rfl; have hcz4_2 : w3.cell? ⟨gb302, 2, none⟩ = some (.slice A0_2 l0_2.length c0_2) := (blk_cell BK302.out 2).trans rfl; have hfz4_0 := blk_frozen BK302.out 0; have hfz4_1 := blk_frozen BK302.out 1; have hfz4_2 := blk_frozen BK302.out 2))
    repeat (go_quiet (first | ((with_reducible refine gate_dst (N := 1) rfl ?_); (try (refine gate_guard (by rfl) ?_; dsimp only)); refine box_event ?hg (N := 1) ?hd (cs := #[.int .i64 a0_0, .int .i64 a0_1, .slice A0_2 l0_2.length c0_2]) (t := 42) ?hr ?_; (case hd => rfl); (case hg => rfl); (case hr => first | (go_simp; done) | (go_simp; rfl)); intro gb302 hg w3 hbox hb; have n0_ := Aside0.mk (below_step (by repeat (first | (with_reducible first | exact HB.out | apply below_alloc | apply pw_below_drewN | apply below_drew1) | exact HB.out)) hb); have n1_ := Aside0.mk (hbox); have n2_ := Aside0.mk ((by rw [hg]; exact (below_size (by repeat (first | (with_reducible first | exact HB.out | apply below_alloc | apply pw_below_drewN | apply below_drew1) | exact HB.out))) : w.heap.size ≤ gb302)); have n3_ := Aside0.mk ((by rw [hg]; exact (below_size (by repeat (first | (with_reducible first | exact HB.out | apply below_alloc | apply pw_below_drewN | apply below_drew1) | exact HB.out))) : w.heap.size ≤ gb302)); clear HB; have HB := n0_; have BK302 := n1_; have GW302 := n2_; have GE302 := n3_; clear n0_ n1_ n2_ n3_; clear hb hbox hg; have hcz4_0 : w3.cell? ⟨gb302, 0, none⟩ = some (.int .i64 a0_0) := (blk_cell BK302.out 0).trans rfl; have hcz4_1 : w3.cell? ⟨gb302, 1, none⟩ = some (.int .i64 a0_1) := (blk_cell BK302.out 1).trans rfl; have hcz4_2 : w3.cell? ⟨gb302, 2, none⟩ = some (.slice A0_2 l0_2.length c0_2) := (blk_cell BK302.out 2).trans rfl; have hfz4_0 := blk_frozen BK302.out 0; have hfz4_1 := blk_frozen BK302.out 1; have hfz4_2 := blk_frozen BK302.out 2)); try go_wp2_with (first | ((with_reducible refine gate_dst (N := 1) rfl ?_); (try (refine gate_guard (by rfl) ?_; dsimp only)); refine box_event ?hg (N := 1) ?hd (cs := #[.int .i64 a0_0, .int .i64 a0_1, .slice A0_2 l0_2.length c0_2]) (t := 42) ?hr ?_; (case hd => rfl); (case hg => rfl); (case hr => first | (go_simp; done) | (go_simp; rfl)); intro gb302 hg w3 hbox hb; have n0_ := Aside0.mk (below_step (by repeat (first | (with_reducible first | exact HB.out | apply below_alloc | apply pw_below_drewN | apply below_drew1) | exact HB.out)) hb); have n1_ := Aside0.mk (hbox); have n2_ := Aside0.mk ((by rw [hg]; exact (below_size (by repeat (first | (with_reducible first | exact HB.out | apply below_alloc | apply pw_below_drewN | apply below_drew1) | exact HB.out))) : w.heap.size ≤ gb302)); have n3_ := Aside0.mk ((by rw [hg]; exact (below_size (by repeat (first | (with_reducible first | exact HB.out | apply below_alloc | apply pw_below_drewN | apply below_drew1) | exact HB.out))) : w.heap.size ≤ gb302)); clear HB; have HB := n0_; have BK302 := n1_; have GW302 := n2_; have GE302 := n3_; clear n0_ n1_ n2_ n3_; clear hb hbox hg; have hcz4_0 : w3.cell? ⟨gb302, 0, none⟩ = some (.int .i64 a0_0) := (blk_cell BK302.out 0).trans rfl; have hcz4_1 : w3.cell? ⟨gb302, 1, none⟩ = some (.int .i64 a0_1) := (blk_cell BK302.out 1).trans rfl; have hcz4_2 : w3.cell? ⟨gb302, 2, none⟩ = some (.slice A0_2 l0_2.length c0_2) := (blk_cell BK302.out 2).trans rfl; have hfz4_0 := blk_frozen BK302.out 0; have hfz4_1 := blk_frozen BK302.out 1; have hfz4_2 := blk_frozen BK302.out 2)))
    go_ret
    exact ⟨by first | rfl | (simp [errW_none, errW_some] <;> rfl) | (simp [*, errW_none, errW_some] <;> rfl), by repeat (first | (with_reducible first | exact HB.out | apply below_alloc | apply pw_below_drewN | apply below_drew1 | refine below_set ?_ GE302.out) | exact HB.out)⟩
  · rw [if_neg c2] at H
    have c2b0 : decide (64 < (l0_2.length : Int)) = false := decide_eq_false c2
    have c2b1 : decide (64 < l0_2.length) = false := decide_eq_false (by omega)
    clear c2
    have HC5 := Aside0.mk H
    clear H
    go_enter Try.func53, Try.ntmps53
    go_upto_region 3 with (first | ((with_reducible refine gate_dst (N := 1) rfl ?_); (try (refine gate_guard (by rfl) ?_; dsimp only)); refine box_event ?hg (N := 1) ?hd (cs := #[.int .i64 a0_0, .int .i64 a0_1, .slice A0_2 l0_2.length c0_2]) (t := 42) ?hr ?_; (case hd => rfl); (case hg => rfl); (case hr => first | (go_simp; done) | (go_simp; rfl)); intro gb302 hg w6 hbox hb; have n0_ := Aside0.mk (below_step (by repeat (first | (with_reducible first | exact HB.out | apply below_alloc | apply pw_below_drewN | apply below_drew1) | exact HB.out)) hb); have n1_ := Aside0.mk (hbox); have n2_ := Aside0.mk ((by rw [hg]; exact (below_size (by repeat (first | (with_reducible first | exact HB.out | apply below_alloc | apply pw_below_drewN | apply below_drew1) | exact HB.out))) : w.heap.size ≤ gb302)); have n3_ := Aside0.mk ((by rw [hg]; exact (below_size (by repeat (first | (with_reducible first | exact HB.out | apply below_alloc | apply pw_below_drewN | apply below_drew1) | exact HB.out))) : w.heap.size ≤ gb302)); clear HB; have HB := n0_; have BK302 := n1_; have GW302 := n2_; have GE302 := n3_; clear n0_ n1_ n2_ n3_; clear hb hbox hg; have hcz7_0 : w6.cell? ⟨gb302, 0, none⟩ = some (.int .i64 a0_0) := (blk_cell BK302.out 0).trans rfl; have hcz7_1 : w6.cell? ⟨gb302, 1, none⟩ = some (.int .i64 a0_1) := (blk_cell BK302.out 1).trans rfl; have hcz7_2 : w6.cell? ⟨gb302, 2, none⟩ = some (.slice A0_2 l0_2.length c0_2) := (blk_cell BK302.out 2).trans rfl; have hfz7_0 := blk_frozen BK302.out 0; have hfz7_1 := blk_frozen BK302.out 1; have hfz7_2 := blk_frozen BK302.out 2))
    repeat (go_quiet (first | ((with_reducible refine gate_dst (N := 1) rfl ?_); (try (refine gate_guard (by rfl) ?_; dsimp only)); refine box_event ?hg (N := 1) ?hd (cs := #[.int .i64 a0_0, .int .i64 a0_1, .slice A0_2 l0_2.length c0_2]) (t := 42) ?hr ?_; (case hd => rfl); (case hg => rfl); (case hr => first | (go_simp; done) | (go_simp; rfl)); intro gb302 hg w6 hbox hb; have n0_ := Aside0.mk (below_step (by repeat (first | (with_reducible first | exact HB.out | apply below_alloc | apply pw_below_drewN | apply below_drew1) | exact HB.out)) hb); have n1_ := Aside0.mk (hbox); have n2_ := Aside0.mk ((by rw [hg]; exact (below_size (by repeat (first | (with_reducible first | exact HB.out | apply below_alloc | apply pw_below_drewN | apply below_drew1) | exact HB.out))) : w.heap.size ≤ gb302)); have n3_ := Aside0.mk ((by rw [hg]; exact (below_size (by repeat (first | (with_reducible first | exact HB.out | apply below_alloc | apply pw_below_drewN | apply below_drew1) | exact HB.out))) : w.heap.size ≤ gb302)); clear HB; have HB := n0_; have BK302 := n1_; have GW302 := n2_; have GE302 := n3_; clear n0_ n1_ n2_ n3_; clear hb hbox hg; have hcz7_0 : w6.cell? ⟨gb302, 0, none⟩ = some (.int .i64 a0_0) := (blk_cell BK302.out 0).trans rfl; have hcz7_1 : w6.cell? ⟨gb302, 1, none⟩ = some (.int .i64 a0_1) := (blk_cell BK302.out 1).trans rfl; have hcz7_2 : w6.cell? ⟨gb302, 2, none⟩ = some (.slice A0_2 l0_2.length c0_2) := (blk_cell BK302.out 2).trans rfl; have hfz7_0 := blk_frozen BK302.out 0; have hfz7_1 := blk_frozen BK302.out 1; have hfz7_2 := blk_frozen BK302.out 2)); go_upto_region 3 with (first | ((with_reducible refine gate_dst (N := 1) rfl ?_); (try (refine gate_guard (by rfl) ?_; dsimp only)); refine box_event ?hg (N := 1) ?hd (cs := #[.int .i64 a0_0, .int .i64 a0_1, .slice A0_2 l0_2.length c0_2]) (t := 42) ?hr ?_; (case hd => rfl); (case hg => rfl); (case hr => first | (go_simp; done) | (go_simp; rfl)); intro gb302 hg w6 hbox hb; have n0_ := Aside0.mk (below_step (by repeat (first | (with_reducible first | exact HB.out | apply below_alloc | apply pw_below_drewN | apply below_drew1) | exact HB.out)) hb); have n1_ := Aside0.mk (hbox); have n2_ := Aside0.mk ((by rw [hg]; exact (below_size (by repeat (first | (with_reducible first | exact HB.out | apply below_alloc | apply pw_below_drewN | apply below_drew1) | exact HB.out))) : w.heap.size ≤ gb302)); have n3_ := Aside0.mk ((by rw [hg]; exact (below_size (by repeat (first | (with_reducible first | exact HB.out | apply below_alloc | apply pw_below_drewN | apply below_drew1) | exact HB.out))) : w.heap.size ≤ gb302)); clear HB; have HB := n0_; have BK302 := n1_; have GW302 := n2_; have GE302 := n3_; clear n0_ n1_ n2_ n3_; clear hb hbox hg; have hcz7_0 : w6.cell? ⟨gb302, 0, none⟩ = some (.int .i64 a0_0) := (blk_cell BK302.out 0).trans rfl; have hcz7_1 : w6.cell? ⟨gb302, 1, none⟩ = some (.int .i64 a0_1) := (blk_cell BK302.out 1).trans rfl; have hcz7_2 : w6.cell? ⟨gb302, 2, none⟩ = some (.slice A0_2 l0_2.length c0_2) := (blk_cell BK302.out 2).trans rfl; have hfz7_0 := blk_frozen BK302.out 0; have hfz7_1 := blk_frozen BK302.out 1; have hfz7_2 := blk_frozen BK302.out 2)))
    (try simp only [Act.put, List.setIfInBounds_toArray, List.set_cons_zero, List.set_cons_succ])
    go_cut [32] (fun v32 wc => ∃ (kq : Nat) (x32_4 : Bool), v32 = .bool x32_4 ∧ Aside0 (interleaveref11_Fits.j0 kq x32_4 a0_0 a0_1 l0_2 = some r) ∧ Aside0 (kq ≤ k) ∧ Aside0 (wc.heap[gb302]? = some (.cells #[.int .i64 a0_0, .int .i64 a0_1, (.slice A0_2 l0_2.length c0_2)] 42 (0, 0))) ∧ Aside0 (Below w.heap.size w wc))
    case first =>
      have H := HC5.out
      clear HC5
      by_cases c8 : (l0_2.length : Int) = 0
      · rw [if_pos c8] at H
        have c8b0 : ((l0_2.length : Int) == 0) = true := beq_iff_eq.mpr c8
        have c8b1 : ((l0_2.length : Int) != 0) = false := bne_eq_false_iff_eq.mpr c8
        clear c8
        (first | rw [c8b0] | (simp only [i64_w, i32_w]; rw [c8b0]) | skip)
        have H' := Aside0.mk H
        clear H
        have hcz9_0 : w6.cell? ⟨gb302, 0, none⟩ = some (.int .i64 a0_0) := (blk_cell BK302.out 0).trans rfl
        have hcz9_1 : w6.cell? ⟨gb302, 1, none⟩ = some (.int .i64 a0_1) := (blk_cell BK302.out 1).trans rfl
        have hcz9_2 : w6.cell? ⟨gb302, 2, none⟩ = some (.slice A0_2 l0_2.length c0_2) := (blk_cell BK302.out 2).trans rfl
        have hfz9_0 := blk_frozen BK302.out 0
        have hfz9_1 := blk_frozen BK302.out 1
        have hfz9_2 := blk_frozen BK302.out 2
        go_wp2
        repeat (go_quiet (fail); try go_wp2)
        go_meet
        case rel => exact ⟨_, (true), (by first | rfl | (simp; done) | (simp [*]; done)), H', ⟨by first | omega | exact Nat.le_refl _⟩, ⟨by (with_reducible repeat (first | refine blk_drewN ?_ _ | refine blk_drew ?_ | refine blk_alloc ?_ _)); exact BK302.out⟩, ⟨by repeat (first | (with_reducible first | exact HB.out | apply below_alloc | apply pw_below_drewN | apply below_drew1 | refine below_set ?_ GE302.out) | exact HB.out)⟩⟩
      · rw [if_neg c8] at H
        have c8b0 : ((l0_2.length : Int) == 0) = false := beq_eq_false_iff_ne.mpr c8
        have c8b1 : ((l0_2.length : Int) != 0) = true := bne_iff_ne.mpr c8
        have c8b2 : ¬ (l0_2 = []) := fun h_ => c8 (by rw [h_]; rfl)
        (first | rw [c8b0] | (simp only [i64_w, i32_w]; rw [c8b0]) | skip)
        by_cases c10 : a0_0 < 0
        · rw [if_pos c10] at H
          have c10b0 : decide (a0_0 < 0) = true := decide_eq_true c10
          clear c10
          have H' := Aside0.mk H
          clear H
          have hcz11_0 : w6.cell? ⟨gb302, 0, none⟩ = some (.int .i64 a0_0) := (blk_cell BK302.out 0).trans rfl
          have hcz11_1 : w6.cell? ⟨gb302, 1, none⟩ = some (.int .i64 a0_1) := (blk_cell BK302.out 1).trans rfl
          have hcz11_2 : w6.cell? ⟨gb302, 2, none⟩ = some (.slice A0_2 l0_2.length c0_2) := (blk_cell BK302.out 2).trans rfl
          have hfz11_0 := blk_frozen BK302.out 0
          have hfz11_1 := blk_frozen BK302.out 1
          have hfz11_2 := blk_frozen BK302.out 2
          go_wp2
          repeat (go_quiet (fail); try go_wp2)
          go_meet
          case rel => exact ⟨_, (true), (by first | rfl | (simp; done) | (simp [*]; done)), H', ⟨by first | omega | exact Nat.le_refl _⟩, ⟨by (with_reducible repeat (first | refine blk_drewN ?_ _ | refine blk_drew ?_ | refine blk_alloc ?_ _)); exact BK302.out⟩, ⟨by repeat (first | (with_reducible first | exact HB.out | apply below_alloc | apply pw_below_drewN | apply below_drew1 | refine below_set ?_ GE302.out) | exact HB.out)⟩⟩
        · rw [if_neg c10] at H
          have c10b0 : decide (a0_0 < 0) = false := decide_eq_false c10
          clear c10
          by_cases c12 : a0_0 ≥ 4
          · rw [if_pos c12] at H
            have c12b0 : decide (4 ≤ a0_0) = true := decide_eq_true c12
            clear c12
            have H' := Aside0.mk H
            clear H
            have hcz13_0 : w6.cell? ⟨gb302, 0, none⟩ = some (.int .i64 a0_0) := (blk_cell BK302.out 0).trans rfl
            have hcz13_1 : w6.cell? ⟨gb302, 1, none⟩ = some (.int .i64 a0_1) := (blk_cell BK302.out 1).trans rfl
            have hcz13_2 : w6.cell? ⟨gb302, 2, none⟩ = some (.slice A0_2 l0_2.length c0_2) := (blk_cell BK302.out 2).trans rfl
            have hfz13_0 := blk_frozen BK302.out 0
            have hfz13_1 := blk_frozen BK302.out 1
            have hfz13_2 := blk_frozen BK302.out 2
            go_wp2
            repeat (go_quiet (fail); try go_wp2)
            go_meet
            case rel => exact ⟨_, (true), (by first | rfl | (simp; done) | (simp [*]; done)), H', ⟨by first | omega | exact Nat.le_refl _⟩, ⟨by (with_reducible repeat (first | refine blk_drewN ?_ _ | refine blk_drew ?_ | refine blk_alloc ?_ _)); exact BK302.out⟩, ⟨by repeat (first | (with_reducible first | exact HB.out | apply below_alloc | apply pw_below_drewN | apply below_drew1 | refine below_set ?_ GE302.out) | exact HB.out)⟩⟩
          · rw [if_neg c12] at H
            have c12b0 : decide (4 ≤ a0_0) = false := decide_eq_false c12
            clear c12
            by_cases c14 : a0_1 < 0
            · rw [if_pos c14] at H
              have c14b0 : decide (a0_1 < 0) = true := decide_eq_true c14
              clear c14
              have H' := Aside0.mk H
              clear H
              have hcz15_0 : w6.cell? ⟨gb302, 0, none⟩ = some (.int .i64 a0_0) := (blk_cell BK302.out 0).trans rfl
              have hcz15_1 : w6.cell? ⟨gb302, 1, none⟩ = some (.int .i64 a0_1) := (blk_cell BK302.out 1).trans rfl
              have hcz15_2 : w6.cell? ⟨gb302, 2, none⟩ = some (.slice A0_2 l0_2.length c0_2) := (blk_cell BK302.out 2).trans rfl
              have hfz15_0 := blk_frozen BK302.out 0
              have hfz15_1 := blk_frozen BK302.out 1
              have hfz15_2 := blk_frozen BK302.out 2
              go_wp2
              repeat (go_quiet (fail); try go_wp2)
              go_meet
              case rel => exact ⟨_, (true), (by first | rfl | (simp; done) | (simp [*]; done)), H', ⟨by first | omega | exact Nat.le_refl _⟩, ⟨by (with_reducible repeat (first | refine blk_drewN ?_ _ | refine blk_drew ?_ | refine blk_alloc ?_ _)); exact BK302.out⟩, ⟨by repeat (first | (with_reducible first | exact HB.out | apply below_alloc | apply pw_below_drewN | apply below_drew1 | refine below_set ?_ GE302.out) | exact HB.out)⟩⟩
            · rw [if_neg c14] at H
              have c14b0 : decide (a0_1 < 0) = false := decide_eq_false c14
              clear c14
              have H' := Aside0.mk H
              clear H
              have hcz16_0 : w6.cell? ⟨gb302, 0, none⟩ = some (.int .i64 a0_0) := (blk_cell BK302.out 0).trans rfl
              have hcz16_1 : w6.cell? ⟨gb302, 1, none⟩ = some (.int .i64 a0_1) := (blk_cell BK302.out 1).trans rfl
              have hcz16_2 : w6.cell? ⟨gb302, 2, none⟩ = some (.slice A0_2 l0_2.length c0_2) := (blk_cell BK302.out 2).trans rfl
              have hfz16_0 := blk_frozen BK302.out 0
              have hfz16_1 := blk_frozen BK302.out 1
              have hfz16_2 := blk_frozen BK302.out 2
              go_wp2
              repeat (go_quiet (fail); try go_wp2)
              go_meet
              case rel => exact ⟨_, (decide (a0_1 > 400)), (by first | rfl | (simp; done) | (simp [*]; done)), H', ⟨by first | omega | exact Nat.le_refl _⟩, ⟨by (with_reducible repeat (first | refine blk_drewN ?_ _ | refine blk_drew ?_ | refine blk_alloc ?_ _)); exact BK302.out⟩, ⟨by repeat (first | (with_reducible first | exact HB.out | apply below_alloc | apply pw_below_drewN | apply below_drew1 | refine below_set ?_ GE302.out) | exact HB.out)⟩⟩
    case rest =>
      clear HC5
      try clear c1
      try clear c2
      try clear c2b0
      try clear c2b1
      try clear p2
      try clear c5
      try clear c8
      try clear c8b0
      try clear c8b1
      try clear c8b2
      try clear c10
      try clear c10b0
      try clear c12
      try clear c12b0
      try clear c14
      try clear c14b0
      try clear hcz11_0
      try clear hcz11_1
      try clear hcz11_2
      try clear hcz13_0
      try clear hcz13_1
      try clear hcz13_2
      try clear hcz15_0
      try clear hcz15_1
      try clear hcz15_2
      try clear hcz16_0
      try clear hcz16_1
      try clear hcz16_2
      try clear hcz4_0
      try clear hcz4_1
      try clear hcz4_2
      try clear hcz7_0
      try clear hcz7_1
      try clear hcz7_2
      try clear hcz9_0
      try clear hcz9_1
      try clear hcz9_2
      try clear hfz11_0
      try clear hfz11_1
      try clear hfz11_2
      try clear hfz13_0
      try clear hfz13_1
      try clear hfz13_2
      try clear hfz15_0
      try clear hfz15_1
      try clear hfz15_2
      try clear hfz16_0
      try clear hfz16_1
      try clear hfz16_2
      try clear hfz4_0
      try clear hfz4_1
      try clear hfz4_2
      try clear hfz7_0
      try clear hfz7_1
      try clear hfz7_2
      try clear hfz9_0
      try clear hfz9_1
      try clear hfz9_2
      obtain ⟨kq, x32_4, rfl, HA, HJ4, BK302, HB⟩ := hcut
      cases kq with
      | zero => exact absurd HA.out (by simp [interleaveref11_Fits.j0])
      | succ kj4 =>
        have H := HA.out
        clear HA
        simp only [interleaveref11_Fits.j0] at H
        by_cases c17 : x32_4 = true
        · subst c17
          have H1 : (some 1) = some r := by rw [if_pos rfl] at H; exact H
          clear H
          have H := H1
          clear H1
          obtain rfl := Option.some.inj H
          go_wp2
          repeat (go_quiet (fail); try go_wp2)
          go_ret
          exact ⟨by first | rfl | (simp [errW_none, errW_some] <;> rfl) | (simp [*, errW_none, errW_some] <;> rfl), by repeat (first | (with_reducible first | exact HB.out | apply below_alloc | apply pw_below_drewN | apply below_drew1 | refine below_set ?_ GE302.out) | exact HB.out)⟩
        · replace c17 := Bool.eq_false_iff.mpr c17
          subst c17
          have H1 : (interleaveref11_Fits.l0 kj4 0 a0_0 a0_1 l0_2) = some r := by rw [if_neg (show ¬ (false = true) by decide)] at H; exact H
          clear H
          have H := H1
          clear H1
          have H' := Aside0.mk H
          clear H
          go_wp2
          repeat (go_quiet (fail); try go_wp2)
          go_loopg [3] kj4 (fun kq v3 w' => ∃ (x3_2 : Int), v3 = .int .i64 x3_2 ∧ Aside0 (interleaveref11_Fits.l0 kq x3_2 a0_0 a0_1 l0_2 = some r) ∧ Aside0 (kq ≤ kj4) ∧ Aside0 (w'.heap[gb302]? = some (.cells #[.int .i64 a0_0, .int .i64 a0_1, (.slice A0_2 l0_2.length c0_2)] 42 (0, 0))) ∧ Aside0 (Below w.heap.size w w'))
          case atStart => exact ⟨(0), (by first | rfl | (simp; done) | (simp [*]; done)), H', ⟨Nat.le_refl _⟩, ⟨by (with_reducible repeat (first | refine blk_drewN ?_ _ | refine blk_drew ?_ | refine blk_alloc ?_ _)); exact BK302.out⟩, ⟨by repeat (first | (with_reducible first | exact HB.out | apply below_alloc | apply pw_below_drewN | apply below_drew1 | refine below_set ?_ GE302.out) | exact HB.out)⟩⟩
          case round =>
            clear H'
            try clear c1
            try clear c2
            try clear c2b0
            try clear c2b1
            try clear p2
            try clear c5
            try clear c8
            try clear c8b0
            try clear c8b1
            try clear c8b2
            try clear c10
            try clear c10b0
            try clear c12
            try clear c12b0
            try clear c14
            try clear c14b0
            try clear c17
            try clear hcz11_0
            try clear hcz11_1
            try clear hcz11_2
            try clear hcz13_0
            try clear hcz13_1
            try clear hcz13_2
            try clear hcz15_0
            try clear hcz15_1
            try clear hcz15_2
            try clear hcz16_0
            try clear hcz16_1
            try clear hcz16_2
            try clear hcz4_0
            try clear hcz4_1
            try clear hcz4_2
            try clear hcz7_0
            try clear hcz7_1
            try clear hcz7_2
            try clear hcz9_0
            try clear hcz9_1
            try clear hcz9_2
            try clear hfz11_0
            try clear hfz11_1
            try clear hfz11_2
            try clear hfz13_0
            try clear hfz13_1
            try clear hfz13_2
            try clear hfz15_0
            try clear hfz15_1
            try clear hfz15_2
            try clear hfz16_0
            try clear hfz16_1
            try clear hfz16_2
            try clear hfz4_0
            try clear hfz4_1
            try clear hfz4_2
            try clear hfz7_0
            try clear hfz7_1
            try clear hfz7_2
            try clear hfz9_0
            try clear hfz9_1
            try clear hfz9_2
            try clear p2
            obtain ⟨x3_2, rfl, HA, HK2, BK302, HB⟩ := hrel
            cases gk with
            | zero => exact absurd HA.out (by simp [interleaveref11_Fits.l0])
            | succ k2 =>
              have H := HA.out
              clear HA
              simp only [interleaveref11_Fits.l0] at H
              by_cases c18 : x3_2 < (l0_2.length : Int)
              · rw [if_pos c18] at H
                have c18b0 : decide (x3_2 < (l0_2.length : Int)) = true := decide_eq_true c18
                clear c18
                by_cases c19 : 0 ≤ x3_2
                · rw [if_pos c19] at H
                  have c19b0 : decide (0 ≤ x3_2) = true := decide_eq_true c19
                  clear c19
                  by_cases c20 : ((rd_T26 l0_2 x3_2).f1.f0) = a0_0
                  · rw [if_pos c20] at H
                    have c20b0 : (((rd_T26 l0_2 x3_2).f1.f0) == a0_0) = true := beq_iff_eq.mpr c20
                    have c20b1 : (((rd_T26 l0_2 x3_2).f1.f0) != a0_0) = false := bne_eq_false_iff_eq.mpr c20
                    clear c20
                    by_cases c21 : ((rd_T26 l0_2 x3_2).f0) < 0
                    · rw [if_pos c21] at H
                      have c21b0 : decide (((rd_T26 l0_2 x3_2).f0) < 0) = true := decide_eq_true c21
                      clear c21
                      obtain rfl := Option.some.inj H
                      have hcz22_0 : wr.cell? ⟨gb302, 0, none⟩ = some (.int .i64 a0_0) := (blk_cell BK302.out 0).trans rfl
                      have hcz22_1 : wr.cell? ⟨gb302, 1, none⟩ = some (.int .i64 a0_1) := (blk_cell BK302.out 1).trans rfl
                      have hcz22_2 : wr.cell? ⟨gb302, 2, none⟩ = some (.slice A0_2 l0_2.length c0_2) := (blk_cell BK302.out 2).trans rfl
                      have hfz22_0 := blk_frozen BK302.out 0
                      have hfz22_1 := blk_frozen BK302.out 1
                      have hfz22_2 := blk_frozen BK302.out 2
                      have p303 : 0 ≤ (x3_2 : Int) := of_decide_eq_true (by first | (with_reducible assumption) | assumption)
                      have q303 : x3_2 < (l0_2.length : Int) := of_decide_eq_true (by first | (with_reducible assumption) | assumption)
                      obtain ⟨ad303, A303_6, c303_6, A303_7, c303_7, e303, hx303_0, hx303_1, hx303_2, hx303_3, hx303_4, hx303_5, hx303_6, hx303_7, hl303_6, hi303_6, hl303_7, hi303_7⟩ := at_T26 HR0_2.out x3_2 p303 q303
                      cases e303
                      replace hx303_0 := (HB.out.cell (World.block_lt_of_cell? w _ hx303_0)).trans hx303_0
                      replace hx303_1 := (HB.out.cell (World.block_lt_of_cell? w _ hx303_1)).trans hx303_1
                      replace hx303_2 := (HB.out.cell (World.block_lt_of_cell? w _ hx303_2)).trans hx303_2
                      replace hx303_3 := (HB.out.cell (World.block_lt_of_cell? w _ hx303_3)).trans hx303_3
                      replace hx303_4 := (HB.out.cell (World.block_lt_of_cell? w _ hx303_4)).trans hx303_4
                      replace hx303_5 := (HB.out.cell (World.block_lt_of_cell? w _ hx303_5)).trans hx303_5
                      replace hx303_6 := (HB.out.cell (World.block_lt_of_cell? w _ hx303_6)).trans hx303_6
                      replace hx303_7 := (HB.out.cell (World.block_lt_of_cell? w _ hx303_7)).trans hx303_7
                      have HR303_6 := Aside0.mk hi303_6
                      have HC303_6 := Aside0.mk hl303_6
                      clear hi303_6 hl303_6
                      have HR303_7 := Aside0.mk hi303_7
                      have HC303_7 := Aside0.mk hl303_7
                      clear hi303_7 hl303_7
                      replace p303 := eq_true p303
                      replace q303 := eq_true q303
                      go_wp2_with (first | ((with_reducible refine gate_dst (N := 4) rfl ?_); (try (refine gate_guard (by rfl) ?_; dsimp only)); refine box_event ?hg (N := 4) ?hd (cs := #[.int .i64 0, .int .i64 0, .int .i64 0, .int .i64 0, .int .i64 0, .int .i64 0, .slice none 0 0, .slice none 0 0]) (t := 26) ?hr ?_; (case hd => rfl); (case hg => rfl); (case hr => first | (go_simp; done) | (go_simp; rfl)); intro gb304 hg w23 hbox hb; have n0_ := Aside0.mk (blk_below (g := gb302) (o := .cells #[.int .i64 a0_0, .int .i64 a0_1, .slice (some ad303) l0_2.length c0_2] 42 (0, 0)) (by (with_reducible repeat (first | refine blk_drewN ?_ _ | refine blk_drew ?_ | refine blk_alloc ?_ _)); exact BK302.out) hb); have n1_ := Aside0.mk (below_step (by repeat (first | (with_reducible first | exact HB.out | apply below_alloc | apply pw_below_drewN | apply below_drew1 | refine below_set ?_ GE302.out) | exact HB.out)) hb); have n2_ := Aside0.mk (hbox); have n3_ := Aside0.mk ((by rw [hg]; exact (below_size (by repeat (first | (with_reducible first | exact HB.out | apply below_alloc | apply pw_below_drewN | apply below_drew1 | refine below_set ?_ GE302.out) | exact HB.out))) : w.heap.size ≤ gb304)); have n4_ := Aside0.mk ((by rw [hg]; exact (below_size (by repeat (first | (with_reducible first | exact HB.out | apply below_alloc | apply pw_below_drewN | apply below_drew1 | refine below_set ?_ GE302.out) | exact HB.out))) : w.heap.size ≤ gb304)); have n5_ := Aside0.mk ((by rw [hg]; exact Nat.ne_of_lt (blk_lt (g := gb302) (o := .cells #[.int .i64 a0_0, .int .i64 a0_1, .slice (some ad303) l0_2.length c0_2] 42 (0, 0)) (by (with_reducible repeat (first | refine blk_drewN ?_ _ | refine blk_drew ?_ | refine blk_alloc ?_ _)); exact BK302.out)) : gb302 ≠ gb304)); have n6_ := Aside0.mk ((by rw [hg]; exact Nat.ne_of_gt (blk_lt (g := gb302) (o := .cells #[.int .i64 a0_0, .int .i64 a0_1, .slice (some ad303) l0_2.length c0_2] 42 (0, 0)) (by (with_reducible repeat (first | refine blk_drewN ?_ _ | refine blk_drew ?_ | refine blk_alloc ?_ _)); exact BK302.out)) : gb304 ≠ gb302)); clear BK302; clear HB; have BK302 := n0_; have HB := n1_; have BK304 := n2_; have GW304 := n3_; have GE304 := n4_; have NB302_304 := n5_; have NB304_302 := n6_; clear n0_ n1_ n2_ n3_ n4_ n5_ n6_; clear hb hbox hg; have hnb24 := NB304_302.out; have hnc24 := NB302_304.out; have hcz25_0 : w23.cell? ⟨gb304, 0, none⟩ = some (.int .i64 0) := (blk_cell BK304.out 0).trans rfl; have hcz25_1 : w23.cell? ⟨gb304, 1, none⟩ = some (.int .i64 0) := (blk_cell BK304.out 1).trans rfl; have hcz25_2 : w23.cell? ⟨gb304, 2, none⟩ = some (.int .i64 0) := (blk_cell BK304.out 2).trans rfl; have hcz25_3 : w23.cell? ⟨gb304, 3, none⟩ = some (.int .i64 0) := (blk_cell BK304.out 3).trans rfl; have hcz25_4 : w23.cell? ⟨gb304, 4, none⟩ = some (.int .i64 0) := (blk_cell BK304.out 4).trans rfl; have hcz25_5 : w23.cell? ⟨gb304, 5, none⟩ = some (.int .i64 0) := (blk_cell BK304.out 5).trans rfl; have hcz25_6 : w23.cell? ⟨gb304, 6, none⟩ = some (.slice none 0 0) := (blk_cell BK304.out 6).trans rfl; have hcz25_7 : w23.cell? ⟨gb304, 7, none⟩ = some (.slice none 0 0) := (blk_cell BK304.out 7).trans rfl; have hfz25_0 := blk_frozen BK304.out 0; have hfz25_1 := blk_frozen BK304.out 1; have hfz25_2 := blk_frozen BK304.out 2; have hfz25_3 := blk_frozen BK304.out 3; have hfz25_4 := blk_frozen BK304.out 4; have hfz25_5 := blk_frozen BK304.out 5; have hfz25_6 := blk_frozen BK304.out 6; have hfz25_7 := blk_frozen BK304.out 7; have hcz26_0 : w23.cell? ⟨gb302, 0, none⟩ = some (.int .i64 a0_0) := (blk_cell BK302.out 0).trans rfl; have hcz26_1 : w23.cell? ⟨gb302, 1, none⟩ = some (.int .i64 a0_1) := (blk_cell BK302.out 1).trans rfl; have hcz26_2 : w23.cell? ⟨gb302, 2, none⟩ = some (.slice (some ad303) l0_2.length c0_2) := (blk_cell BK302.out 2).trans rfl; have hfz26_0 := blk_frozen BK302.out 0; have hfz26_1 := blk_frozen BK302.out 1; have hfz26_2 := blk_frozen BK302.out 2))
                      obtain ⟨W2_, hW2_⟩ : ∃ W_ : World, W_ = ((((((((w23.setCell ⟨gb304, 0, none⟩ (.int .i64 ((rd_T26 l0_2 x3_2).f0))).setCell ⟨gb304, 1, none⟩ (.int .i64 ((rd_T26 l0_2 x3_2).f1.f0))).setCell ⟨gb304, 2, none⟩ (.int .i64 ((rd_T26 l0_2 x3_2).f1.f1))).setCell ⟨gb304, 3, none⟩ (.int .i64 ((rd_T26 l0_2 x3_2).f1.f2))).setCell ⟨gb304, 4, none⟩ (.int .i64 ((rd_T26 l0_2 x3_2).f1.f3))).setCell ⟨gb304, 5, none⟩ (.int .i64 ((rd_T26 l0_2 x3_2).f1.f4))).setCell ⟨gb304, 6, none⟩ (.slice A303_6 ((rd_T26 l0_2 x3_2).f1.f5).length c303_6)).setCell ⟨gb304, 7, none⟩ (.slice A303_7 ((rd_T26 l0_2 x3_2).f1.f6).length c303_7)) := ⟨_, rfl⟩
                      (first | rw [← hW2_] | skip)
                      have B4_ := Aside0.mk (show W2_.heap[gb304]? = some (.cells #[.int .i64 ((rd_T26 l0_2 x3_2).f0), .int .i64 ((rd_T26 l0_2 x3_2).f1.f0), .int .i64 ((rd_T26 l0_2 x3_2).f1.f1), .int .i64 ((rd_T26 l0_2 x3_2).f1.f2), .int .i64 ((rd_T26 l0_2 x3_2).f1.f3), .int .i64 ((rd_T26 l0_2 x3_2).f1.f4), .slice A303_6 ((rd_T26 l0_2 x3_2).f1.f5).length c303_6, .slice A303_7 ((rd_T26 l0_2 x3_2).f1.f6).length c303_7] 26 (0, 0)) by rw [hW2_]; exact ow_put8 BK304.out)
                      have B2_ := Aside0.mk (show W2_.heap[gb302]? = some (.cells #[.int .i64 a0_0, .int .i64 a0_1, .slice (some ad303) l0_2.length c0_2] 42 (0, 0)) by rw [hW2_]; exact ow_far8 BK302.out NB302_304.out)
                      have BB_ := Aside0.mk (show Below w.heap.size w W2_ by rw [hW2_]; exact ow_below8 HB.out GE304.out)
                      clear hW2_ HB
                      have HB := BB_
                      have hs4_0 : W2_.cell? ⟨gb304, 0, none⟩ = some (.int .i64 ((rd_T26 l0_2 x3_2).f0)) := (blk_cell B4_.out 0).trans rfl
                      have hs4_1 : W2_.cell? ⟨gb304, 1, none⟩ = some (.int .i64 ((rd_T26 l0_2 x3_2).f1.f0)) := (blk_cell B4_.out 1).trans rfl
                      have hs4_2 : W2_.cell? ⟨gb304, 2, none⟩ = some (.int .i64 ((rd_T26 l0_2 x3_2).f1.f1)) := (blk_cell B4_.out 2).trans rfl
                      have hs4_3 : W2_.cell? ⟨gb304, 3, none⟩ = some (.int .i64 ((rd_T26 l0_2 x3_2).f1.f2)) := (blk_cell B4_.out 3).trans rfl
                      have hs4_4 : W2_.cell? ⟨gb304, 4, none⟩ = some (.int .i64 ((rd_T26 l0_2 x3_2).f1.f3)) := (blk_cell B4_.out 4).trans rfl
                      have hs4_5 : W2_.cell? ⟨gb304, 5, none⟩ = some (.int .i64 ((rd_T26 l0_2 x3_2).f1.f4)) := (blk_cell B4_.out 5).trans rfl
                      have hs4_6 : W2_.cell? ⟨gb304, 6, none⟩ = some (.slice A303_6 ((rd_T26 l0_2 x3_2).f1.f5).length c303_6) := (blk_cell B4_.out 6).trans rfl
                      have hs4_7 : W2_.cell? ⟨gb304, 7, none⟩ = some (.slice A303_7 ((rd_T26 l0_2 x3_2).f1.f6).length c303_7) := (blk_cell B4_.out 7).trans rfl
                      have hs2_0 : W2_.cell? ⟨gb302, 0, none⟩ = some (.int .i64 a0_0) := (blk_cell B2_.out 0).trans rfl
                      have hs2_1 : W2_.cell? ⟨gb302, 1, none⟩ = some (.int .i64 a0_1) := (blk_cell B2_.out 1).trans rfl
                      have hs2_2 : W2_.cell? ⟨gb302, 2, none⟩ = some (.slice (some ad303) l0_2.length c0_2) := (blk_cell B2_.out 2).trans rfl
                      repeat (go_quiet (fail); try go_wp2)
                      go_ret
                      exact ⟨by first | rfl | (simp [errW_none, errW_some] <;> rfl) | (simp [*, errW_none, errW_some] <;> rfl), by repeat (first | (with_reducible first | exact HB.out | apply below_alloc | apply pw_below_drewN | apply below_drew1 | refine below_set ?_ GE302.out | refine below_set ?_ GE304.out) | exact HB.out)⟩
                    · rw [if_neg c21] at H
                      have c21b0 : decide (((rd_T26 l0_2 x3_2).f0) < 0) = false := decide_eq_false c21
                      clear c21
                      by_cases c27 : x3_2 > 0
                      · rw [if_pos c27] at H
                        have c27b0 : decide (0 < x3_2) = true := decide_eq_true c27
                        clear c27
                        obtain ⟨ji28, hji28⟩ : ∃ j_ : Int, (wrap64 (x3_2 - 1)) = j_ := ⟨_, rfl⟩
                        replace H : (if 0 ≤ (ji28) then (if (ji28) < (l0_2.length : Int) then (if ((rd_T26 l0_2 x3_2).f0) ≤ ((rd_T26 l0_2 (ji28)).f0) then (some 1) else (if (((rd_T26 l0_2 x3_2).f1.f5).length : Int) > 400 then (some 1) else (if (((rd_T26 l0_2 x3_2).f1.f6).length : Int) > 400 then (some 1) else (interleaveref11_Fits.l0 k2 (wrap64 (x3_2 + 1)) a0_0 a0_1 l0_2)))) else (none)) else (none)) = some r := by first | (rw [hji28] at H; exact H) | (simp only [hji28] at H ⊢; exact H)
                        have hji28w : (IntKind.i64.wrap (x3_2 - 1)) = ji28 := (i64_w _).trans hji28
                        by_cases c29 : 0 ≤ (ji28)
                        · rw [if_pos c29] at H
                          have c29b0 : decide (0 ≤ (ji28)) = true := decide_eq_true c29
                          clear c29
                          by_cases c30 : (ji28) < (l0_2.length : Int)
                          · rw [if_pos c30] at H
                            have c30b0 : decide ((ji28) < (l0_2.length : Int)) = true := decide_eq_true c30
                            clear c30
                            by_cases c31 : ((rd_T26 l0_2 x3_2).f0) ≤ ((rd_T26 l0_2 (ji28)).f0)
                            · rw [if_pos c31] at H
                              have c31b0 : decide (((rd_T26 l0_2 x3_2).f0) ≤ ((rd_T26 l0_2 (ji28)).f0)) = true := decide_eq_true c31
                              clear c31
                              obtain rfl := Option.some.inj H
                              have hcz32_0 : wr.cell? ⟨gb302, 0, none⟩ = some (.int .i64 a0_0) := (blk_cell BK302.out 0).trans rfl
                              have hcz32_1 : wr.cell? ⟨gb302, 1, none⟩ = some (.int .i64 a0_1) := (blk_cell BK302.out 1).trans rfl
                              have hcz32_2 : wr.cell? ⟨gb302, 2, none⟩ = some (.slice A0_2 l0_2.length c0_2) := (blk_cell BK302.out 2).trans rfl
                              have hfz32_0 := blk_frozen BK302.out 0
                              have hfz32_1 := blk_frozen BK302.out 1
                              have hfz32_2 := blk_frozen BK302.out 2
                              have p303 : 0 ≤ (x3_2 : Int) := of_decide_eq_true (by first | (with_reducible assumption) | assumption)
                              have q303 : x3_2 < (l0_2.length : Int) := of_decide_eq_true (by first | (with_reducible assumption) | assumption)
                              obtain ⟨ad303, A303_6, c303_6, A303_7, c303_7, e303, hx303_0, hx303_1, hx303_2, hx303_3, hx303_4, hx303_5, hx303_6, hx303_7, hl303_6, hi303_6, hl303_7, hi303_7⟩ := at_T26 HR0_2.out x3_2 p303 q303
                              cases e303
                              replace hx303_0 := (HB.out.cell (World.block_lt_of_cell? w _ hx303_0)).trans hx303_0
                              replace hx303_1 := (HB.out.cell (World.block_lt_of_cell? w _ hx303_1)).trans hx303_1
                              replace hx303_2 := (HB.out.cell (World.block_lt_of_cell? w _ hx303_2)).trans hx303_2
                              replace hx303_3 := (HB.out.cell (World.block_lt_of_cell? w _ hx303_3)).trans hx303_3
                              replace hx303_4 := (HB.out.cell (World.block_lt_of_cell? w _ hx303_4)).trans hx303_4
                              replace hx303_5 := (HB.out.cell (World.block_lt_of_cell? w _ hx303_5)).trans hx303_5
                              replace hx303_6 := (HB.out.cell (World.block_lt_of_cell? w _ hx303_6)).trans hx303_6
                              replace hx303_7 := (HB.out.cell (World.block_lt_of_cell? w _ hx303_7)).trans hx303_7
                              have HR303_6 := Aside0.mk hi303_6
                              have HC303_6 := Aside0.mk hl303_6
                              clear hi303_6 hl303_6
                              have HR303_7 := Aside0.mk hi303_7
                              have HC303_7 := Aside0.mk hl303_7
                              clear hi303_7 hl303_7
                              replace p303 := eq_true p303
                              replace q303 := eq_true q303
                              go_wp2_with (first | ((with_reducible refine gate_dst (N := 4) rfl ?_); (try (refine gate_guard (by rfl) ?_; dsimp only)); refine box_event ?hg (N := 4) ?hd (cs := #[.int .i64 0, .int .i64 0, .int .i64 0, .int .i64 0, .int .i64 0, .int .i64 0, .slice none 0 0, .slice none 0 0]) (t := 26) ?hr ?_; (case hd => rfl); (case hg => rfl); (case hr => first | (go_simp; done) | (go_simp; rfl)); intro gb304 hg w33 hbox hb; have n0_ := Aside0.mk (blk_below (g := gb302) (o := .cells #[.int .i64 a0_0, .int .i64 a0_1, .slice (some ad303) l0_2.length c0_2] 42 (0, 0)) (by (with_reducible repeat (first | refine blk_drewN ?_ _ | refine blk_drew ?_ | refine blk_alloc ?_ _)); exact BK302.out) hb); have n1_ := Aside0.mk (below_step (by repeat (first | (with_reducible first | exact HB.out | apply below_alloc | apply pw_below_drewN | apply below_drew1 | refine below_set ?_ GE302.out) | exact HB.out)) hb); have n2_ := Aside0.mk (hbox); have n3_ := Aside0.mk ((by rw [hg]; exact (below_size (by repeat (first | (with_reducible first | exact HB.out | apply below_alloc | apply pw_below_drewN | apply below_drew1 | refine below_set ?_ GE302.out) | exact HB.out))) : w.heap.size ≤ gb304)); have n4_ := Aside0.mk ((by rw [hg]; exact (below_size (by repeat (first | (with_reducible first | exact HB.out | apply below_alloc | apply pw_below_drewN | apply below_drew1 | refine below_set ?_ GE302.out) | exact HB.out))) : w.heap.size ≤ gb304)); have n5_ := Aside0.mk ((by rw [hg]; exact Nat.ne_of_lt (blk_lt (g := gb302) (o := .cells #[.int .i64 a0_0, .int .i64 a0_1, .slice (some ad303) l0_2.length c0_2] 42 (0, 0)) (by (with_reducible repeat (first | refine blk_drewN ?_ _ | refine blk_drew ?_ | refine blk_alloc ?_ _)); exact BK302.out)) : gb302 ≠ gb304)); have n6_ := Aside0.mk ((by rw [hg]; exact Nat.ne_of_gt (blk_lt (g := gb302) (o := .cells #[.int .i64 a0_0, .int .i64 a0_1, .slice (some ad303) l0_2.length c0_2] 42 (0, 0)) (by (with_reducible repeat (first | refine blk_drewN ?_ _ | refine blk_drew ?_ | refine blk_alloc ?_ _)); exact BK302.out)) : gb304 ≠ gb302)); clear BK302; clear HB; have BK302 := n0_; have HB := n1_; have BK304 := n2_; have GW304 := n3_; have GE304 := n4_; have NB302_304 := n5_; have NB304_302 := n6_; clear n0_ n1_ n2_ n3_ n4_ n5_ n6_; clear hb hbox hg; have hnb34 := NB304_302.out; have hnc34 := NB302_304.out; have hcz35_0 : w33.cell? ⟨gb304, 0, none⟩ = some (.int .i64 0) := (blk_cell BK304.out 0).trans rfl; have hcz35_1 : w33.cell? ⟨gb304, 1, none⟩ = some (.int .i64 0) := (blk_cell BK304.out 1).trans rfl; have hcz35_2 : w33.cell? ⟨gb304, 2, none⟩ = some (.int .i64 0) := (blk_cell BK304.out 2).trans rfl; have hcz35_3 : w33.cell? ⟨gb304, 3, none⟩ = some (.int .i64 0) := (blk_cell BK304.out 3).trans rfl; have hcz35_4 : w33.cell? ⟨gb304, 4, none⟩ = some (.int .i64 0) := (blk_cell BK304.out 4).trans rfl; have hcz35_5 : w33.cell? ⟨gb304, 5, none⟩ = some (.int .i64 0) := (blk_cell BK304.out 5).trans rfl; have hcz35_6 : w33.cell? ⟨gb304, 6, none⟩ = some (.slice none 0 0) := (blk_cell BK304.out 6).trans rfl; have hcz35_7 : w33.cell? ⟨gb304, 7, none⟩ = some (.slice none 0 0) := (blk_cell BK304.out 7).trans rfl; have hfz35_0 := blk_frozen BK304.out 0; have hfz35_1 := blk_frozen BK304.out 1; have hfz35_2 := blk_frozen BK304.out 2; have hfz35_3 := blk_frozen BK304.out 3; have hfz35_4 := blk_frozen BK304.out 4; have hfz35_5 := blk_frozen BK304.out 5; have hfz35_6 := blk_frozen BK304.out 6; have hfz35_7 := blk_frozen BK304.out 7; have hcz36_0 : w33.cell? ⟨gb302, 0, none⟩ = some (.int .i64 a0_0) := (blk_cell BK302.out 0).trans rfl; have hcz36_1 : w33.cell? ⟨gb302, 1, none⟩ = some (.int .i64 a0_1) := (blk_cell BK302.out 1).trans rfl; have hcz36_2 : w33.cell? ⟨gb302, 2, none⟩ = some (.slice (some ad303) l0_2.length c0_2) := (blk_cell BK302.out 2).trans rfl; have hfz36_0 := blk_frozen BK302.out 0; have hfz36_1 := blk_frozen BK302.out 1; have hfz36_2 := blk_frozen BK302.out 2))
                              obtain ⟨W2_, hW2_⟩ : ∃ W_ : World, W_ = ((((((((w33.setCell ⟨gb304, 0, none⟩ (.int .i64 ((rd_T26 l0_2 x3_2).f0))).setCell ⟨gb304, 1, none⟩ (.int .i64 ((rd_T26 l0_2 x3_2).f1.f0))).setCell ⟨gb304, 2, none⟩ (.int .i64 ((rd_T26 l0_2 x3_2).f1.f1))).setCell ⟨gb304, 3, none⟩ (.int .i64 ((rd_T26 l0_2 x3_2).f1.f2))).setCell ⟨gb304, 4, none⟩ (.int .i64 ((rd_T26 l0_2 x3_2).f1.f3))).setCell ⟨gb304, 5, none⟩ (.int .i64 ((rd_T26 l0_2 x3_2).f1.f4))).setCell ⟨gb304, 6, none⟩ (.slice A303_6 ((rd_T26 l0_2 x3_2).f1.f5).length c303_6)).setCell ⟨gb304, 7, none⟩ (.slice A303_7 ((rd_T26 l0_2 x3_2).f1.f6).length c303_7)) := ⟨_, rfl⟩
                              (first | rw [← hW2_] | skip)
                              have B4_ := Aside0.mk (show W2_.heap[gb304]? = some (.cells #[.int .i64 ((rd_T26 l0_2 x3_2).f0), .int .i64 ((rd_T26 l0_2 x3_2).f1.f0), .int .i64 ((rd_T26 l0_2 x3_2).f1.f1), .int .i64 ((rd_T26 l0_2 x3_2).f1.f2), .int .i64 ((rd_T26 l0_2 x3_2).f1.f3), .int .i64 ((rd_T26 l0_2 x3_2).f1.f4), .slice A303_6 ((rd_T26 l0_2 x3_2).f1.f5).length c303_6, .slice A303_7 ((rd_T26 l0_2 x3_2).f1.f6).length c303_7] 26 (0, 0)) by rw [hW2_]; exact ow_put8 BK304.out)
                              have B2_ := Aside0.mk (show W2_.heap[gb302]? = some (.cells #[.int .i64 a0_0, .int .i64 a0_1, .slice (some ad303) l0_2.length c0_2] 42 (0, 0)) by rw [hW2_]; exact ow_far8 BK302.out NB302_304.out)
                              have BB_ := Aside0.mk (show Below w.heap.size w W2_ by rw [hW2_]; exact ow_below8 HB.out GE304.out)
                              clear hW2_ HB
                              have HB := BB_
                              have hs4_0 : W2_.cell? ⟨gb304, 0, none⟩ = some (.int .i64 ((rd_T26 l0_2 x3_2).f0)) := (blk_cell B4_.out 0).trans rfl
                              have hs4_1 : W2_.cell? ⟨gb304, 1, none⟩ = some (.int .i64 ((rd_T26 l0_2 x3_2).f1.f0)) := (blk_cell B4_.out 1).trans rfl
                              have hs4_2 : W2_.cell? ⟨gb304, 2, none⟩ = some (.int .i64 ((rd_T26 l0_2 x3_2).f1.f1)) := (blk_cell B4_.out 2).trans rfl
                              have hs4_3 : W2_.cell? ⟨gb304, 3, none⟩ = some (.int .i64 ((rd_T26 l0_2 x3_2).f1.f2)) := (blk_cell B4_.out 3).trans rfl
                              have hs4_4 : W2_.cell? ⟨gb304, 4, none⟩ = some (.int .i64 ((rd_T26 l0_2 x3_2).f1.f3)) := (blk_cell B4_.out 4).trans rfl
                              have hs4_5 : W2_.cell? ⟨gb304, 5, none⟩ = some (.int .i64 ((rd_T26 l0_2 x3_2).f1.f4)) := (blk_cell B4_.out 5).trans rfl
                              have hs4_6 : W2_.cell? ⟨gb304, 6, none⟩ = some (.slice A303_6 ((rd_T26 l0_2 x3_2).f1.f5).length c303_6) := (blk_cell B4_.out 6).trans rfl
                              have hs4_7 : W2_.cell? ⟨gb304, 7, none⟩ = some (.slice A303_7 ((rd_T26 l0_2 x3_2).f1.f6).length c303_7) := (blk_cell B4_.out 7).trans rfl
                              have hs2_0 : W2_.cell? ⟨gb302, 0, none⟩ = some (.int .i64 a0_0) := (blk_cell B2_.out 0).trans rfl
                              have hs2_1 : W2_.cell? ⟨gb302, 1, none⟩ = some (.int .i64 a0_1) := (blk_cell B2_.out 1).trans rfl
                              have hs2_2 : W2_.cell? ⟨gb302, 2, none⟩ = some (.slice (some ad303) l0_2.length c0_2) := (blk_cell B2_.out 2).trans rfl
                              have p305 : 0 ≤ ((ji28) : Int) := of_decide_eq_true (by first | (with_reducible assumption) | assumption)
                              have q305 : (ji28) < (l0_2.length : Int) := of_decide_eq_true (by first | (with_reducible assumption) | assumption)
                              obtain ⟨ad305, A305_6, c305_6, A305_7, c305_7, e305, hx305_0, hx305_1, hx305_2, hx305_3, hx305_4, hx305_5, hx305_6, hx305_7, hl305_6, hi305_6, hl305_7, hi305_7⟩ := at_T26 HR0_2.out (ji28) p305 q305
                              obtain rfl : ad303 = ad305 := (by injection e305)
                              clear hx305_1 hx305_2 hx305_3 hx305_4 hx305_5 hx305_6 hx305_7 hl305_6 hi305_6 hl305_7 hi305_7
                              replace hx305_0 := (HB.out.cell (World.block_lt_of_cell? w _ hx305_0)).trans hx305_0
                              replace p305 := eq_true p305
                              replace q305 := eq_true q305
                              repeat (go_quiet (fail); try go_wp2)
                              go_ret
                              exact ⟨by first | rfl | (simp [errW_none, errW_some] <;> rfl) | (simp only [← hji28]; first | rfl | (simp [errW_none, errW_some] <;> rfl)) | (simp [*, errW_none, errW_some] <;> rfl), by repeat (first | (with_reducible first | exact HB.out | apply below_alloc | apply pw_below_drewN | apply below_drew1 | refine below_set ?_ GE302.out | refine below_set ?_ GE304.out) | exact HB.out)⟩
                            · rw [if_neg c31] at H
                              have c31b0 : decide (((rd_T26 l0_2 x3_2).f0) ≤ ((rd_T26 l0_2 (ji28)).f0)) = false := decide_eq_false c31
                              clear c31
                              by_cases c37 : (((rd_T26 l0_2 x3_2).f1.f5).length : Int) > 400
                              · rw [if_pos c37] at H
                                have c37b0 : decide (400 < (((rd_T26 l0_2 x3_2).f1.f5).length : Int)) = true := decide_eq_true c37
                                have c37b1 : decide (400 < ((rd_T26 l0_2 x3_2).f1.f5).length) = true := decide_eq_true (by omega)
                                clear c37
                                obtain rfl := Option.some.inj H
                                have hcz38_0 : wr.cell? ⟨gb302, 0, none⟩ = some (.int .i64 a0_0) := (blk_cell BK302.out 0).trans rfl
                                have hcz38_1 : wr.cell? ⟨gb302, 1, none⟩ = some (.int .i64 a0_1) := (blk_cell BK302.out 1).trans rfl
                                have hcz38_2 : wr.cell? ⟨gb302, 2, none⟩ = some (.slice A0_2 l0_2.length c0_2) := (blk_cell BK302.out 2).trans rfl
                                have hfz38_0 := blk_frozen BK302.out 0
                                have hfz38_1 := blk_frozen BK302.out 1
                                have hfz38_2 := blk_frozen BK302.out 2
                                have p303 : 0 ≤ (x3_2 : Int) := of_decide_eq_true (by first | (with_reducible assumption) | assumption)
                                have q303 : x3_2 < (l0_2.length : Int) := of_decide_eq_true (by first | (with_reducible assumption) | assumption)
                                obtain ⟨ad303, A303_6, c303_6, A303_7, c303_7, e303, hx303_0, hx303_1, hx303_2, hx303_3, hx303_4, hx303_5, hx303_6, hx303_7, hl303_6, hi303_6, hl303_7, hi303_7⟩ := at_T26 HR0_2.out x3_2 p303 q303
                                cases e303
                                replace hx303_0 := (HB.out.cell (World.block_lt_of_cell? w _ hx303_0)).trans hx303_0
                                replace hx303_1 := (HB.out.cell (World.block_lt_of_cell? w _ hx303_1)).trans hx303_1
                                replace hx303_2 := (HB.out.cell (World.block_lt_of_cell? w _ hx303_2)).trans hx303_2
                                replace hx303_3 := (HB.out.cell (World.block_lt_of_cell? w _ hx303_3)).trans hx303_3
                                replace hx303_4 := (HB.out.cell (World.block_lt_of_cell? w _ hx303_4)).trans hx303_4
                                replace hx303_5 := (HB.out.cell (World.block_lt_of_cell? w _ hx303_5)).trans hx303_5
                                replace hx303_6 := (HB.out.cell (World.block_lt_of_cell? w _ hx303_6)).trans hx303_6
                                replace hx303_7 := (HB.out.cell (World.block_lt_of_cell? w _ hx303_7)).trans hx303_7
                                have HR303_6 := Aside0.mk hi303_6
                                have HC303_6 := Aside0.mk hl303_6
                                clear hi303_6 hl303_6
                                have HR303_7 := Aside0.mk hi303_7
                                have HC303_7 := Aside0.mk hl303_7
                                clear hi303_7 hl303_7
                                replace p303 := eq_true p303
                                replace q303 := eq_true q303
                                go_wp2_with (first | ((with_reducible refine gate_dst (N := 4) rfl ?_); (try (refine gate_guard (by rfl) ?_; dsimp only)); refine box_event ?hg (N := 4) ?hd (cs := #[.int .i64 0, .int .i64 0, .int .i64 0, .int .i64 0, .int .i64 0, .int .i64 0, .slice none 0 0, .slice none 0 0]) (t := 26) ?hr ?_; (case hd => rfl); (case hg => rfl); (case hr => first | (go_simp; done) | (go_simp; rfl)); intro gb304 hg w39 hbox hb; have n0_ := Aside0.mk (blk_below (g := gb302) (o := .cells #[.int .i64 a0_0, .int .i64 a0_1, .slice (some ad303) l0_2.length c0_2] 42 (0, 0)) (by (with_reducible repeat (first | refine blk_drewN ?_ _ | refine blk_drew ?_ | refine blk_alloc ?_ _)); exact BK302.out) hb); have n1_ := Aside0.mk (below_step (by repeat (first | (with_reducible first | exact HB.out | apply below_alloc | apply pw_below_drewN | apply below_drew1 | refine below_set ?_ GE302.out) | exact HB.out)) hb); have n2_ := Aside0.mk (hbox); have n3_ := Aside0.mk ((by rw [hg]; exact (below_size (by repeat (first | (with_reducible first | exact HB.out | apply below_alloc | apply pw_below_drewN | apply below_drew1 | refine below_set ?_ GE302.out) | exact HB.out))) : w.heap.size ≤ gb304)); have n4_ := Aside0.mk ((by rw [hg]; exact (below_size (by repeat (first | (with_reducible first | exact HB.out | apply below_alloc | apply pw_below_drewN | apply below_drew1 | refine below_set ?_ GE302.out) | exact HB.out))) : w.heap.size ≤ gb304)); have n5_ := Aside0.mk ((by rw [hg]; exact Nat.ne_of_lt (blk_lt (g := gb302) (o := .cells #[.int .i64 a0_0, .int .i64 a0_1, .slice (some ad303) l0_2.length c0_2] 42 (0, 0)) (by (with_reducible repeat (first | refine blk_drewN ?_ _ | refine blk_drew ?_ | refine blk_alloc ?_ _)); exact BK302.out)) : gb302 ≠ gb304)); have n6_ := Aside0.mk ((by rw [hg]; exact Nat.ne_of_gt (blk_lt (g := gb302) (o := .cells #[.int .i64 a0_0, .int .i64 a0_1, .slice (some ad303) l0_2.length c0_2] 42 (0, 0)) (by (with_reducible repeat (first | refine blk_drewN ?_ _ | refine blk_drew ?_ | refine blk_alloc ?_ _)); exact BK302.out)) : gb304 ≠ gb302)); clear BK302; clear HB; have BK302 := n0_; have HB := n1_; have BK304 := n2_; have GW304 := n3_; have GE304 := n4_; have NB302_304 := n5_; have NB304_302 := n6_; clear n0_ n1_ n2_ n3_ n4_ n5_ n6_; clear hb hbox hg; have hnb40 := NB304_302.out; have hnc40 := NB302_304.out; have hcz41_0 : w39.cell? ⟨gb304, 0, none⟩ = some (.int .i64 0) := (blk_cell BK304.out 0).trans rfl; have hcz41_1 : w39.cell? ⟨gb304, 1, none⟩ = some (.int .i64 0) := (blk_cell BK304.out 1).trans rfl; have hcz41_2 : w39.cell? ⟨gb304, 2, none⟩ = some (.int .i64 0) := (blk_cell BK304.out 2).trans rfl; have hcz41_3 : w39.cell? ⟨gb304, 3, none⟩ = some (.int .i64 0) := (blk_cell BK304.out 3).trans rfl; have hcz41_4 : w39.cell? ⟨gb304, 4, none⟩ = some (.int .i64 0) := (blk_cell BK304.out 4).trans rfl; have hcz41_5 : w39.cell? ⟨gb304, 5, none⟩ = some (.int .i64 0) := (blk_cell BK304.out 5).trans rfl; have hcz41_6 : w39.cell? ⟨gb304, 6, none⟩ = some (.slice none 0 0) := (blk_cell BK304.out 6).trans rfl; have hcz41_7 : w39.cell? ⟨gb304, 7, none⟩ = some (.slice none 0 0) := (blk_cell BK304.out 7).trans rfl; have hfz41_0 := blk_frozen BK304.out 0; have hfz41_1 := blk_frozen BK304.out 1; have hfz41_2 := blk_frozen BK304.out 2; have hfz41_3 := blk_frozen BK304.out 3; have hfz41_4 := blk_frozen BK304.out 4; have hfz41_5 := blk_frozen BK304.out 5; have hfz41_6 := blk_frozen BK304.out 6; have hfz41_7 := blk_frozen BK304.out 7; have hcz42_0 : w39.cell? ⟨gb302, 0, none⟩ = some (.int .i64 a0_0) := (blk_cell BK302.out 0).trans rfl; have hcz42_1 : w39.cell? ⟨gb302, 1, none⟩ = some (.int .i64 a0_1) := (blk_cell BK302.out 1).trans rfl; have hcz42_2 : w39.cell? ⟨gb302, 2, none⟩ = some (.slice (some ad303) l0_2.length c0_2) := (blk_cell BK302.out 2).trans rfl; have hfz42_0 := blk_frozen BK302.out 0; have hfz42_1 := blk_frozen BK302.out 1; have hfz42_2 := blk_frozen BK302.out 2))
                                obtain ⟨W2_, hW2_⟩ : ∃ W_ : World, W_ = ((((((((w39.setCell ⟨gb304, 0, none⟩ (.int .i64 ((rd_T26 l0_2 x3_2).f0))).setCell ⟨gb304, 1, none⟩ (.int .i64 ((rd_T26 l0_2 x3_2).f1.f0))).setCell ⟨gb304, 2, none⟩ (.int .i64 ((rd_T26 l0_2 x3_2).f1.f1))).setCell ⟨gb304, 3, none⟩ (.int .i64 ((rd_T26 l0_2 x3_2).f1.f2))).setCell ⟨gb304, 4, none⟩ (.int .i64 ((rd_T26 l0_2 x3_2).f1.f3))).setCell ⟨gb304, 5, none⟩ (.int .i64 ((rd_T26 l0_2 x3_2).f1.f4))).setCell ⟨gb304, 6, none⟩ (.slice A303_6 ((rd_T26 l0_2 x3_2).f1.f5).length c303_6)).setCell ⟨gb304, 7, none⟩ (.slice A303_7 ((rd_T26 l0_2 x3_2).f1.f6).length c303_7)) := ⟨_, rfl⟩
                                (first | rw [← hW2_] | skip)
                                have B4_ := Aside0.mk (show W2_.heap[gb304]? = some (.cells #[.int .i64 ((rd_T26 l0_2 x3_2).f0), .int .i64 ((rd_T26 l0_2 x3_2).f1.f0), .int .i64 ((rd_T26 l0_2 x3_2).f1.f1), .int .i64 ((rd_T26 l0_2 x3_2).f1.f2), .int .i64 ((rd_T26 l0_2 x3_2).f1.f3), .int .i64 ((rd_T26 l0_2 x3_2).f1.f4), .slice A303_6 ((rd_T26 l0_2 x3_2).f1.f5).length c303_6, .slice A303_7 ((rd_T26 l0_2 x3_2).f1.f6).length c303_7] 26 (0, 0)) by rw [hW2_]; exact ow_put8 BK304.out)
                                have B2_ := Aside0.mk (show W2_.heap[gb302]? = some (.cells #[.int .i64 a0_0, .int .i64 a0_1, .slice (some ad303) l0_2.length c0_2] 42 (0, 0)) by rw [hW2_]; exact ow_far8 BK302.out NB302_304.out)
                                have BB_ := Aside0.mk (show Below w.heap.size w W2_ by rw [hW2_]; exact ow_below8 HB.out GE304.out)
                                clear hW2_ HB
                                have HB := BB_
                                have hs4_0 : W2_.cell? ⟨gb304, 0, none⟩ = some (.int .i64 ((rd_T26 l0_2 x3_2).f0)) := (blk_cell B4_.out 0).trans rfl
                                have hs4_1 : W2_.cell? ⟨gb304, 1, none⟩ = some (.int .i64 ((rd_T26 l0_2 x3_2).f1.f0)) := (blk_cell B4_.out 1).trans rfl
                                have hs4_2 : W2_.cell? ⟨gb304, 2, none⟩ = some (.int .i64 ((rd_T26 l0_2 x3_2).f1.f1)) := (blk_cell B4_.out 2).trans rfl
                                have hs4_3 : W2_.cell? ⟨gb304, 3, none⟩ = some (.int .i64 ((rd_T26 l0_2 x3_2).f1.f2)) := (blk_cell B4_.out 3).trans rfl
                                have hs4_4 : W2_.cell? ⟨gb304, 4, none⟩ = some (.int .i64 ((rd_T26 l0_2 x3_2).f1.f3)) := (blk_cell B4_.out 4).trans rfl
                                have hs4_5 : W2_.cell? ⟨gb304, 5, none⟩ = some (.int .i64 ((rd_T26 l0_2 x3_2).f1.f4)) := (blk_cell B4_.out 5).trans rfl
                                have hs4_6 : W2_.cell? ⟨gb304, 6, none⟩ = some (.slice A303_6 ((rd_T26 l0_2 x3_2).f1.f5).length c303_6) := (blk_cell B4_.out 6).trans rfl
                                have hs4_7 : W2_.cell? ⟨gb304, 7, none⟩ = some (.slice A303_7 ((rd_T26 l0_2 x3_2).f1.f6).length c303_7) := (blk_cell B4_.out 7).trans rfl
                                have hs2_0 : W2_.cell? ⟨gb302, 0, none⟩ = some (.int .i64 a0_0) := (blk_cell B2_.out 0).trans rfl
                                have hs2_1 : W2_.cell? ⟨gb302, 1, none⟩ = some (.int .i64 a0_1) := (blk_cell B2_.out 1).trans rfl
                                have hs2_2 : W2_.cell? ⟨gb302, 2, none⟩ = some (.slice (some ad303) l0_2.length c0_2) := (blk_cell B2_.out 2).trans rfl
                                have p305 : 0 ≤ ((ji28) : Int) := of_decide_eq_true (by first | (with_reducible assumption) | assumption)
                                have q305 : (ji28) < (l0_2.length : Int) := of_decide_eq_true (by first | (with_reducible assumption) | assumption)
                                obtain ⟨ad305, A305_6, c305_6, A305_7, c305_7, e305, hx305_0, hx305_1, hx305_2, hx305_3, hx305_4, hx305_5, hx305_6, hx305_7, hl305_6, hi305_6, hl305_7, hi305_7⟩ := at_T26 HR0_2.out (ji28) p305 q305
                                obtain rfl : ad303 = ad305 := (by injection e305)
                                clear hx305_1 hx305_2 hx305_3 hx305_4 hx305_5 hx305_6 hx305_7 hl305_6 hi305_6 hl305_7 hi305_7
                                replace hx305_0 := (HB.out.cell (World.block_lt_of_cell? w _ hx305_0)).trans hx305_0
                                replace p305 := eq_true p305
                                replace q305 := eq_true q305
                                repeat (go_quiet (fail); try go_wp2)
                                go_ret
                                exact ⟨by first | rfl | (simp [errW_none, errW_some] <;> rfl) | (simp only [← hji28]; first | rfl | (simp [errW_none, errW_some] <;> rfl)) | (simp [*, errW_none, errW_some] <;> rfl), by repeat (first | (with_reducible first | exact HB.out | apply below_alloc | apply pw_below_drewN | apply below_drew1 | refine below_set ?_ GE302.out | refine below_set ?_ GE304.out) | exact HB.out)⟩
                              · rw [if_neg c37] at H
                                have c37b0 : decide (400 < (((rd_T26 l0_2 x3_2).f1.f5).length : Int)) = false := decide_eq_false c37
                                have c37b1 : decide (400 < ((rd_T26 l0_2 x3_2).f1.f5).length) = false := decide_eq_false (by omega)
                                clear c37
                                by_cases c43 : (((rd_T26 l0_2 x3_2).f1.f6).length : Int) > 400
                                · rw [if_pos c43] at H
                                  have c43b0 : decide (400 < (((rd_T26 l0_2 x3_2).f1.f6).length : Int)) = true := decide_eq_true c43
                                  have c43b1 : decide (400 < ((rd_T26 l0_2 x3_2).f1.f6).length) = true := decide_eq_true (by omega)
                                  clear c43
                                  obtain rfl := Option.some.inj H
                                  have hcz44_0 : wr.cell? ⟨gb302, 0, none⟩ = some (.int .i64 a0_0) := (blk_cell BK302.out 0).trans rfl
                                  have hcz44_1 : wr.cell? ⟨gb302, 1, none⟩ = some (.int .i64 a0_1) := (blk_cell BK302.out 1).trans rfl
                                  have hcz44_2 : wr.cell? ⟨gb302, 2, none⟩ = some (.slice A0_2 l0_2.length c0_2) := (blk_cell BK302.out 2).trans rfl
                                  have hfz44_0 := blk_frozen BK302.out 0
                                  have hfz44_1 := blk_frozen BK302.out 1
                                  have hfz44_2 := blk_frozen BK302.out 2
                                  have p303 : 0 ≤ (x3_2 : Int) := of_decide_eq_true (by first | (with_reducible assumption) | assumption)
                                  have q303 : x3_2 < (l0_2.length : Int) := of_decide_eq_true (by first | (with_reducible assumption) | assumption)
                                  obtain ⟨ad303, A303_6, c303_6, A303_7, c303_7, e303, hx303_0, hx303_1, hx303_2, hx303_3, hx303_4, hx303_5, hx303_6, hx303_7, hl303_6, hi303_6, hl303_7, hi303_7⟩ := at_T26 HR0_2.out x3_2 p303 q303
                                  cases e303
                                  replace hx303_0 := (HB.out.cell (World.block_lt_of_cell? w _ hx303_0)).trans hx303_0
                                  replace hx303_1 := (HB.out.cell (World.block_lt_of_cell? w _ hx303_1)).trans hx303_1
                                  replace hx303_2 := (HB.out.cell (World.block_lt_of_cell? w _ hx303_2)).trans hx303_2
                                  replace hx303_3 := (HB.out.cell (World.block_lt_of_cell? w _ hx303_3)).trans hx303_3
                                  replace hx303_4 := (HB.out.cell (World.block_lt_of_cell? w _ hx303_4)).trans hx303_4
                                  replace hx303_5 := (HB.out.cell (World.block_lt_of_cell? w _ hx303_5)).trans hx303_5
                                  replace hx303_6 := (HB.out.cell (World.block_lt_of_cell? w _ hx303_6)).trans hx303_6
                                  replace hx303_7 := (HB.out.cell (World.block_lt_of_cell? w _ hx303_7)).trans hx303_7
                                  have HR303_6 := Aside0.mk hi303_6
                                  have HC303_6 := Aside0.mk hl303_6
                                  clear hi303_6 hl303_6
                                  have HR303_7 := Aside0.mk hi303_7
                                  have HC303_7 := Aside0.mk hl303_7
                                  clear hi303_7 hl303_7
                                  replace p303 := eq_true p303
                                  replace q303 := eq_true q303
                                  go_wp2_with (first | ((with_reducible refine gate_dst (N := 4) rfl ?_); (try (refine gate_guard (by rfl) ?_; dsimp only)); refine box_event ?hg (N := 4) ?hd (cs := #[.int .i64 0, .int .i64 0, .int .i64 0, .int .i64 0, .int .i64 0, .int .i64 0, .slice none 0 0, .slice none 0 0]) (t := 26) ?hr ?_; (case hd => rfl); (case hg => rfl); (case hr => first | (go_simp; done) | (go_simp; rfl)); intro gb304 hg w45 hbox hb; have n0_ := Aside0.mk (blk_below (g := gb302) (o := .cells #[.int .i64 a0_0, .int .i64 a0_1, .slice (some ad303) l0_2.length c0_2] 42 (0, 0)) (by (with_reducible repeat (first | refine blk_drewN ?_ _ | refine blk_drew ?_ | refine blk_alloc ?_ _)); exact BK302.out) hb); have n1_ := Aside0.mk (below_step (by repeat (first | (with_reducible first | exact HB.out | apply below_alloc | apply pw_below_drewN | apply below_drew1 | refine below_set ?_ GE302.out) | exact HB.out)) hb); have n2_ := Aside0.mk (hbox); have n3_ := Aside0.mk ((by rw [hg]; exact (below_size (by repeat (first | (with_reducible first | exact HB.out | apply below_alloc | apply pw_below_drewN | apply below_drew1 | refine below_set ?_ GE302.out) | exact HB.out))) : w.heap.size ≤ gb304)); have n4_ := Aside0.mk ((by rw [hg]; exact (below_size (by repeat (first | (with_reducible first | exact HB.out | apply below_alloc | apply pw_below_drewN | apply below_drew1 | refine below_set ?_ GE302.out) | exact HB.out))) : w.heap.size ≤ gb304)); have n5_ := Aside0.mk ((by rw [hg]; exact Nat.ne_of_lt (blk_lt (g := gb302) (o := .cells #[.int .i64 a0_0, .int .i64 a0_1, .slice (some ad303) l0_2.length c0_2] 42 (0, 0)) (by (with_reducible repeat (first | refine blk_drewN ?_ _ | refine blk_drew ?_ | refine blk_alloc ?_ _)); exact BK302.out)) : gb302 ≠ gb304)); have n6_ := Aside0.mk ((by rw [hg]; exact Nat.ne_of_gt (blk_lt (g := gb302) (o := .cells #[.int .i64 a0_0, .int .i64 a0_1, .slice (some ad303) l0_2.length c0_2] 42 (0, 0)) (by (with_reducible repeat (first | refine blk_drewN ?_ _ | refine blk_drew ?_ | refine blk_alloc ?_ _)); exact BK302.out)) : gb304 ≠ gb302)); clear BK302; clear HB; have BK302 := n0_; have HB := n1_; have BK304 := n2_; have GW304 := n3_; have GE304 := n4_; have NB302_304 := n5_; have NB304_302 := n6_; clear n0_ n1_ n2_ n3_ n4_ n5_ n6_; clear hb hbox hg; have hnb46 := NB304_302.out; have hnc46 := NB302_304.out; have hcz47_0 : w45.cell? ⟨gb304, 0, none⟩ = some (.int .i64 0) := (blk_cell BK304.out 0).trans rfl; have hcz47_1 : w45.cell? ⟨gb304, 1, none⟩ = some (.int .i64 0) := (blk_cell BK304.out 1).trans rfl; have hcz47_2 : w45.cell? ⟨gb304, 2, none⟩ = some (.int .i64 0) := (blk_cell BK304.out 2).trans rfl; have hcz47_3 : w45.cell? ⟨gb304, 3, none⟩ = some (.int .i64 0) := (blk_cell BK304.out 3).trans rfl; have hcz47_4 : w45.cell? ⟨gb304, 4, none⟩ = some (.int .i64 0) := (blk_cell BK304.out 4).trans rfl; have hcz47_5 : w45.cell? ⟨gb304, 5, none⟩ = some (.int .i64 0) := (blk_cell BK304.out 5).trans rfl; have hcz47_6 : w45.cell? ⟨gb304, 6, none⟩ = some (.slice none 0 0) := (blk_cell BK304.out 6).trans rfl; have hcz47_7 : w45.cell? ⟨gb304, 7, none⟩ = some (.slice none 0 0) := (blk_cell BK304.out 7).trans rfl; have hfz47_0 := blk_frozen BK304.out 0; have hfz47_1 := blk_frozen BK304.out 1; have hfz47_2 := blk_frozen BK304.out 2; have hfz47_3 := blk_frozen BK304.out 3; have hfz47_4 := blk_frozen BK304.out 4; have hfz47_5 := blk_frozen BK304.out 5; have hfz47_6 := blk_frozen BK304.out 6; have hfz47_7 := blk_frozen BK304.out 7; have hcz48_0 : w45.cell? ⟨gb302, 0, none⟩ = some (.int .i64 a0_0) := (blk_cell BK302.out 0).trans rfl; have hcz48_1 : w45.cell? ⟨gb302, 1, none⟩ = some (.int .i64 a0_1) := (blk_cell BK302.out 1).trans rfl; have hcz48_2 : w45.cell? ⟨gb302, 2, none⟩ = some (.slice (some ad303) l0_2.length c0_2) := (blk_cell BK302.out 2).trans rfl; have hfz48_0 := blk_frozen BK302.out 0; have hfz48_1 := blk_frozen BK302.out 1; have hfz48_2 := blk_frozen BK302.out 2))
                                  obtain ⟨W2_, hW2_⟩ : ∃ W_ : World, W_ = ((((((((w45.setCell ⟨gb304, 0, none⟩ (.int .i64 ((rd_T26 l0_2 x3_2).f0))).setCell ⟨gb304, 1, none⟩ (.int .i64 ((rd_T26 l0_2 x3_2).f1.f0))).setCell ⟨gb304, 2, none⟩ (.int .i64 ((rd_T26 l0_2 x3_2).f1.f1))).setCell ⟨gb304, 3, none⟩ (.int .i64 ((rd_T26 l0_2 x3_2).f1.f2))).setCell ⟨gb304, 4, none⟩ (.int .i64 ((rd_T26 l0_2 x3_2).f1.f3))).setCell ⟨gb304, 5, none⟩ (.int .i64 ((rd_T26 l0_2 x3_2).f1.f4))).setCell ⟨gb304, 6, none⟩ (.slice A303_6 ((rd_T26 l0_2 x3_2).f1.f5).length c303_6)).setCell ⟨gb304, 7, none⟩ (.slice A303_7 ((rd_T26 l0_2 x3_2).f1.f6).length c303_7)) := ⟨_, rfl⟩
                                  (first | rw [← hW2_] | skip)
                                  have B4_ := Aside0.mk (show W2_.heap[gb304]? = some (.cells #[.int .i64 ((rd_T26 l0_2 x3_2).f0), .int .i64 ((rd_T26 l0_2 x3_2).f1.f0), .int .i64 ((rd_T26 l0_2 x3_2).f1.f1), .int .i64 ((rd_T26 l0_2 x3_2).f1.f2), .int .i64 ((rd_T26 l0_2 x3_2).f1.f3), .int .i64 ((rd_T26 l0_2 x3_2).f1.f4), .slice A303_6 ((rd_T26 l0_2 x3_2).f1.f5).length c303_6, .slice A303_7 ((rd_T26 l0_2 x3_2).f1.f6).length c303_7] 26 (0, 0)) by rw [hW2_]; exact ow_put8 BK304.out)
                                  have B2_ := Aside0.mk (show W2_.heap[gb302]? = some (.cells #[.int .i64 a0_0, .int .i64 a0_1, .slice (some ad303) l0_2.length c0_2] 42 (0, 0)) by rw [hW2_]; exact ow_far8 BK302.out NB302_304.out)
                                  have BB_ := Aside0.mk (show Below w.heap.size w W2_ by rw [hW2_]; exact ow_below8 HB.out GE304.out)
                                  clear hW2_ HB
                                  have HB := BB_
                                  have hs4_0 : W2_.cell? ⟨gb304, 0, none⟩ = some (.int .i64 ((rd_T26 l0_2 x3_2).f0)) := (blk_cell B4_.out 0).trans rfl
                                  have hs4_1 : W2_.cell? ⟨gb304, 1, none⟩ = some (.int .i64 ((rd_T26 l0_2 x3_2).f1.f0)) := (blk_cell B4_.out 1).trans rfl
                                  have hs4_2 : W2_.cell? ⟨gb304, 2, none⟩ = some (.int .i64 ((rd_T26 l0_2 x3_2).f1.f1)) := (blk_cell B4_.out 2).trans rfl
                                  have hs4_3 : W2_.cell? ⟨gb304, 3, none⟩ = some (.int .i64 ((rd_T26 l0_2 x3_2).f1.f2)) := (blk_cell B4_.out 3).trans rfl
                                  have hs4_4 : W2_.cell? ⟨gb304, 4, none⟩ = some (.int .i64 ((rd_T26 l0_2 x3_2).f1.f3)) := (blk_cell B4_.out 4).trans rfl
                                  have hs4_5 : W2_.cell? ⟨gb304, 5, none⟩ = some (.int .i64 ((rd_T26 l0_2 x3_2).f1.f4)) := (blk_cell B4_.out 5).trans rfl
                                  have hs4_6 : W2_.cell? ⟨gb304, 6, none⟩ = some (.slice A303_6 ((rd_T26 l0_2 x3_2).f1.f5).length c303_6) := (blk_cell B4_.out 6).trans rfl
                                  have hs4_7 : W2_.cell? ⟨gb304, 7, none⟩ = some (.slice A303_7 ((rd_T26 l0_2 x3_2).f1.f6).length c303_7) := (blk_cell B4_.out 7).trans rfl
                                  have hs2_0 : W2_.cell? ⟨gb302, 0, none⟩ = some (.int .i64 a0_0) := (blk_cell B2_.out 0).trans rfl
                                  have hs2_1 : W2_.cell? ⟨gb302, 1, none⟩ = some (.int .i64 a0_1) := (blk_cell B2_.out 1).trans rfl
                                  have hs2_2 : W2_.cell? ⟨gb302, 2, none⟩ = some (.slice (some ad303) l0_2.length c0_2) := (blk_cell B2_.out 2).trans rfl
                                  have p305 : 0 ≤ ((ji28) : Int) := of_decide_eq_true (by first | (with_reducible assumption) | assumption)
                                  have q305 : (ji28) < (l0_2.length : Int) := of_decide_eq_true (by first | (with_reducible assumption) | assumption)
                                  obtain ⟨ad305, A305_6, c305_6, A305_7, c305_7, e305, hx305_0, hx305_1, hx305_2, hx305_3, hx305_4, hx305_5, hx305_6, hx305_7, hl305_6, hi305_6, hl305_7, hi305_7⟩ := at_T26 HR0_2.out (ji28) p305 q305
                                  obtain rfl : ad303 = ad305 := (by injection e305)
                                  clear hx305_1 hx305_2 hx305_3 hx305_4 hx305_5 hx305_6 hx305_7 hl305_6 hi305_6 hl305_7 hi305_7
                                  replace hx305_0 := (HB.out.cell (World.block_lt_of_cell? w _ hx305_0)).trans hx305_0
                                  replace p305 := eq_true p305
                                  replace q305 := eq_true q305
                                  repeat (go_quiet (fail); try go_wp2)
                                  go_ret
                                  exact ⟨by first | rfl | (simp [errW_none, errW_some] <;> rfl) | (simp only [← hji28]; first | rfl | (simp [errW_none, errW_some] <;> rfl)) | (simp [*, errW_none, errW_some] <;> rfl), by repeat (first | (with_reducible first | exact HB.out | apply below_alloc | apply pw_below_drewN | apply below_drew1 | refine below_set ?_ GE302.out | refine below_set ?_ GE304.out) | exact HB.out)⟩
                                · rw [if_neg c43] at H
                                  have c43b0 : decide (400 < (((rd_T26 l0_2 x3_2).f1.f6).length : Int)) = false := decide_eq_false c43
                                  have c43b1 : decide (400 < ((rd_T26 l0_2 x3_2).f1.f6).length) = false := decide_eq_false (by omega)
                                  clear c43
                                  have H' := Aside0.mk H
                                  clear H
                                  have hcz49_0 : wr.cell? ⟨gb302, 0, none⟩ = some (.int .i64 a0_0) := (blk_cell BK302.out 0).trans rfl
                                  have hcz49_1 : wr.cell? ⟨gb302, 1, none⟩ = some (.int .i64 a0_1) := (blk_cell BK302.out 1).trans rfl
                                  have hcz49_2 : wr.cell? ⟨gb302, 2, none⟩ = some (.slice A0_2 l0_2.length c0_2) := (blk_cell BK302.out 2).trans rfl
                                  have hfz49_0 := blk_frozen BK302.out 0
                                  have hfz49_1 := blk_frozen BK302.out 1
                                  have hfz49_2 := blk_frozen BK302.out 2
                                  have p303 : 0 ≤ (x3_2 : Int) := of_decide_eq_true (by first | (with_reducible assumption) | assumption)
                                  have q303 : x3_2 < (l0_2.length : Int) := of_decide_eq_true (by first | (with_reducible assumption) | assumption)
                                  obtain ⟨ad303, A303_6, c303_6, A303_7, c303_7, e303, hx303_0, hx303_1, hx303_2, hx303_3, hx303_4, hx303_5, hx303_6, hx303_7, hl303_6, hi303_6, hl303_7, hi303_7⟩ := at_T26 HR0_2.out x3_2 p303 q303
                                  cases e303
                                  replace hx303_0 := (HB.out.cell (World.block_lt_of_cell? w _ hx303_0)).trans hx303_0
                                  replace hx303_1 := (HB.out.cell (World.block_lt_of_cell? w _ hx303_1)).trans hx303_1
                                  replace hx303_2 := (HB.out.cell (World.block_lt_of_cell? w _ hx303_2)).trans hx303_2
                                  replace hx303_3 := (HB.out.cell (World.block_lt_of_cell? w _ hx303_3)).trans hx303_3
                                  replace hx303_4 := (HB.out.cell (World.block_lt_of_cell? w _ hx303_4)).trans hx303_4
                                  replace hx303_5 := (HB.out.cell (World.block_lt_of_cell? w _ hx303_5)).trans hx303_5
                                  replace hx303_6 := (HB.out.cell (World.block_lt_of_cell? w _ hx303_6)).trans hx303_6
                                  replace hx303_7 := (HB.out.cell (World.block_lt_of_cell? w _ hx303_7)).trans hx303_7
                                  have HR303_6 := Aside0.mk hi303_6
                                  have HC303_6 := Aside0.mk hl303_6
                                  clear hi303_6 hl303_6
                                  have HR303_7 := Aside0.mk hi303_7
                                  have HC303_7 := Aside0.mk hl303_7
                                  clear hi303_7 hl303_7
                                  replace p303 := eq_true p303
                                  replace q303 := eq_true q303
                                  go_wp2_with (first | ((with_reducible refine gate_dst (N := 4) rfl ?_); (try (refine gate_guard (by rfl) ?_; dsimp only)); refine box_event ?hg (N := 4) ?hd (cs := #[.int .i64 0, .int .i64 0, .int .i64 0, .int .i64 0, .int .i64 0, .int .i64 0, .slice none 0 0, .slice none 0 0]) (t := 26) ?hr ?_; (case hd => rfl); (case hg => rfl); (case hr => first | (go_simp; done) | (go_simp; rfl)); intro gb304 hg w50 hbox hb; have n0_ := Aside0.mk (blk_below (g := gb302) (o := .cells #[.int .i64 a0_0, .int .i64 a0_1, .slice (some ad303) l0_2.length c0_2] 42 (0, 0)) (by (with_reducible repeat (first | refine blk_drewN ?_ _ | refine blk_drew ?_ | refine blk_alloc ?_ _)); exact BK302.out) hb); have n1_ := Aside0.mk (below_step (by repeat (first | (with_reducible first | exact HB.out | apply below_alloc | apply pw_below_drewN | apply below_drew1 | refine below_set ?_ GE302.out) | exact HB.out)) hb); have n2_ := Aside0.mk (hbox); have n3_ := Aside0.mk ((by rw [hg]; exact (below_size (by repeat (first | (with_reducible first | exact HB.out | apply below_alloc | apply pw_below_drewN | apply below_drew1 | refine below_set ?_ GE302.out) | exact HB.out))) : w.heap.size ≤ gb304)); have n4_ := Aside0.mk ((by rw [hg]; exact (below_size (by repeat (first | (with_reducible first | exact HB.out | apply below_alloc | apply pw_below_drewN | apply below_drew1 | refine below_set ?_ GE302.out) | exact HB.out))) : w.heap.size ≤ gb304)); have n5_ := Aside0.mk ((by rw [hg]; exact Nat.ne_of_lt (blk_lt (g := gb302) (o := .cells #[.int .i64 a0_0, .int .i64 a0_1, .slice (some ad303) l0_2.length c0_2] 42 (0, 0)) (by (with_reducible repeat (first | refine blk_drewN ?_ _ | refine blk_drew ?_ | refine blk_alloc ?_ _)); exact BK302.out)) : gb302 ≠ gb304)); have n6_ := Aside0.mk ((by rw [hg]; exact Nat.ne_of_gt (blk_lt (g := gb302) (o := .cells #[.int .i64 a0_0, .int .i64 a0_1, .slice (some ad303) l0_2.length c0_2] 42 (0, 0)) (by (with_reducible repeat (first | refine blk_drewN ?_ _ | refine blk_drew ?_ | refine blk_alloc ?_ _)); exact BK302.out)) : gb304 ≠ gb302)); clear BK302; clear HB; have BK302 := n0_; have HB := n1_; have BK304 := n2_; have GW304 := n3_; have GE304 := n4_; have NB302_304 := n5_; have NB304_302 := n6_; clear n0_ n1_ n2_ n3_ n4_ n5_ n6_; clear hb hbox hg; have hnb51 := NB304_302.out; have hnc51 := NB302_304.out; have hcz52_0 : w50.cell? ⟨gb304, 0, none⟩ = some (.int .i64 0) := (blk_cell BK304.out 0).trans rfl; have hcz52_1 : w50.cell? ⟨gb304, 1, none⟩ = some (.int .i64 0) := (blk_cell BK304.out 1).trans rfl; have hcz52_2 : w50.cell? ⟨gb304, 2, none⟩ = some (.int .i64 0) := (blk_cell BK304.out 2).trans rfl; have hcz52_3 : w50.cell? ⟨gb304, 3, none⟩ = some (.int .i64 0) := (blk_cell BK304.out 3).trans rfl; have hcz52_4 : w50.cell? ⟨gb304, 4, none⟩ = some (.int .i64 0) := (blk_cell BK304.out 4).trans rfl; have hcz52_5 : w50.cell? ⟨gb304, 5, none⟩ = some (.int .i64 0) := (blk_cell BK304.out 5).trans rfl; have hcz52_6 : w50.cell? ⟨gb304, 6, none⟩ = some (.slice none 0 0) := (blk_cell BK304.out 6).trans rfl; have hcz52_7 : w50.cell? ⟨gb304, 7, none⟩ = some (.slice none 0 0) := (blk_cell BK304.out 7).trans rfl; have hfz52_0 := blk_frozen BK304.out 0; have hfz52_1 := blk_frozen BK304.out 1; have hfz52_2 := blk_frozen BK304.out 2; have hfz52_3 := blk_frozen BK304.out 3; have hfz52_4 := blk_frozen BK304.out 4; have hfz52_5 := blk_frozen BK304.out 5; have hfz52_6 := blk_frozen BK304.out 6; have hfz52_7 := blk_frozen BK304.out 7; have hcz53_0 : w50.cell? ⟨gb302, 0, none⟩ = some (.int .i64 a0_0) := (blk_cell BK302.out 0).trans rfl; have hcz53_1 : w50.cell? ⟨gb302, 1, none⟩ = some (.int .i64 a0_1) := (blk_cell BK302.out 1).trans rfl; have hcz53_2 : w50.cell? ⟨gb302, 2, none⟩ = some (.slice (some ad303) l0_2.length c0_2) := (blk_cell BK302.out 2).trans rfl; have hfz53_0 := blk_frozen BK302.out 0; have hfz53_1 := blk_frozen BK302.out 1; have hfz53_2 := blk_frozen BK302.out 2))
                                  obtain ⟨W2_, hW2_⟩ : ∃ W_ : World, W_ = ((((((((w50.setCell ⟨gb304, 0, none⟩ (.int .i64 ((rd_T26 l0_2 x3_2).f0))).setCell ⟨gb304, 1, none⟩ (.int .i64 ((rd_T26 l0_2 x3_2).f1.f0))).setCell ⟨gb304, 2, none⟩ (.int .i64 ((rd_T26 l0_2 x3_2).f1.f1))).setCell ⟨gb304, 3, none⟩ (.int .i64 ((rd_T26 l0_2 x3_2).f1.f2))).setCell ⟨gb304, 4, none⟩ (.int .i64 ((rd_T26 l0_2 x3_2).f1.f3))).setCell ⟨gb304, 5, none⟩ (.int .i64 ((rd_T26 l0_2 x3_2).f1.f4))).setCell ⟨gb304, 6, none⟩ (.slice A303_6 ((rd_T26 l0_2 x3_2).f1.f5).length c303_6)).setCell ⟨gb304, 7, none⟩ (.slice A303_7 ((rd_T26 l0_2 x3_2).f1.f6).length c303_7)) := ⟨_, rfl⟩
                                  (first | rw [← hW2_] | skip)
                                  have B4_ := Aside0.mk (show W2_.heap[gb304]? = some (.cells #[.int .i64 ((rd_T26 l0_2 x3_2).f0), .int .i64 ((rd_T26 l0_2 x3_2).f1.f0), .int .i64 ((rd_T26 l0_2 x3_2).f1.f1), .int .i64 ((rd_T26 l0_2 x3_2).f1.f2), .int .i64 ((rd_T26 l0_2 x3_2).f1.f3), .int .i64 ((rd_T26 l0_2 x3_2).f1.f4), .slice A303_6 ((rd_T26 l0_2 x3_2).f1.f5).length c303_6, .slice A303_7 ((rd_T26 l0_2 x3_2).f1.f6).length c303_7] 26 (0, 0)) by rw [hW2_]; exact ow_put8 BK304.out)
                                  have B2_ := Aside0.mk (show W2_.heap[gb302]? = some (.cells #[.int .i64 a0_0, .int .i64 a0_1, .slice (some ad303) l0_2.length c0_2] 42 (0, 0)) by rw [hW2_]; exact ow_far8 BK302.out NB302_304.out)
                                  have BB_ := Aside0.mk (show Below w.heap.size w W2_ by rw [hW2_]; exact ow_below8 HB.out GE304.out)
                                  clear hW2_ HB
                                  have HB := BB_
                                  have hs4_0 : W2_.cell? ⟨gb304, 0, none⟩ = some (.int .i64 ((rd_T26 l0_2 x3_2).f0)) := (blk_cell B4_.out 0).trans rfl
                                  have hs4_1 : W2_.cell? ⟨gb304, 1, none⟩ = some (.int .i64 ((rd_T26 l0_2 x3_2).f1.f0)) := (blk_cell B4_.out 1).trans rfl
                                  have hs4_2 : W2_.cell? ⟨gb304, 2, none⟩ = some (.int .i64 ((rd_T26 l0_2 x3_2).f1.f1)) := (blk_cell B4_.out 2).trans rfl
                                  have hs4_3 : W2_.cell? ⟨gb304, 3, none⟩ = some (.int .i64 ((rd_T26 l0_2 x3_2).f1.f2)) := (blk_cell B4_.out 3).trans rfl
                                  have hs4_4 : W2_.cell? ⟨gb304, 4, none⟩ = some (.int .i64 ((rd_T26 l0_2 x3_2).f1.f3)) := (blk_cell B4_.out 4).trans rfl
                                  have hs4_5 : W2_.cell? ⟨gb304, 5, none⟩ = some (.int .i64 ((rd_T26 l0_2 x3_2).f1.f4)) := (blk_cell B4_.out 5).trans rfl
                                  have hs4_6 : W2_.cell? ⟨gb304, 6, none⟩ = some (.slice A303_6 ((rd_T26 l0_2 x3_2).f1.f5).length c303_6) := (blk_cell B4_.out 6).trans rfl
                                  have hs4_7 : W2_.cell? ⟨gb304, 7, none⟩ = some (.slice A303_7 ((rd_T26 l0_2 x3_2).f1.f6).length c303_7) := (blk_cell B4_.out 7).trans rfl
                                  have hs2_0 : W2_.cell? ⟨gb302, 0, none⟩ = some (.int .i64 a0_0) := (blk_cell B2_.out 0).trans rfl
                                  have hs2_1 : W2_.cell? ⟨gb302, 1, none⟩ = some (.int .i64 a0_1) := (blk_cell B2_.out 1).trans rfl
                                  have hs2_2 : W2_.cell? ⟨gb302, 2, none⟩ = some (.slice (some ad303) l0_2.length c0_2) := (blk_cell B2_.out 2).trans rfl
                                  have p305 : 0 ≤ ((ji28) : Int) := of_decide_eq_true (by first | (with_reducible assumption) | assumption)
                                  have q305 : (ji28) < (l0_2.length : Int) := of_decide_eq_true (by first | (with_reducible assumption) | assumption)
                                  obtain ⟨ad305, A305_6, c305_6, A305_7, c305_7, e305, hx305_0, hx305_1, hx305_2, hx305_3, hx305_4, hx305_5, hx305_6, hx305_7, hl305_6, hi305_6, hl305_7, hi305_7⟩ := at_T26 HR0_2.out (ji28) p305 q305
                                  obtain rfl : ad303 = ad305 := (by injection e305)
                                  clear hx305_1 hx305_2 hx305_3 hx305_4 hx305_5 hx305_6 hx305_7 hl305_6 hi305_6 hl305_7 hi305_7
                                  replace hx305_0 := (HB.out.cell (World.block_lt_of_cell? w _ hx305_0)).trans hx305_0
                                  replace p305 := eq_true p305
                                  replace q305 := eq_true q305
                                  repeat (go_quiet (fail); try go_wp2)
                                  go_roundg k2
                                  case measure => have := HJ4.out; have := HK2.out; omega
                                  case rel => exact ⟨(wrap64 (x3_2 + 1)), (by first | rfl | (simp; done) | (simp [*]; done)), H', ⟨by have := HJ4.out; have := HK2.out; omega⟩, ⟨by repeat (first | exact B2_.out | refine blk_drewN ?_ _ | refine blk_drew ?_)⟩, ⟨by repeat (first | (with_reducible first | exact HB.out | apply below_alloc | apply pw_below_drewN | apply below_drew1 | refine below_set ?_ GE302.out | refine below_set ?_ GE304.out) | exact HB.out)⟩⟩
                          · rw [if_neg c30] at H
                            exact absurd H (by simp)
                        · rw [if_neg c29] at H
                          exact absurd H (by simp)
                      · rw [if_neg c27] at H
                        have c27b0 : decide (0 < x3_2) = false := decide_eq_false c27
                        clear c27
                        by_cases c54 : (((rd_T26 l0_2 x3_2).f1.f5).length : Int) > 400
                        · rw [if_pos c54] at H
                          have c54b0 : decide (400 < (((rd_T26 l0_2 x3_2).f1.f5).length : Int)) = true := decide_eq_true c54
                          have c54b1 : decide (400 < ((rd_T26 l0_2 x3_2).f1.f5).length) = true := decide_eq_true (by omega)
                          clear c54
                          obtain rfl := Option.some.inj H
                          have hcz55_0 : wr.cell? ⟨gb302, 0, none⟩ = some (.int .i64 a0_0) := (blk_cell BK302.out 0).trans rfl
                          have hcz55_1 : wr.cell? ⟨gb302, 1, none⟩ = some (.int .i64 a0_1) := (blk_cell BK302.out 1).trans rfl
                          have hcz55_2 : wr.cell? ⟨gb302, 2, none⟩ = some (.slice A0_2 l0_2.length c0_2) := (blk_cell BK302.out 2).trans rfl
                          have hfz55_0 := blk_frozen BK302.out 0
                          have hfz55_1 := blk_frozen BK302.out 1
                          have hfz55_2 := blk_frozen BK302.out 2
                          have p303 : 0 ≤ (x3_2 : Int) := of_decide_eq_true (by first | (with_reducible assumption) | assumption)
                          have q303 : x3_2 < (l0_2.length : Int) := of_decide_eq_true (by first | (with_reducible assumption) | assumption)
                          obtain ⟨ad303, A303_6, c303_6, A303_7, c303_7, e303, hx303_0, hx303_1, hx303_2, hx303_3, hx303_4, hx303_5, hx303_6, hx303_7, hl303_6, hi303_6, hl303_7, hi303_7⟩ := at_T26 HR0_2.out x3_2 p303 q303
                          cases e303
                          replace hx303_0 := (HB.out.cell (World.block_lt_of_cell? w _ hx303_0)).trans hx303_0
                          replace hx303_1 := (HB.out.cell (World.block_lt_of_cell? w _ hx303_1)).trans hx303_1
                          replace hx303_2 := (HB.out.cell (World.block_lt_of_cell? w _ hx303_2)).trans hx303_2
                          replace hx303_3 := (HB.out.cell (World.block_lt_of_cell? w _ hx303_3)).trans hx303_3
                          replace hx303_4 := (HB.out.cell (World.block_lt_of_cell? w _ hx303_4)).trans hx303_4
                          replace hx303_5 := (HB.out.cell (World.block_lt_of_cell? w _ hx303_5)).trans hx303_5
                          replace hx303_6 := (HB.out.cell (World.block_lt_of_cell? w _ hx303_6)).trans hx303_6
                          replace hx303_7 := (HB.out.cell (World.block_lt_of_cell? w _ hx303_7)).trans hx303_7
                          have HR303_6 := Aside0.mk hi303_6
                          have HC303_6 := Aside0.mk hl303_6
                          clear hi303_6 hl303_6
                          have HR303_7 := Aside0.mk hi303_7
                          have HC303_7 := Aside0.mk hl303_7
                          clear hi303_7 hl303_7
                          replace p303 := eq_true p303
                          replace q303 := eq_true q303
                          go_wp2_with (first | ((with_reducible refine gate_dst (N := 4) rfl ?_); (try (refine gate_guard (by rfl) ?_; dsimp only)); refine box_event ?hg (N := 4) ?hd (cs := #[.int .i64 0, .int .i64 0, .int .i64 0, .int .i64 0, .int .i64 0, .int .i64 0, .slice none 0 0, .slice none 0 0]) (t := 26) ?hr ?_; (case hd => rfl); (case hg => rfl); (case hr => first | (go_simp; done) | (go_simp; rfl)); intro gb304 hg w56 hbox hb; have n0_ := Aside0.mk (blk_below (g := gb302) (o := .cells #[.int .i64 a0_0, .int .i64 a0_1, .slice (some ad303) l0_2.length c0_2] 42 (0, 0)) (by (with_reducible repeat (first | refine blk_drewN ?_ _ | refine blk_drew ?_ | refine blk_alloc ?_ _)); exact BK302.out) hb); have n1_ := Aside0.mk (below_step (by repeat (first | (with_reducible first | exact HB.out | apply below_alloc | apply pw_below_drewN | apply below_drew1 | refine below_set ?_ GE302.out) | exact HB.out)) hb); have n2_ := Aside0.mk (hbox); have n3_ := Aside0.mk ((by rw [hg]; exact (below_size (by repeat (first | (with_reducible first | exact HB.out | apply below_alloc | apply pw_below_drewN | apply below_drew1 | refine below_set ?_ GE302.out) | exact HB.out))) : w.heap.size ≤ gb304)); have n4_ := Aside0.mk ((by rw [hg]; exact (below_size (by repeat (first | (with_reducible first | exact HB.out | apply below_alloc | apply pw_below_drewN | apply below_drew1 | refine below_set ?_ GE302.out) | exact HB.out))) : w.heap.size ≤ gb304)); have n5_ := Aside0.mk ((by rw [hg]; exact Nat.ne_of_lt (blk_lt (g := gb302) (o := .cells #[.int .i64 a0_0, .int .i64 a0_1, .slice (some ad303) l0_2.length c0_2] 42 (0, 0)) (by (with_reducible repeat (first | refine blk_drewN ?_ _ | refine blk_drew ?_ | refine blk_alloc ?_ _)); exact BK302.out)) : gb302 ≠ gb304)); have n6_ := Aside0.mk ((by rw [hg]; exact Nat.ne_of_gt (blk_lt (g := gb302) (o := .cells #[.int .i64 a0_0, .int .i64 a0_1, .slice (some ad303) l0_2.length c0_2] 42 (0, 0)) (by (with_reducible repeat (first | refine blk_drewN ?_ _ | refine blk_drew ?_ | refine blk_alloc ?_ _)); exact BK302.out)) : gb304 ≠ gb302)); clear BK302; clear HB; have BK302 := n0_; have HB := n1_; have BK304 := n2_; have GW304 := n3_; have GE304 := n4_; have NB302_304 := n5_; have NB304_302 := n6_; clear n0_ n1_ n2_ n3_ n4_ n5_ n6_; clear hb hbox hg; have hnb57 := NB304_302.out; have hnc57 := NB302_304.out; have hcz58_0 : w56.cell? ⟨gb304, 0, none⟩ = some (.int .i64 0) := (blk_cell BK304.out 0).trans rfl; have hcz58_1 : w56.cell? ⟨gb304, 1, none⟩ = some (.int .i64 0) := (blk_cell BK304.out 1).trans rfl; have hcz58_2 : w56.cell? ⟨gb304, 2, none⟩ = some (.int .i64 0) := (blk_cell BK304.out 2).trans rfl; have hcz58_3 : w56.cell? ⟨gb304, 3, none⟩ = some (.int .i64 0) := (blk_cell BK304.out 3).trans rfl; have hcz58_4 : w56.cell? ⟨gb304, 4, none⟩ = some (.int .i64 0) := (blk_cell BK304.out 4).trans rfl; have hcz58_5 : w56.cell? ⟨gb304, 5, none⟩ = some (.int .i64 0) := (blk_cell BK304.out 5).trans rfl; have hcz58_6 : w56.cell? ⟨gb304, 6, none⟩ = some (.slice none 0 0) := (blk_cell BK304.out 6).trans rfl; have hcz58_7 : w56.cell? ⟨gb304, 7, none⟩ = some (.slice none 0 0) := (blk_cell BK304.out 7).trans rfl; have hfz58_0 := blk_frozen BK304.out 0; have hfz58_1 := blk_frozen BK304.out 1; have hfz58_2 := blk_frozen BK304.out 2; have hfz58_3 := blk_frozen BK304.out 3; have hfz58_4 := blk_frozen BK304.out 4; have hfz58_5 := blk_frozen BK304.out 5; have hfz58_6 := blk_frozen BK304.out 6; have hfz58_7 := blk_frozen BK304.out 7; have hcz59_0 : w56.cell? ⟨gb302, 0, none⟩ = some (.int .i64 a0_0) := (blk_cell BK302.out 0).trans rfl; have hcz59_1 : w56.cell? ⟨gb302, 1, none⟩ = some (.int .i64 a0_1) := (blk_cell BK302.out 1).trans rfl; have hcz59_2 : w56.cell? ⟨gb302, 2, none⟩ = some (.slice (some ad303) l0_2.length c0_2) := (blk_cell BK302.out 2).trans rfl; have hfz59_0 := blk_frozen BK302.out 0; have hfz59_1 := blk_frozen BK302.out 1; have hfz59_2 := blk_frozen BK302.out 2))
                          obtain ⟨W2_, hW2_⟩ : ∃ W_ : World, W_ = ((((((((w56.setCell ⟨gb304, 0, none⟩ (.int .i64 ((rd_T26 l0_2 x3_2).f0))).setCell ⟨gb304, 1, none⟩ (.int .i64 ((rd_T26 l0_2 x3_2).f1.f0))).setCell ⟨gb304, 2, none⟩ (.int .i64 ((rd_T26 l0_2 x3_2).f1.f1))).setCell ⟨gb304, 3, none⟩ (.int .i64 ((rd_T26 l0_2 x3_2).f1.f2))).setCell ⟨gb304, 4, none⟩ (.int .i64 ((rd_T26 l0_2 x3_2).f1.f3))).setCell ⟨gb304, 5, none⟩ (.int .i64 ((rd_T26 l0_2 x3_2).f1.f4))).setCell ⟨gb304, 6, none⟩ (.slice A303_6 ((rd_T26 l0_2 x3_2).f1.f5).length c303_6)).setCell ⟨gb304, 7, none⟩ (.slice A303_7 ((rd_T26 l0_2 x3_2).f1.f6).length c303_7)) := ⟨_, rfl⟩
                          (first | rw [← hW2_] | skip)
                          have B4_ := Aside0.mk (show W2_.heap[gb304]? = some (.cells #[.int .i64 ((rd_T26 l0_2 x3_2).f0), .int .i64 ((rd_T26 l0_2 x3_2).f1.f0), .int .i64 ((rd_T26 l0_2 x3_2).f1.f1), .int .i64 ((rd_T26 l0_2 x3_2).f1.f2), .int .i64 ((rd_T26 l0_2 x3_2).f1.f3), .int .i64 ((rd_T26 l0_2 x3_2).f1.f4), .slice A303_6 ((rd_T26 l0_2 x3_2).f1.f5).length c303_6, .slice A303_7 ((rd_T26 l0_2 x3_2).f1.f6).length c303_7] 26 (0, 0)) by rw [hW2_]; exact ow_put8 BK304.out)
                          have B2_ := Aside0.mk (show W2_.heap[gb302]? = some (.cells #[.int .i64 a0_0, .int .i64 a0_1, .slice (some ad303) l0_2.length c0_2] 42 (0, 0)) by rw [hW2_]; exact ow_far8 BK302.out NB302_304.out)
                          have BB_ := Aside0.mk (show Below w.heap.size w W2_ by rw [hW2_]; exact ow_below8 HB.out GE304.out)
                          clear hW2_ HB
                          have HB := BB_
                          have hs4_0 : W2_.cell? ⟨gb304, 0, none⟩ = some (.int .i64 ((rd_T26 l0_2 x3_2).f0)) := (blk_cell B4_.out 0).trans rfl
                          have hs4_1 : W2_.cell? ⟨gb304, 1, none⟩ = some (.int .i64 ((rd_T26 l0_2 x3_2).f1.f0)) := (blk_cell B4_.out 1).trans rfl
                          have hs4_2 : W2_.cell? ⟨gb304, 2, none⟩ = some (.int .i64 ((rd_T26 l0_2 x3_2).f1.f1)) := (blk_cell B4_.out 2).trans rfl
                          have hs4_3 : W2_.cell? ⟨gb304, 3, none⟩ = some (.int .i64 ((rd_T26 l0_2 x3_2).f1.f2)) := (blk_cell B4_.out 3).trans rfl
                          have hs4_4 : W2_.cell? ⟨gb304, 4, none⟩ = some (.int .i64 ((rd_T26 l0_2 x3_2).f1.f3)) := (blk_cell B4_.out 4).trans rfl
                          have hs4_5 : W2_.cell? ⟨gb304, 5, none⟩ = some (.int .i64 ((rd_T26 l0_2 x3_2).f1.f4)) := (blk_cell B4_.out 5).trans rfl
                          have hs4_6 : W2_.cell? ⟨gb304, 6, none⟩ = some (.slice A303_6 ((rd_T26 l0_2 x3_2).f1.f5).length c303_6) := (blk_cell B4_.out 6).trans rfl
                          have hs4_7 : W2_.cell? ⟨gb304, 7, none⟩ = some (.slice A303_7 ((rd_T26 l0_2 x3_2).f1.f6).length c303_7) := (blk_cell B4_.out 7).trans rfl
                          have hs2_0 : W2_.cell? ⟨gb302, 0, none⟩ = some (.int .i64 a0_0) := (blk_cell B2_.out 0).trans rfl
                          have hs2_1 : W2_.cell? ⟨gb302, 1, none⟩ = some (.int .i64 a0_1) := (blk_cell B2_.out 1).trans rfl
                          have hs2_2 : W2_.cell? ⟨gb302, 2, none⟩ = some (.slice (some ad303) l0_2.length c0_2) := (blk_cell B2_.out 2).trans rfl
                          repeat (go_quiet (fail); try go_wp2)
                          go_ret
                          exact ⟨by first | rfl | (simp [errW_none, errW_some] <;> rfl) | (simp [*, errW_none, errW_some] <;> rfl), by repeat (first | (with_reducible first | exact HB.out | apply below_alloc | apply pw_below_drewN | apply below_drew1 | refine below_set ?_ GE302.out | refine below_set ?_ GE304.out) | exact HB.out)⟩
                        · rw [if_neg c54] at H
                          have c54b0 : decide (400 < (((rd_T26 l0_2 x3_2).f1.f5).length : Int)) = false := decide_eq_false c54
                          have c54b1 : decide (400 < ((rd_T26 l0_2 x3_2).f1.f5).length) = false := decide_eq_false (by omega)
                          clear c54
                          by_cases c60 : (((rd_T26 l0_2 x3_2).f1.f6).length : Int) > 400
                          · rw [if_pos c60] at H
                            have c60b0 : decide (400 < (((rd_T26 l0_2 x3_2).f1.f6).length : Int)) = true := decide_eq_true c60
                            have c60b1 : decide (400 < ((rd_T26 l0_2 x3_2).f1.f6).length) = true := decide_eq_true (by omega)
                            clear c60
                            obtain rfl := Option.some.inj H
                            have hcz61_0 : wr.cell? ⟨gb302, 0, none⟩ = some (.int .i64 a0_0) := (blk_cell BK302.out 0).trans rfl
                            have hcz61_1 : wr.cell? ⟨gb302, 1, none⟩ = some (.int .i64 a0_1) := (blk_cell BK302.out 1).trans rfl
                            have hcz61_2 : wr.cell? ⟨gb302, 2, none⟩ = some (.slice A0_2 l0_2.length c0_2) := (blk_cell BK302.out 2).trans rfl
                            have hfz61_0 := blk_frozen BK302.out 0
                            have hfz61_1 := blk_frozen BK302.out 1
                            have hfz61_2 := blk_frozen BK302.out 2
                            have p303 : 0 ≤ (x3_2 : Int) := of_decide_eq_true (by first | (with_reducible assumption) | assumption)
                            have q303 : x3_2 < (l0_2.length : Int) := of_decide_eq_true (by first | (with_reducible assumption) | assumption)
                            obtain ⟨ad303, A303_6, c303_6, A303_7, c303_7, e303, hx303_0, hx303_1, hx303_2, hx303_3, hx303_4, hx303_5, hx303_6, hx303_7, hl303_6, hi303_6, hl303_7, hi303_7⟩ := at_T26 HR0_2.out x3_2 p303 q303
                            cases e303
                            replace hx303_0 := (HB.out.cell (World.block_lt_of_cell? w _ hx303_0)).trans hx303_0
                            replace hx303_1 := (HB.out.cell (World.block_lt_of_cell? w _ hx303_1)).trans hx303_1
                            replace hx303_2 := (HB.out.cell (World.block_lt_of_cell? w _ hx303_2)).trans hx303_2
                            replace hx303_3 := (HB.out.cell (World.block_lt_of_cell? w _ hx303_3)).trans hx303_3
                            replace hx303_4 := (HB.out.cell (World.block_lt_of_cell? w _ hx303_4)).trans hx303_4
                            replace hx303_5 := (HB.out.cell (World.block_lt_of_cell? w _ hx303_5)).trans hx303_5
                            replace hx303_6 := (HB.out.cell (World.block_lt_of_cell? w _ hx303_6)).trans hx303_6
                            replace hx303_7 := (HB.out.cell (World.block_lt_of_cell? w _ hx303_7)).trans hx303_7
                            have HR303_6 := Aside0.mk hi303_6
                            have HC303_6 := Aside0.mk hl303_6
                            clear hi303_6 hl303_6
                            have HR303_7 := Aside0.mk hi303_7
                            have HC303_7 := Aside0.mk hl303_7
                            clear hi303_7 hl303_7
                            replace p303 := eq_true p303
                            replace q303 := eq_true q303
                            go_wp2_with (first | ((with_reducible refine gate_dst (N := 4) rfl ?_); (try (refine gate_guard (by rfl) ?_; dsimp only)); refine box_event ?hg (N := 4) ?hd (cs := #[.int .i64 0, .int .i64 0, .int .i64 0, .int .i64 0, .int .i64 0, .int .i64 0, .slice none 0 0, .slice none 0 0]) (t := 26) ?hr ?_; (case hd => rfl); (case hg => rfl); (case hr => first | (go_simp; done) | (go_simp; rfl)); intro gb304 hg w62 hbox hb; have n0_ := Aside0.mk (blk_below (g := gb302) (o := .cells #[.int .i64 a0_0, .int .i64 a0_1, .slice (some ad303) l0_2.length c0_2] 42 (0, 0)) (by (with_reducible repeat (first | refine blk_drewN ?_ _ | refine blk_drew ?_ | refine blk_alloc ?_ _)); exact BK302.out) hb); have n1_ := Aside0.mk (below_step (by repeat (first | (with_reducible first | exact HB.out | apply below_alloc | apply pw_below_drewN | apply below_drew1 | refine below_set ?_ GE302.out) | exact HB.out)) hb); have n2_ := Aside0.mk (hbox); have n3_ := Aside0.mk ((by rw [hg]; exact (below_size (by repeat (first | (with_reducible first | exact HB.out | apply below_alloc | apply pw_below_drewN | apply below_drew1 | refine below_set ?_ GE302.out) | exact HB.out))) : w.heap.size ≤ gb304)); have n4_ := Aside0.mk ((by rw [hg]; exact (below_size (by repeat (first | (with_reducible first | exact HB.out | apply below_alloc | apply pw_below_drewN | apply below_drew1 | refine below_set ?_ GE302.out) | exact HB.out))) : w.heap.size ≤ gb304)); have n5_ := Aside0.mk ((by rw [hg]; exact Nat.ne_of_lt (blk_lt (g := gb302) (o := .cells #[.int .i64 a0_0, .int .i64 a0_1, .slice (some ad303) l0_2.length c0_2] 42 (0, 0)) (by (with_reducible repeat (first | refine blk_drewN ?_ _ | refine blk_drew ?_ | refine blk_alloc ?_ _)); exact BK302.out)) : gb302 ≠ gb304)); have n6_ := Aside0.mk ((by rw [hg]; exact Nat.ne_of_gt (blk_lt (g := gb302) (o := .cells #[.int .i64 a0_0, .int .i64 a0_1, .slice (some ad303) l0_2.length c0_2] 42 (0, 0)) (by (with_reducible repeat (first | refine blk_drewN ?_ _ | refine blk_drew ?_ | refine blk_alloc ?_ _)); exact BK302.out)) : gb304 ≠ gb302)); clear BK302; clear HB; have BK302 := n0_; have HB := n1_; have BK304 := n2_; have GW304 := n3_; have GE304 := n4_; have NB302_304 := n5_; have NB304_302 := n6_; clear n0_ n1_ n2_ n3_ n4_ n5_ n6_; clear hb hbox hg; have hnb63 := NB304_302.out; have hnc63 := NB302_304.out; have hcz64_0 : w62.cell? ⟨gb304, 0, none⟩ = some (.int .i64 0) := (blk_cell BK304.out 0).trans rfl; have hcz64_1 : w62.cell? ⟨gb304, 1, none⟩ = some (.int .i64 0) := (blk_cell BK304.out 1).trans rfl; have hcz64_2 : w62.cell? ⟨gb304, 2, none⟩ = some (.int .i64 0) := (blk_cell BK304.out 2).trans rfl; have hcz64_3 : w62.cell? ⟨gb304, 3, none⟩ = some (.int .i64 0) := (blk_cell BK304.out 3).trans rfl; have hcz64_4 : w62.cell? ⟨gb304, 4, none⟩ = some (.int .i64 0) := (blk_cell BK304.out 4).trans rfl; have hcz64_5 : w62.cell? ⟨gb304, 5, none⟩ = some (.int .i64 0) := (blk_cell BK304.out 5).trans rfl; have hcz64_6 : w62.cell? ⟨gb304, 6, none⟩ = some (.slice none 0 0) := (blk_cell BK304.out 6).trans rfl; have hcz64_7 : w62.cell? ⟨gb304, 7, none⟩ = some (.slice none 0 0) := (blk_cell BK304.out 7).trans rfl; have hfz64_0 := blk_frozen BK304.out 0; have hfz64_1 := blk_frozen BK304.out 1; have hfz64_2 := blk_frozen BK304.out 2; have hfz64_3 := blk_frozen BK304.out 3; have hfz64_4 := blk_frozen BK304.out 4; have hfz64_5 := blk_frozen BK304.out 5; have hfz64_6 := blk_frozen BK304.out 6; have hfz64_7 := blk_frozen BK304.out 7; have hcz65_0 : w62.cell? ⟨gb302, 0, none⟩ = some (.int .i64 a0_0) := (blk_cell BK302.out 0).trans rfl; have hcz65_1 : w62.cell? ⟨gb302, 1, none⟩ = some (.int .i64 a0_1) := (blk_cell BK302.out 1).trans rfl; have hcz65_2 : w62.cell? ⟨gb302, 2, none⟩ = some (.slice (some ad303) l0_2.length c0_2) := (blk_cell BK302.out 2).trans rfl; have hfz65_0 := blk_frozen BK302.out 0; have hfz65_1 := blk_frozen BK302.out 1; have hfz65_2 := blk_frozen BK302.out 2))
                            obtain ⟨W2_, hW2_⟩ : ∃ W_ : World, W_ = ((((((((w62.setCell ⟨gb304, 0, none⟩ (.int .i64 ((rd_T26 l0_2 x3_2).f0))).setCell ⟨gb304, 1, none⟩ (.int .i64 ((rd_T26 l0_2 x3_2).f1.f0))).setCell ⟨gb304, 2, none⟩ (.int .i64 ((rd_T26 l0_2 x3_2).f1.f1))).setCell ⟨gb304, 3, none⟩ (.int .i64 ((rd_T26 l0_2 x3_2).f1.f2))).setCell ⟨gb304, 4, none⟩ (.int .i64 ((rd_T26 l0_2 x3_2).f1.f3))).setCell ⟨gb304, 5, none⟩ (.int .i64 ((rd_T26 l0_2 x3_2).f1.f4))).setCell ⟨gb304, 6, none⟩ (.slice A303_6 ((rd_T26 l0_2 x3_2).f1.f5).length c303_6)).setCell ⟨gb304, 7, none⟩ (.slice A303_7 ((rd_T26 l0_2 x3_2).f1.f6).length c303_7)) := ⟨_, rfl⟩
                            (first | rw [← hW2_] | skip)
                            have B4_ := Aside0.mk (show W2_.heap[gb304]? = some (.cells #[.int .i64 ((rd_T26 l0_2 x3_2).f0), .int .i64 ((rd_T26 l0_2 x3_2).f1.f0), .int .i64 ((rd_T26 l0_2 x3_2).f1.f1), .int .i64 ((rd_T26 l0_2 x3_2).f1.f2), .int .i64 ((rd_T26 l0_2 x3_2).f1.f3), .int .i64 ((rd_T26 l0_2 x3_2).f1.f4), .slice A303_6 ((rd_T26 l0_2 x3_2).f1.f5).length c303_6, .slice A303_7 ((rd_T26 l0_2 x3_2).f1.f6).length c303_7] 26 (0, 0)) by rw [hW2_]; exact ow_put8 BK304.out)
                            have B2_ := Aside0.mk (show W2_.heap[gb302]? = some (.cells #[.int .i64 a0_0, .int .i64 a0_1, .slice (some ad303) l0_2.length c0_2] 42 (0, 0)) by rw [hW2_]; exact ow_far8 BK302.out NB302_304.out)
                            have BB_ := Aside0.mk (show Below w.heap.size w W2_ by rw [hW2_]; exact ow_below8 HB.out GE304.out)
                            clear hW2_ HB
                            have HB := BB_
                            have hs4_0 : W2_.cell? ⟨gb304, 0, none⟩ = some (.int .i64 ((rd_T26 l0_2 x3_2).f0)) := (blk_cell B4_.out 0).trans rfl
                            have hs4_1 : W2_.cell? ⟨gb304, 1, none⟩ = some (.int .i64 ((rd_T26 l0_2 x3_2).f1.f0)) := (blk_cell B4_.out 1).trans rfl
                            have hs4_2 : W2_.cell? ⟨gb304, 2, none⟩ = some (.int .i64 ((rd_T26 l0_2 x3_2).f1.f1)) := (blk_cell B4_.out 2).trans rfl
                            have hs4_3 : W2_.cell? ⟨gb304, 3, none⟩ = some (.int .i64 ((rd_T26 l0_2 x3_2).f1.f2)) := (blk_cell B4_.out 3).trans rfl
                            have hs4_4 : W2_.cell? ⟨gb304, 4, none⟩ = some (.int .i64 ((rd_T26 l0_2 x3_2).f1.f3)) := (blk_cell B4_.out 4).trans rfl
                            have hs4_5 : W2_.cell? ⟨gb304, 5, none⟩ = some (.int .i64 ((rd_T26 l0_2 x3_2).f1.f4)) := (blk_cell B4_.out 5).trans rfl
                            have hs4_6 : W2_.cell? ⟨gb304, 6, none⟩ = some (.slice A303_6 ((rd_T26 l0_2 x3_2).f1.f5).length c303_6) := (blk_cell B4_.out 6).trans rfl
                            have hs4_7 : W2_.cell? ⟨gb304, 7, none⟩ = some (.slice A303_7 ((rd_T26 l0_2 x3_2).f1.f6).length c303_7) := (blk_cell B4_.out 7).trans rfl
                            have hs2_0 : W2_.cell? ⟨gb302, 0, none⟩ = some (.int .i64 a0_0) := (blk_cell B2_.out 0).trans rfl
                            have hs2_1 : W2_.cell? ⟨gb302, 1, none⟩ = some (.int .i64 a0_1) := (blk_cell B2_.out 1).trans rfl
                            have hs2_2 : W2_.cell? ⟨gb302, 2, none⟩ = some (.slice (some ad303) l0_2.length c0_2) := (blk_cell B2_.out 2).trans rfl
                            repeat (go_quiet (fail); try go_wp2)
                            go_ret
                            exact ⟨by first | rfl | (simp [errW_none, errW_some] <;> rfl) | (simp [*, errW_none, errW_some] <;> rfl), by repeat (first | (with_reducible first | exact HB.out | apply below_alloc | apply pw_below_drewN | apply below_drew1 | refine below_set ?_ GE302.out | refine below_set ?_ GE304.out) | exact HB.out)⟩
                          · rw [if_neg c60] at H
                            have c60b0 : decide (400 < (((rd_T26 l0_2 x3_2).f1.f6).length : Int)) = false := decide_eq_false c60
                            have c60b1 : decide (400 < ((rd_T26 l0_2 x3_2).f1.f6).length) = false := decide_eq_false (by omega)
                            clear c60
                            have H' := Aside0.mk H
                            clear H
                            have hcz66_0 : wr.cell? ⟨gb302, 0, none⟩ = some (.int .i64 a0_0) := (blk_cell BK302.out 0).trans rfl
                            have hcz66_1 : wr.cell? ⟨gb302, 1, none⟩ = some (.int .i64 a0_1) := (blk_cell BK302.out 1).trans rfl
                            have hcz66_2 : wr.cell? ⟨gb302, 2, none⟩ = some (.slice A0_2 l0_2.length c0_2) := (blk_cell BK302.out 2).trans rfl
                            have hfz66_0 := blk_frozen BK302.out 0
                            have hfz66_1 := blk_frozen BK302.out 1
                            have hfz66_2 := blk_frozen BK302.out 2
                            have p303 : 0 ≤ (x3_2 : Int) := of_decide_eq_true (by first | (with_reducible assumption) | assumption)
                            have q303 : x3_2 < (l0_2.length : Int) := of_decide_eq_true (by first | (with_reducible assumption) | assumption)
                            obtain ⟨ad303, A303_6, c303_6, A303_7, c303_7, e303, hx303_0, hx303_1, hx303_2, hx303_3, hx303_4, hx303_5, hx303_6, hx303_7, hl303_6, hi303_6, hl303_7, hi303_7⟩ := at_T26 HR0_2.out x3_2 p303 q303
                            cases e303
                            replace hx303_0 := (HB.out.cell (World.block_lt_of_cell? w _ hx303_0)).trans hx303_0
                            replace hx303_1 := (HB.out.cell (World.block_lt_of_cell? w _ hx303_1)).trans hx303_1
                            replace hx303_2 := (HB.out.cell (World.block_lt_of_cell? w _ hx303_2)).trans hx303_2
                            replace hx303_3 := (HB.out.cell (World.block_lt_of_cell? w _ hx303_3)).trans hx303_3
                            replace hx303_4 := (HB.out.cell (World.block_lt_of_cell? w _ hx303_4)).trans hx303_4
                            replace hx303_5 := (HB.out.cell (World.block_lt_of_cell? w _ hx303_5)).trans hx303_5
                            replace hx303_6 := (HB.out.cell (World.block_lt_of_cell? w _ hx303_6)).trans hx303_6
                            replace hx303_7 := (HB.out.cell (World.block_lt_of_cell? w _ hx303_7)).trans hx303_7
                            have HR303_6 := Aside0.mk hi303_6
                            have HC303_6 := Aside0.mk hl303_6
                            clear hi303_6 hl303_6
                            have HR303_7 := Aside0.mk hi303_7
                            have HC303_7 := Aside0.mk hl303_7
                            clear hi303_7 hl303_7
                            replace p303 := eq_true p303
                            replace q303 := eq_true q303
                            go_wp2_with (first | ((with_reducible refine gate_dst (N := 4) rfl ?_); (try (refine gate_guard (by rfl) ?_; dsimp only)); refine box_event ?hg (N := 4) ?hd (cs := #[.int .i64 0, .int .i64 0, .int .i64 0, .int .i64 0, .int .i64 0, .int .i64 0, .slice none 0 0, .slice none 0 0]) (t := 26) ?hr ?_; (case hd => rfl); (case hg => rfl); (case hr => first | (go_simp; done) | (go_simp; rfl)); intro gb304 hg w67 hbox hb; have n0_ := Aside0.mk (blk_below (g := gb302) (o := .cells #[.int .i64 a0_0, .int .i64 a0_1, .slice (some ad303) l0_2.length c0_2] 42 (0, 0)) (by (with_reducible repeat (first | refine blk_drewN ?_ _ | refine blk_drew ?_ | refine blk_alloc ?_ _)); exact BK302.out) hb); have n1_ := Aside0.mk (below_step (by repeat (first | (with_reducible first | exact HB.out | apply below_alloc | apply pw_below_drewN | apply below_drew1 | refine below_set ?_ GE302.out) | exact HB.out)) hb); have n2_ := Aside0.mk (hbox); have n3_ := Aside0.mk ((by rw [hg]; exact (below_size (by repeat (first | (with_reducible first | exact HB.out | apply below_alloc | apply pw_below_drewN | apply below_drew1 | refine below_set ?_ GE302.out) | exact HB.out))) : w.heap.size ≤ gb304)); have n4_ := Aside0.mk ((by rw [hg]; exact (below_size (by repeat (first | (with_reducible first | exact HB.out | apply below_alloc | apply pw_below_drewN | apply below_drew1 | refine below_set ?_ GE302.out) | exact HB.out))) : w.heap.size ≤ gb304)); have n5_ := Aside0.mk ((by rw [hg]; exact Nat.ne_of_lt (blk_lt (g := gb302) (o := .cells #[.int .i64 a0_0, .int .i64 a0_1, .slice (some ad303) l0_2.length c0_2] 42 (0, 0)) (by (with_reducible repeat (first | refine blk_drewN ?_ _ | refine blk_drew ?_ | refine blk_alloc ?_ _)); exact BK302.out)) : gb302 ≠ gb304)); have n6_ := Aside0.mk ((by rw [hg]; exact Nat.ne_of_gt (blk_lt (g := gb302) (o := .cells #[.int .i64 a0_0, .int .i64 a0_1, .slice (some ad303) l0_2.length c0_2] 42 (0, 0)) (by (with_reducible repeat (first | refine blk_drewN ?_ _ | refine blk_drew ?_ | refine blk_alloc ?_ _)); exact BK302.out)) : gb304 ≠ gb302)); clear BK302; clear HB; have BK302 := n0_; have HB := n1_; have BK304 := n2_; have GW304 := n3_; have GE304 := n4_; have NB302_304 := n5_; have NB304_302 := n6_; clear n0_ n1_ n2_ n3_ n4_ n5_ n6_; clear hb hbox hg; have hnb68 := NB304_302.out; have hnc68 := NB302_304.out; have hcz69_0 : w67.cell? ⟨gb304, 0, none⟩ = some (.int .i64 0) := (blk_cell BK304.out 0).trans rfl; have hcz69_1 : w67.cell? ⟨gb304, 1, none⟩ = some (.int .i64 0) := (blk_cell BK304.out 1).trans rfl; have hcz69_2 : w67.cell? ⟨gb304, 2, none⟩ = some (.int .i64 0) := (blk_cell BK304.out 2).trans rfl; have hcz69_3 : w67.cell? ⟨gb304, 3, none⟩ = some (.int .i64 0) := (blk_cell BK304.out 3).trans rfl; have hcz69_4 : w67.cell? ⟨gb304, 4, none⟩ = some (.int .i64 0) := (blk_cell BK304.out 4).trans rfl; have hcz69_5 : w67.cell? ⟨gb304, 5, none⟩ = some (.int .i64 0) := (blk_cell BK304.out 5).trans rfl; have hcz69_6 : w67.cell? ⟨gb304, 6, none⟩ = some (.slice none 0 0) := (blk_cell BK304.out 6).trans rfl; have hcz69_7 : w67.cell? ⟨gb304, 7, none⟩ = some (.slice none 0 0) := (blk_cell BK304.out 7).trans rfl; have hfz69_0 := blk_frozen BK304.out 0; have hfz69_1 := blk_frozen BK304.out 1; have hfz69_2 := blk_frozen BK304.out 2; have hfz69_3 := blk_frozen BK304.out 3; have hfz69_4 := blk_frozen BK304.out 4; have hfz69_5 := blk_frozen BK304.out 5; have hfz69_6 := blk_frozen BK304.out 6; have hfz69_7 := blk_frozen BK304.out 7; have hcz70_0 : w67.cell? ⟨gb302, 0, none⟩ = some (.int .i64 a0_0) := (blk_cell BK302.out 0).trans rfl; have hcz70_1 : w67.cell? ⟨gb302, 1, none⟩ = some (.int .i64 a0_1) := (blk_cell BK302.out 1).trans rfl; have hcz70_2 : w67.cell? ⟨gb302, 2, none⟩ = some (.slice (some ad303) l0_2.length c0_2) := (blk_cell BK302.out 2).trans rfl; have hfz70_0 := blk_frozen BK302.out 0; have hfz70_1 := blk_frozen BK302.out 1; have hfz70_2 := blk_frozen BK302.out 2))
                            obtain ⟨W2_, hW2_⟩ : ∃ W_ : World, W_ = ((((((((w67.setCell ⟨gb304, 0, none⟩ (.int .i64 ((rd_T26 l0_2 x3_2).f0))).setCell ⟨gb304, 1, none⟩ (.int .i64 ((rd_T26 l0_2 x3_2).f1.f0))).setCell ⟨gb304, 2, none⟩ (.int .i64 ((rd_T26 l0_2 x3_2).f1.f1))).setCell ⟨gb304, 3, none⟩ (.int .i64 ((rd_T26 l0_2 x3_2).f1.f2))).setCell ⟨gb304, 4, none⟩ (.int .i64 ((rd_T26 l0_2 x3_2).f1.f3))).setCell ⟨gb304, 5, none⟩ (.int .i64 ((rd_T26 l0_2 x3_2).f1.f4))).setCell ⟨gb304, 6, none⟩ (.slice A303_6 ((rd_T26 l0_2 x3_2).f1.f5).length c303_6)).setCell ⟨gb304, 7, none⟩ (.slice A303_7 ((rd_T26 l0_2 x3_2).f1.f6).length c303_7)) := ⟨_, rfl⟩
                            (first | rw [← hW2_] | skip)
                            have B4_ := Aside0.mk (show W2_.heap[gb304]? = some (.cells #[.int .i64 ((rd_T26 l0_2 x3_2).f0), .int .i64 ((rd_T26 l0_2 x3_2).f1.f0), .int .i64 ((rd_T26 l0_2 x3_2).f1.f1), .int .i64 ((rd_T26 l0_2 x3_2).f1.f2), .int .i64 ((rd_T26 l0_2 x3_2).f1.f3), .int .i64 ((rd_T26 l0_2 x3_2).f1.f4), .slice A303_6 ((rd_T26 l0_2 x3_2).f1.f5).length c303_6, .slice A303_7 ((rd_T26 l0_2 x3_2).f1.f6).length c303_7] 26 (0, 0)) by rw [hW2_]; exact ow_put8 BK304.out)
                            have B2_ := Aside0.mk (show W2_.heap[gb302]? = some (.cells #[.int .i64 a0_0, .int .i64 a0_1, .slice (some ad303) l0_2.length c0_2] 42 (0, 0)) by rw [hW2_]; exact ow_far8 BK302.out NB302_304.out)
                            have BB_ := Aside0.mk (show Below w.heap.size w W2_ by rw [hW2_]; exact ow_below8 HB.out GE304.out)
                            clear hW2_ HB
                            have HB := BB_
                            have hs4_0 : W2_.cell? ⟨gb304, 0, none⟩ = some (.int .i64 ((rd_T26 l0_2 x3_2).f0)) := (blk_cell B4_.out 0).trans rfl
                            have hs4_1 : W2_.cell? ⟨gb304, 1, none⟩ = some (.int .i64 ((rd_T26 l0_2 x3_2).f1.f0)) := (blk_cell B4_.out 1).trans rfl
                            have hs4_2 : W2_.cell? ⟨gb304, 2, none⟩ = some (.int .i64 ((rd_T26 l0_2 x3_2).f1.f1)) := (blk_cell B4_.out 2).trans rfl
                            have hs4_3 : W2_.cell? ⟨gb304, 3, none⟩ = some (.int .i64 ((rd_T26 l0_2 x3_2).f1.f2)) := (blk_cell B4_.out 3).trans rfl
                            have hs4_4 : W2_.cell? ⟨gb304, 4, none⟩ = some (.int .i64 ((rd_T26 l0_2 x3_2).f1.f3)) := (blk_cell B4_.out 4).trans rfl
                            have hs4_5 : W2_.cell? ⟨gb304, 5, none⟩ = some (.int .i64 ((rd_T26 l0_2 x3_2).f1.f4)) := (blk_cell B4_.out 5).trans rfl
                            have hs4_6 : W2_.cell? ⟨gb304, 6, none⟩ = some (.slice A303_6 ((rd_T26 l0_2 x3_2).f1.f5).length c303_6) := (blk_cell B4_.out 6).trans rfl
                            have hs4_7 : W2_.cell? ⟨gb304, 7, none⟩ = some (.slice A303_7 ((rd_T26 l0_2 x3_2).f1.f6).length c303_7) := (blk_cell B4_.out 7).trans rfl
                            have hs2_0 : W2_.cell? ⟨gb302, 0, none⟩ = some (.int .i64 a0_0) := (blk_cell B2_.out 0).trans rfl
                            have hs2_1 : W2_.cell? ⟨gb302, 1, none⟩ = some (.int .i64 a0_1) := (blk_cell B2_.out 1).trans rfl
                            have hs2_2 : W2_.cell? ⟨gb302, 2, none⟩ = some (.slice (some ad303) l0_2.length c0_2) := (blk_cell B2_.out 2).trans rfl
                            repeat (go_quiet (fail); try go_wp2)
                            go_roundg k2
                            case measure => have := HJ4.out; have := HK2.out; omega
                            case rel => exact ⟨(wrap64 (x3_2 + 1)), (by first | rfl | (simp; done) | (simp [*]; done)), H', ⟨by have := HJ4.out; have := HK2.out; omega⟩, ⟨by repeat (first | exact B2_.out | refine blk_drewN ?_ _ | refine blk_drew ?_)⟩, ⟨by repeat (first | (with_reducible first | exact HB.out | apply below_alloc | apply pw_below_drewN | apply below_drew1 | refine below_set ?_ GE302.out | refine below_set ?_ GE304.out) | exact HB.out)⟩⟩
                  · rw [if_neg c20] at H
                    have c20b0 : (((rd_T26 l0_2 x3_2).f1.f0) == a0_0) = false := beq_eq_false_iff_ne.mpr c20
                    have c20b1 : (((rd_T26 l0_2 x3_2).f1.f0) != a0_0) = true := bne_iff_ne.mpr c20
                    obtain rfl := Option.some.inj H
                    have hcz71_0 : wr.cell? ⟨gb302, 0, none⟩ = some (.int .i64 a0_0) := (blk_cell BK302.out 0).trans rfl
                    have hcz71_1 : wr.cell? ⟨gb302, 1, none⟩ = some (.int .i64 a0_1) := (blk_cell BK302.out 1).trans rfl
                    have hcz71_2 : wr.cell? ⟨gb302, 2, none⟩ = some (.slice A0_2 l0_2.length c0_2) := (blk_cell BK302.out 2).trans rfl
                    have hfz71_0 := blk_frozen BK302.out 0
                    have hfz71_1 := blk_frozen BK302.out 1
                    have hfz71_2 := blk_frozen BK302.out 2
                    have p303 : 0 ≤ (x3_2 : Int) := of_decide_eq_true (by first | (with_reducible assumption) | assumption)
                    have q303 : x3_2 < (l0_2.length : Int) := of_decide_eq_true (by first | (with_reducible assumption) | assumption)
                    obtain ⟨ad303, A303_6, c303_6, A303_7, c303_7, e303, hx303_0, hx303_1, hx303_2, hx303_3, hx303_4, hx303_5, hx303_6, hx303_7, hl303_6, hi303_6, hl303_7, hi303_7⟩ := at_T26 HR0_2.out x3_2 p303 q303
                    cases e303
                    replace hx303_0 := (HB.out.cell (World.block_lt_of_cell? w _ hx303_0)).trans hx303_0
                    replace hx303_1 := (HB.out.cell (World.block_lt_of_cell? w _ hx303_1)).trans hx303_1
                    replace hx303_2 := (HB.out.cell (World.block_lt_of_cell? w _ hx303_2)).trans hx303_2
                    replace hx303_3 := (HB.out.cell (World.block_lt_of_cell? w _ hx303_3)).trans hx303_3
                    replace hx303_4 := (HB.out.cell (World.block_lt_of_cell? w _ hx303_4)).trans hx303_4
                    replace hx303_5 := (HB.out.cell (World.block_lt_of_cell? w _ hx303_5)).trans hx303_5
                    replace hx303_6 := (HB.out.cell (World.block_lt_of_cell? w _ hx303_6)).trans hx303_6
                    replace hx303_7 := (HB.out.cell (World.block_lt_of_cell? w _ hx303_7)).trans hx303_7
                    have HR303_6 := Aside0.mk hi303_6
                    have HC303_6 := Aside0.mk hl303_6
                    clear hi303_6 hl303_6
                    have HR303_7 := Aside0.mk hi303_7
                    have HC303_7 := Aside0.mk hl303_7
                    clear hi303_7 hl303_7
                    replace p303 := eq_true p303
                    replace q303 := eq_true q303
                    go_wp2_with (first | ((with_reducible refine gate_dst (N := 4) rfl ?_); (try (refine gate_guard (by rfl) ?_; dsimp only)); refine box_event ?hg (N := 4) ?hd (cs := #[.int .i64 0, .int .i64 0, .int .i64 0, .int .i64 0, .int .i64 0, .int .i64 0, .slice none 0 0, .slice none 0 0]) (t := 26) ?hr ?_; (case hd => rfl); (case hg => rfl); (case hr => first | (go_simp; done) | (go_simp; rfl)); intro gb304 hg w72 hbox hb; have n0_ := Aside0.mk (blk_below (g := gb302) (o := .cells #[.int .i64 a0_0, .int .i64 a0_1, .slice (some ad303) l0_2.length c0_2] 42 (0, 0)) (by (with_reducible repeat (first | refine blk_drewN ?_ _ | refine blk_drew ?_ | refine blk_alloc ?_ _)); exact BK302.out) hb); have n1_ := Aside0.mk (below_step (by repeat (first | (with_reducible first | exact HB.out | apply below_alloc | apply pw_below_drewN | apply below_drew1 | refine below_set ?_ GE302.out) | exact HB.out)) hb); have n2_ := Aside0.mk (hbox); have n3_ := Aside0.mk ((by rw [hg]; exact (below_size (by repeat (first | (with_reducible first | exact HB.out | apply below_alloc | apply pw_below_drewN | apply below_drew1 | refine below_set ?_ GE302.out) | exact HB.out))) : w.heap.size ≤ gb304)); have n4_ := Aside0.mk ((by rw [hg]; exact (below_size (by repeat (first | (with_reducible first | exact HB.out | apply below_alloc | apply pw_below_drewN | apply below_drew1 | refine below_set ?_ GE302.out) | exact HB.out))) : w.heap.size ≤ gb304)); have n5_ := Aside0.mk ((by rw [hg]; exact Nat.ne_of_lt (blk_lt (g := gb302) (o := .cells #[.int .i64 a0_0, .int .i64 a0_1, .slice (some ad303) l0_2.length c0_2] 42 (0, 0)) (by (with_reducible repeat (first | refine blk_drewN ?_ _ | refine blk_drew ?_ | refine blk_alloc ?_ _)); exact BK302.out)) : gb302 ≠ gb304)); have n6_ := Aside0.mk ((by rw [hg]; exact Nat.ne_of_gt (blk_lt (g := gb302) (o := .cells #[.int .i64 a0_0, .int .i64 a0_1, .slice (some ad303) l0_2.length c0_2] 42 (0, 0)) (by (with_reducible repeat (first | refine blk_drewN ?_ _ | refine blk_drew ?_ | refine blk_alloc ?_ _)); exact BK302.out)) : gb304 ≠ gb302)); clear BK302; clear HB; have BK302 := n0_; have HB := n1_; have BK304 := n2_; have GW304 := n3_; have GE304 := n4_; have NB302_304 := n5_; have NB304_302 := n6_; clear n0_ n1_ n2_ n3_ n4_ n5_ n6_; clear hb hbox hg; have hnb73 := NB304_302.out; have hnc73 := NB302_304.out; have hcz74_0 : w72.cell? ⟨gb304, 0, none⟩ = some (.int .i64 0) := (blk_cell BK304.out 0).trans rfl; have hcz74_1 : w72.cell? ⟨gb304, 1, none⟩ = some (.int .i64 0) := (blk_cell BK304.out 1).trans rfl; have hcz74_2 : w72.cell? ⟨gb304, 2, none⟩ = some (.int .i64 0) := (blk_cell BK304.out 2).trans rfl; have hcz74_3 : w72.cell? ⟨gb304, 3, none⟩ = some (.int .i64 0) := (blk_cell BK304.out 3).trans rfl; have hcz74_4 : w72.cell? ⟨gb304, 4, none⟩ = some (.int .i64 0) := (blk_cell BK304.out 4).trans rfl; have hcz74_5 : w72.cell? ⟨gb304, 5, none⟩ = some (.int .i64 0) := (blk_cell BK304.out 5).trans rfl; have hcz74_6 : w72.cell? ⟨gb304, 6, none⟩ = some (.slice none 0 0) := (blk_cell BK304.out 6).trans rfl; have hcz74_7 : w72.cell? ⟨gb304, 7, none⟩ = some (.slice none 0 0) := (blk_cell BK304.out 7).trans rfl; have hfz74_0 := blk_frozen BK304.out 0; have hfz74_1 := blk_frozen BK304.out 1; have hfz74_2 := blk_frozen BK304.out 2; have hfz74_3 := blk_frozen BK304.out 3; have hfz74_4 := blk_frozen BK304.out 4; have hfz74_5 := blk_frozen BK304.out 5; have hfz74_6 := blk_frozen BK304.out 6; have hfz74_7 := blk_frozen BK304.out 7; have hcz75_0 : w72.cell? ⟨gb302, 0, none⟩ = some (.int .i64 a0_0) := (blk_cell BK302.out 0).trans rfl; have hcz75_1 : w72.cell? ⟨gb302, 1, none⟩ = some (.int .i64 a0_1) := (blk_cell BK302.out 1).trans rfl; have hcz75_2 : w72.cell? ⟨gb302, 2, none⟩ = some (.slice (some ad303) l0_2.length c0_2) := (blk_cell BK302.out 2).trans rfl; have hfz75_0 := blk_frozen BK302.out 0; have hfz75_1 := blk_frozen BK302.out 1; have hfz75_2 := blk_frozen BK302.out 2))
                    obtain ⟨W2_, hW2_⟩ : ∃ W_ : World, W_ = ((((((((w72.setCell ⟨gb304, 0, none⟩ (.int .i64 ((rd_T26 l0_2 x3_2).f0))).setCell ⟨gb304, 1, none⟩ (.int .i64 ((rd_T26 l0_2 x3_2).f1.f0))).setCell ⟨gb304, 2, none⟩ (.int .i64 ((rd_T26 l0_2 x3_2).f1.f1))).setCell ⟨gb304, 3, none⟩ (.int .i64 ((rd_T26 l0_2 x3_2).f1.f2))).setCell ⟨gb304, 4, none⟩ (.int .i64 ((rd_T26 l0_2 x3_2).f1.f3))).setCell ⟨gb304, 5, none⟩ (.int .i64 ((rd_T26 l0_2 x3_2).f1.f4))).setCell ⟨gb304, 6, none⟩ (.slice A303_6 ((rd_T26 l0_2 x3_2).f1.f5).length c303_6)).setCell ⟨gb304, 7, none⟩ (.slice A303_7 ((rd_T26 l0_2 x3_2).f1.f6).length c303_7)) := ⟨_, rfl⟩
                    (first | rw [← hW2_] | skip)
                    have B4_ := Aside0.mk (show W2_.heap[gb304]? = some (.cells #[.int .i64 ((rd_T26 l0_2 x3_2).f0), .int .i64 ((rd_T26 l0_2 x3_2).f1.f0), .int .i64 ((rd_T26 l0_2 x3_2).f1.f1), .int .i64 ((rd_T26 l0_2 x3_2).f1.f2), .int .i64 ((rd_T26 l0_2 x3_2).f1.f3), .int .i64 ((rd_T26 l0_2 x3_2).f1.f4), .slice A303_6 ((rd_T26 l0_2 x3_2).f1.f5).length c303_6, .slice A303_7 ((rd_T26 l0_2 x3_2).f1.f6).length c303_7] 26 (0, 0)) by rw [hW2_]; exact ow_put8 BK304.out)
                    have B2_ := Aside0.mk (show W2_.heap[gb302]? = some (.cells #[.int .i64 a0_0, .int .i64 a0_1, .slice (some ad303) l0_2.length c0_2] 42 (0, 0)) by rw [hW2_]; exact ow_far8 BK302.out NB302_304.out)
                    have BB_ := Aside0.mk (show Below w.heap.size w W2_ by rw [hW2_]; exact ow_below8 HB.out GE304.out)
                    clear hW2_ HB
                    have HB := BB_
                    have hs4_0 : W2_.cell? ⟨gb304, 0, none⟩ = some (.int .i64 ((rd_T26 l0_2 x3_2).f0)) := (blk_cell B4_.out 0).trans rfl
                    have hs4_1 : W2_.cell? ⟨gb304, 1, none⟩ = some (.int .i64 ((rd_T26 l0_2 x3_2).f1.f0)) := (blk_cell B4_.out 1).trans rfl
                    have hs4_2 : W2_.cell? ⟨gb304, 2, none⟩ = some (.int .i64 ((rd_T26 l0_2 x3_2).f1.f1)) := (blk_cell B4_.out 2).trans rfl
                    have hs4_3 : W2_.cell? ⟨gb304, 3, none⟩ = some (.int .i64 ((rd_T26 l0_2 x3_2).f1.f2)) := (blk_cell B4_.out 3).trans rfl
                    have hs4_4 : W2_.cell? ⟨gb304, 4, none⟩ = some (.int .i64 ((rd_T26 l0_2 x3_2).f1.f3)) := (blk_cell B4_.out 4).trans rfl
                    have hs4_5 : W2_.cell? ⟨gb304, 5, none⟩ = some (.int .i64 ((rd_T26 l0_2 x3_2).f1.f4)) := (blk_cell B4_.out 5).trans rfl
                    have hs4_6 : W2_.cell? ⟨gb304, 6, none⟩ = some (.slice A303_6 ((rd_T26 l0_2 x3_2).f1.f5).length c303_6) := (blk_cell B4_.out 6).trans rfl
                    have hs4_7 : W2_.cell? ⟨gb304, 7, none⟩ = some (.slice A303_7 ((rd_T26 l0_2 x3_2).f1.f6).length c303_7) := (blk_cell B4_.out 7).trans rfl
                    have hs2_0 : W2_.cell? ⟨gb302, 0, none⟩ = some (.int .i64 a0_0) := (blk_cell B2_.out 0).trans rfl
                    have hs2_1 : W2_.cell? ⟨gb302, 1, none⟩ = some (.int .i64 a0_1) := (blk_cell B2_.out 1).trans rfl
                    have hs2_2 : W2_.cell? ⟨gb302, 2, none⟩ = some (.slice (some ad303) l0_2.length c0_2) := (blk_cell B2_.out 2).trans rfl
                    repeat (go_quiet (fail); try go_wp2)
                    go_ret
                    exact ⟨by first | rfl | (simp [errW_none, errW_some] <;> rfl) | (simp [*, errW_none, errW_some] <;> rfl), by repeat (first | (with_reducible first | exact HB.out | apply below_alloc | apply pw_below_drewN | apply below_drew1 | refine below_set ?_ GE302.out | refine below_set ?_ GE304.out) | exact HB.out)⟩
                · rw [if_neg c19] at H
                  exact absurd H (by simp)
              · rw [if_neg c18] at H
                have c18b0 : decide (x3_2 < (l0_2.length : Int)) = false := decide_eq_false c18
                clear c18
                obtain rfl := Option.some.inj H
                have hcz76_0 : wr.cell? ⟨gb302, 0, none⟩ = some (.int .i64 a0_0) := (blk_cell BK302.out 0).trans rfl
                have hcz76_1 : wr.cell? ⟨gb302, 1, none⟩ = some (.int .i64 a0_1) := (blk_cell BK302.out 1).trans rfl
                have hcz76_2 : wr.cell? ⟨gb302, 2, none⟩ = some (.slice A0_2 l0_2.length c0_2) := (blk_cell BK302.out 2).trans rfl
                have hfz76_0 := blk_frozen BK302.out 0
                have hfz76_1 := blk_frozen BK302.out 1
                have hfz76_2 := blk_frozen BK302.out 2
                go_wp2
                repeat (go_quiet (fail); try go_wp2)
                go_ret
                exact ⟨by first | rfl | (simp [errW_none, errW_some] <;> rfl) | (simp [*, errW_none, errW_some] <;> rfl), by repeat (first | (with_reducible first | exact HB.out | apply below_alloc | apply pw_below_drewN | apply below_drew1 | refine below_set ?_ GE302.out) | exact HB.out)⟩

end Go.Proofs.Ytnmmkgagbfniiaa.A
