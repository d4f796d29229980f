/- Made by a program of this session (drv.py) over the kit's printer: plain functions, and the proofs that the program's functions come to their answers. No condition. -/
import Derived.Test.YtnmmkgagbfniiaaAx0
import Derived.Test.YtnmmkgagbfniiaaAxownwords
import Derived.Test.YtnmmkgagbfniiaaAxeventAppend
import Derived.Test.YtnmmkgagbfniiaaAxeventPutInt
import Derived.Test.YtnmmkgagbfniiaaAxblockcheck
import Derived.Test.YtnmmkgagbfniiaaAxpackPack
import Derived.Test.YtnmmkgagbfniiaaAxblockseal
namespace Go.Proofs.Ytnmmkgagbfniiaa.A
open Go.RowKit Go.Proofs.YtnmmkgagbfniiaaW.PrintWords Go.Proofs.YtnmmkgagbfniiaaW.PrintLast Go.Proofs.YtnmmkgagbfniiaaW.PrintMore
attribute [local go_sem] max2_int min2_int max_two min_two max_three min_three max_four min_four   -- for this text's walks alone
set_option linter.unusedVariables false
set_option linter.unusedSimpArgs false

/-! ### block_Encode: function 21 -/
mutual
def block_Encode.l0 : Nat → List Int → Int → List (S26) → Int → Int → Int → Int → List (S26) → Option (List Int × Int)
  | 0, _, _, _, _, _, _, _, _ => none
  | k + 1, x5, x6, x20, x21, x22, x269000, x269001, x269002 => if x22 < x21 then (if 0 ≤ x22 then (if x22 < (x20.length : Int) then ((event_Append.f k ([] : List Int) ((rd_T26 x20 x22).f0) ((rd_T26 x20 x22).f1.f0) ((rd_T26 x20 x22).f1.f1) ((rd_T26 x20 x22).f1.f2) ((rd_T26 x20 x22).f1.f3) ((rd_T26 x20 x22).f1.f4) ((rd_T26 x20 x22).f1.f5) ((rd_T26 x20 x22).f1.f6) x6).bind fun t272 => (if x5.length + t272.length < 140737488355328 then (block_Encode.l0 k (x5 ++ t272) ((rd_T26 x20 x22).f0) x20 x21 (wrap64 (x22 + 1)) x269000 x269001 x269002) else (none))) else (none)) else (none)) else ((pack_Pack.f k x5).bind fun t278 => ((some (([x269001, (x269002.length : Int), (x5.length : Int), (t278.length : Int)] : List Int) : List Int)).bind fun y284 => (block_Encode.l1 k t278 (([84, (x269000) % 256] : List Int)) y284 (y284.length : Int) 0)))
def block_Encode.l1 : Nat → List Int → List Int → List Int → Int → Int → Option (List Int × Int)
  | 0, _, _, _, _, _ => none
  | k + 1, x9, x10, x49, x50, x51 => if x51 < x50 then (if 0 ≤ x51 then (if x51 < (x49.length : Int) then ((event_PutInt.f k x10 (rd x49 x51)).bind fun t288 => (block_Encode.l1 k x9 t288 x49 x50 (wrap64 (x51 + 1)))) else (none)) else (none)) else (if x10.length + x9.length < 140737488355328 then ((some (x10 ++ x9 : List Int)).bind fun y291 => ((block_seal.f k y291).bind fun bt294 => (if y291.length + [bt294.1, bt294.2.1, bt294.2.2.1, bt294.2.2.2].length < 140737488355328 then (some ((y291 ++ [bt294.1, bt294.2.1, bt294.2.2.1, bt294.2.2.2]), 0)) else (none)))) else (none))
end
def block_Encode.f (k : Nat) (a0_0 : Int) (a0_1 : Int) (l0_2 : List (S26)) : Option (List Int × Int) := (block_check.f k a0_0 a0_1 l0_2).bind fun t269 => (if t269 = 0 then (block_Encode.l0 k ([] : List Int) (-1) l0_2 (l0_2.length : Int) 0 a0_0 a0_1 l0_2) else (some (([] : List Int), t269)))
theorem block_Encode.mono_l : ∀ k, (∀ y0 y1 y2 y3 y4 y5 y6 y7, LeO (block_Encode.l0 k y0 y1 y2 y3 y4 y5 y6 y7) (block_Encode.l0 (k + 1) y0 y1 y2 y3 y4 y5 y6 y7)) ∧ (∀ y0 y1 y2 y3 y4, LeO (block_Encode.l1 k y0 y1 y2 y3 y4) (block_Encode.l1 (k + 1) y0 y1 y2 y3 y4))
  | 0 => ⟨fun _ _ _ _ _ _ _ _ r h => by simp [block_Encode.l0] at h, fun _ _ _ _ _ r h => by simp [block_Encode.l1] at h⟩
  | k + 1 => by
    obtain ⟨ih0, ih1⟩ := block_Encode.mono_l k
    refine ⟨?_, ?_⟩
    · intro y0 y1 y2 y3 y4 y5 y6 y7
      unfold block_Encode.l0
      repeat' first
      | (with_reducible exact ih0 _ _ _ _ _ _ _ _)
      | (with_reducible exact ih1 _ _ _ _ _)
      | (with_reducible exact block_check.mono _ _ _ _)
      | (with_reducible exact block_seal.mono _ _)
      | (with_reducible exact event_Append.mono _ _ _ _ _ _ _ _ _ _ _)
      | (with_reducible exact event_PutInt.mono _ _ _)
      | (with_reducible exact pack_Pack.mono _ _)
      | (with_reducible exact LeO.refl _)
      | (with_reducible exact LeO.none _)
      | (with_reducible refine LeO.ite ?_ ?_)
      | (with_reducible refine LeO.bind ?_ (fun _ => ?_))
      | exact ih0 _ _ _ _ _ _ _ _
      | exact ih1 _ _ _ _ _
      | exact block_check.mono _ _ _ _
      | exact block_seal.mono _ _
      | exact event_Append.mono _ _ _ _ _ _ _ _ _ _ _
      | exact event_PutInt.mono _ _ _
      | exact pack_Pack.mono _ _
      | exact LeO.none _
      | refine LeO.ite ?_ ?_
      | refine LeO.bind ?_ (fun _ => ?_)
    · intro y0 y1 y2 y3 y4
      unfold block_Encode.l1
      repeat' first
      | (with_reducible exact ih0 _ _ _ _ _ _ _ _)
      | (with_reducible exact ih1 _ _ _ _ _)
      | (with_reducible exact block_check.mono _ _ _ _)
      | (with_reducible exact block_seal.mono _ _)
      | (with_reducible exact event_Append.mono _ _ _ _ _ _ _ _ _ _ _)
      | (with_reducible exact event_PutInt.mono _ _ _)
      | (with_reducible exact pack_Pack.mono _ _)
      | (with_reducible exact LeO.refl _)
      | (with_reducible exact LeO.none _)
      | (with_reducible refine LeO.ite ?_ ?_)
      | (with_reducible refine LeO.bind ?_ (fun _ => ?_))
      | exact ih0 _ _ _ _ _ _ _ _
      | exact ih1 _ _ _ _ _
      | exact block_check.mono _ _ _ _
      | exact block_seal.mono _ _
      | exact event_Append.mono _ _ _ _ _ _ _ _ _ _ _
      | exact event_PutInt.mono _ _ _
      | exact pack_Pack.mono _ _
      | exact LeO.none _
      | refine LeO.ite ?_ ?_
      | refine LeO.bind ?_ (fun _ => ?_)
theorem block_Encode.mono : ∀ a0 a1 a2 k, LeO (block_Encode.f k a0 a1 a2) (block_Encode.f (k + 1) a0 a1 a2) := by
  intro a0 a1 a2 k
  obtain ⟨ih0, ih1⟩ := block_Encode.mono_l k
  unfold block_Encode.f
  repeat' first
      | (with_reducible exact ih0 _ _ _ _ _ _ _ _)
      | (with_reducible exact ih1 _ _ _ _ _)
      | (with_reducible exact block_check.mono _ _ _ _)
      | (with_reducible exact block_seal.mono _ _)
      | (with_reducible exact event_Append.mono _ _ _ _ _ _ _ _ _ _ _)
      | (with_reducible exact event_PutInt.mono _ _ _)
      | (with_reducible exact pack_Pack.mono _ _)
      | (with_reducible exact LeO.refl _)
      | (with_reducible exact LeO.none _)
      | (with_reducible refine LeO.ite ?_ ?_)
      | (with_reducible refine LeO.bind ?_ (fun _ => ?_))
      | exact ih0 _ _ _ _ _ _ _ _
      | exact ih1 _ _ _ _ _
      | exact block_check.mono _ _ _ _
      | exact block_seal.mono _ _
      | exact event_Append.mono _ _ _ _ _ _ _ _ _ _ _
      | exact event_PutInt.mono _ _ _
      | exact pack_Pack.mono _ _
      | exact LeO.none _
      | refine LeO.ite ?_ ?_
      | refine LeO.bind ?_ (fun _ => ?_)
set_option maxHeartbeats 8000000 in
set_option maxRecDepth 100000 in
theorem block_Encode.calls (k : Nat) (a0_0 : Int) (a0_1 : Int) (A0_2 : Option Addr) (c0_2 : Nat) (l0_2 : List (S26)) (r1 : List Int) (r2 : Int) (w : World) (hr0_2 : Kd.C k26 w A0_2 l0_2.length l0_2) (hc0_2 : l0_2.length ≤ c0_2) (h : block_Encode.f k a0_0 a0_1 l0_2 = some (r1, r2)) :
    Calls Try.prog 21 #[.agg #[.int .i64 a0_0, .int .i64 a0_1, .slice A0_2 l0_2.length c0_2]] w fun e w' => ∃ v0_ : Value, e = .returned (.tuple #[v0_, .int .i64 r2]) ∧ Kd.R (Kd.int .u8) 5 w' w.heap.size (fun _ => True) v0_ r1 ∧ Below w.heap.size w w' := by
  have hu42 := Try.underlying42
  have hu26 := Try.underlying26
  have hu97 := Try.underlying97
  have HR0_2 := Aside0.mk hr0_2
  have HC0_2 := Aside0.mk hc0_2
  clear hr0_2 hc0_2
  have HB := Aside0.mk (Below.refl w.heap.size w)
  have H : ((block_check.f k a0_0 a0_1 l0_2).bind fun t269 => (if t269 = 0 then (block_Encode.l0 k ([] : List Int) (-1) l0_2 (l0_2.length : Int) 0 a0_0 a0_1 l0_2) else (some (([] : List Int), t269)))) = some (r1, r2) := h
  clear h
  replace H := Option.bind_eq_some_iff.mp H
  obtain ⟨t269, A20, H⟩ := H
  replace H : (if t269 = 0 then (block_Encode.l0 k ([] : List Int) (-1) l0_2 (l0_2.length : Int) 0 a0_0 a0_1 l0_2) else (some (([] : List Int), t269))) = some (r1, r2) := H
  have A2 := Aside0.mk A20
  clear A20
  by_cases c3 : t269 = 0
  · rw [if_pos c3] at H
    have c3b0 : (t269 == 0) = true := beq_iff_eq.mpr c3
    have c3b1 : (t269 != 0) = false := bne_eq_false_iff_eq.mpr c3
    clear c3
    have H' := Aside0.mk H
    clear H
    go_enter Try.func21, Try.ntmps21
    go_wp2_with (first | ((with_reducible refine gate_dst (N := 1) rfl ?_); refine box_event ?hg (N := 1) ?hd (cs := #[.int .i64 a0_0, .int .i64 a0_1, .slice A0_2 l0_2.length c0_2]) (t := 42) ?hr ?_; (case hd => rfl); (case hg => rfl); (case hr => first | (go_simp; done) | (go_simp; rfl)); intro gb268 hg w4 hbox hb; have n0_ := Aside0.mk (below_step (by repeat (first | (with_reducible first | exact HB.out | apply below_alloc | apply pw_below_drewN | apply below_drew1) | exact HB.out)) hb); have n1_ := Aside0.mk (hbox); have n2_ := Aside0.mk ((by rw [hg]; exact (below_size (by repeat (first | (with_reducible first | exact HB.out | apply below_alloc | apply pw_below_drewN | apply below_drew1) | exact HB.out))) : w.heap.size ≤ gb268)); have n3_ := Aside0.mk ((by rw [hg]; exact (below_size (by repeat (first | (with_reducible first | exact HB.out | apply below_alloc | apply pw_below_drewN | apply below_drew1) | exact HB.out))) : w.heap.size ≤ gb268)); clear HB; have HB := n0_; have BK268 := n1_; have GW268 := n2_; have GE268 := n3_; clear n0_ n1_ n2_ n3_; clear hb hbox hg; have hcz5_0 : w4.cell? ⟨gb268, 0, none⟩ = some (.int .i64 a0_0) := (blk_cell BK268.out 0).trans rfl; have hcz5_1 : w4.cell? ⟨gb268, 1, none⟩ = some (.int .i64 a0_1) := (blk_cell BK268.out 1).trans rfl; have hcz5_2 : w4.cell? ⟨gb268, 2, none⟩ = some (.slice A0_2 l0_2.length c0_2) := (blk_cell BK268.out 2).trans rfl; have hfz5_0 := blk_frozen BK268.out 0; have hfz5_1 := blk_frozen BK268.out 1; have hfz5_2 := blk_frozen BK268.out 2) | ((with_reducible refine gate_callee (f := 50) rfl ?_); refine goesL_ (some 15) rfl rfl Try.func50 (by kernel_rfl) rfl #[.agg #[.int .i64 a0_0, .int .i64 a0_1, .slice A0_2 l0_2.length c0_2]] rfl (by (try simp only [List.map_toArray, List.map_cons, List.map_nil]); first | done | rfl | (simp only [List.length_drop, List.length_take]; rfl)) ?_; (with_reducible refine (block_check.calls k a0_0 a0_1 _ _ l0_2 t269 _ ?side1 ?side2 A2.out).mono ?_); (case side1 => repeat (first | exact (Kd.C_below HR0_2.out HB.out) | (with_reducible refine Kd.C_alloc ?_ _) | (with_reducible refine Kd.C_drewN ?_ _) | (with_reducible refine Kd.C_drew ?_))); (case side2 => exact HC0_2.out); rintro e w6 ⟨rfl, hb⟩; refine ⟨_, rfl, ?_⟩; have n0_ := Aside0.mk (blk_below (g := gb268) (o := .cells #[.int .i64 a0_0, .int .i64 a0_1, .slice A0_2 l0_2.length c0_2] 42 (0, 0)) (by (with_reducible repeat (first | refine blk_drewN ?_ _ | refine blk_drew ?_ | refine blk_alloc ?_ _)); exact BK268.out) hb); have n1_ := Aside0.mk (below_step (by repeat (first | (with_reducible first | exact HB.out | apply below_alloc | apply pw_below_drewN | apply below_drew1 | refine below_set ?_ GE268.out) | exact HB.out)) hb); clear BK268; clear HB; have BK268 := n0_; have HB := n1_; clear n0_ n1_; (try clear hb); (try clear hb2); (try clear hk); (try clear hi); have hcz7_0 : w6.cell? ⟨gb268, 0, none⟩ = some (.int .i64 a0_0) := (blk_cell BK268.out 0).trans rfl; have hcz7_1 : w6.cell? ⟨gb268, 1, none⟩ = some (.int .i64 a0_1) := (blk_cell BK268.out 1).trans rfl; have hcz7_2 : w6.cell? ⟨gb268, 2, none⟩ = some (.slice A0_2 l0_2.length c0_2) := (blk_cell BK268.out 2).trans rfl; have hfz7_0 := blk_frozen BK268.out 0; have hfz7_1 := blk_frozen BK268.out 1; have hfz7_2 := blk_frozen BK268.out 2))
    go_loopg [5, 6, 22] k (fun kq v5 v6 v22 w' => ∃ (x5_1 : List Int) (x6_1 : Int) (x22_1 : Int), v6 = .int .i64 x6_1 ∧ v22 = .int .i64 x22_1 ∧ Aside0 (block_Encode.l0 kq x5_1 x6_1 l0_2 (l0_2.length : Int) x22_1 a0_0 a0_1 l0_2 = some (r1, r2)) ∧ Aside0 (kq ≤ k) ∧ Aside0 (Kd.R (Kd.int .u8) 5 w' w.heap.size (fun _ => True) v5 x5_1) ∧ Aside0 (w'.heap[gb268]? = some (.cells #[.int .i64 a0_0, .int .i64 a0_1, (.slice A0_2 l0_2.length c0_2)] 42 (0, 0))) ∧ Aside0 (Below w.heap.size w w'))
    case atStart => exact ⟨(([] : List Int)), ((-1)), (0), (by first | rfl | (simp; done) | (simp [*]; done)), (by first | rfl | (simp; done) | (simp [*]; done)), H', ⟨Nat.le_refl _⟩, ⟨by first | exact Kd.R_nil _ _ _ _ _ | exact Kd.N_nil _ _ _ _ _ | exact Kd.V_nil _ _ _ _ _ | exact Kd.Q_nil _ _ _ _ _ | exact Kd.S_nil _ _ _ _ _⟩, ⟨by (with_reducible repeat (first | refine blk_drewN ?_ _ | refine blk_drew ?_ | refine blk_alloc ?_ _)); exact BK268.out⟩, ⟨by repeat (first | (with_reducible first | exact HB.out | apply below_alloc | apply pw_below_drewN | apply below_drew1 | refine below_set ?_ GE268.out) | exact HB.out)⟩⟩
    case round =>
      clear H'
      try clear c2
      try clear p2
      try clear c3
      try clear c3b0
      try clear c3b1
      try clear c5
      try clear hcz5_0
      try clear hcz5_1
      try clear hcz5_2
      try clear hcz7_0
      try clear hcz7_1
      try clear hcz7_2
      try clear hfz5_0
      try clear hfz5_1
      try clear hfz5_2
      try clear hfz7_0
      try clear hfz7_1
      try clear hfz7_2
      obtain ⟨x5_1, x6_1, x22_1, rfl, rfl, HA, HK1, HO_5, BK268, HB⟩ := hrel
      cases gk with
      | zero => exact absurd HA.out (by simp [block_Encode.l0])
      | succ k1 =>
        have H := HA.out
        clear HA
        simp only [block_Encode.l0] at H
        by_cases c8 : x22_1 < (l0_2.length : Int)
        · rw [if_pos c8] at H
          have c8b0 : decide (x22_1 < (l0_2.length : Int)) = true := decide_eq_true c8
          clear c8
          by_cases c9 : 0 ≤ x22_1
          · rw [if_pos c9] at H
            have c9b0 : decide (0 ≤ x22_1) = true := decide_eq_true c9
            clear c9
            by_cases c10 : x22_1 < (l0_2.length : Int)
            · rw [if_pos c10] at H
              have c10b0 : decide (x22_1 < (l0_2.length : Int)) = true := decide_eq_true c10
              clear c10
              replace H := Option.bind_eq_some_iff.mp H
              obtain ⟨t272, A110, H⟩ := H
              replace H : (if x5_1.length + t272.length < 140737488355328 then (block_Encode.l0 k1 (x5_1 ++ t272) ((rd_T26 l0_2 x22_1).f0) l0_2 (l0_2.length : Int) (wrap64 (x22_1 + 1)) a0_0 a0_1 l0_2) else (none)) = some (r1, r2) := H
              have A11 := Aside0.mk A110
              clear A110
              by_cases c12 : x5_1.length + t272.length < 140737488355328
              · rw [if_pos c12] at H
                have LMc12 := Aside0.mk c12
                clear c12
                obtain ⟨y275, hy275⟩ : ∃ y_ : List Int, y_ = (x5_1 ++ t272) := ⟨_, rfl⟩
                replace H : (block_Encode.l0 k1 y275 ((rd_T26 l0_2 x22_1).f0) l0_2 (l0_2.length : Int) (wrap64 (x22_1 + 1)) a0_0 a0_1 l0_2) = some (r1, r2) := by first | (rw [hy275]; with_reducible exact H) | (have H2_ := (Option.bind_some _ _).symm.trans H; rw [hy275]; with_reducible exact H2_) | (have H2_ := (Option.bind_some _ _).symm.trans H; with_reducible exact H2_) | with_reducible exact H | (rw [hy275]; exact H) | exact H
                have Ny275 := Aside0.mk hy275
                clear hy275
                have H' := Aside0.mk H
                clear H
                have p270 : 0 ≤ (x22_1 : Int) := of_decide_eq_true (by first | (with_reducible assumption) | assumption)
                have q270 : x22_1 < (l0_2.length : Int) := of_decide_eq_true (by first | (with_reducible assumption) | assumption)
                obtain ⟨ad270, A270_6, c270_6, A270_7, c270_7, e270, hx270_0, hx270_1, hx270_2, hx270_3, hx270_4, hx270_5, hx270_6, hx270_7, hl270_6, hi270_6, hl270_7, hi270_7⟩ := at_T26 HR0_2.out x22_1 p270 q270
                cases e270
                replace hx270_0 := (HB.out.cell (World.block_lt_of_cell? w _ hx270_0)).trans hx270_0
                replace hx270_1 := (HB.out.cell (World.block_lt_of_cell? w _ hx270_1)).trans hx270_1
                replace hx270_2 := (HB.out.cell (World.block_lt_of_cell? w _ hx270_2)).trans hx270_2
                replace hx270_3 := (HB.out.cell (World.block_lt_of_cell? w _ hx270_3)).trans hx270_3
                replace hx270_4 := (HB.out.cell (World.block_lt_of_cell? w _ hx270_4)).trans hx270_4
                replace hx270_5 := (HB.out.cell (World.block_lt_of_cell? w _ hx270_5)).trans hx270_5
                replace hx270_6 := (HB.out.cell (World.block_lt_of_cell? w _ hx270_6)).trans hx270_6
                replace hx270_7 := (HB.out.cell (World.block_lt_of_cell? w _ hx270_7)).trans hx270_7
                have HR270_6 := Aside0.mk hi270_6
                have HC270_6 := Aside0.mk hl270_6
                clear hi270_6 hl270_6
                have HR270_7 := Aside0.mk hi270_7
                have HC270_7 := Aside0.mk hl270_7
                clear hi270_7 hl270_7
                replace p270 := eq_true p270
                replace q270 := eq_true q270
                go_wp2_with (first | ((with_reducible refine gate_dst (N := 8) rfl ?_); refine box_event ?hg (N := 8) ?hd (cs := #[.int .i64 0, .int .i64 0, .int .i64 0, .int .i64 0, .int .i64 0, .int .i64 0, .slice none 0 0, .slice none 0 0]) (t := 26) ?hr ?_; (case hd => rfl); (case hg => rfl); (case hr => first | (go_simp; done) | (go_simp; rfl)); intro gb271 hg w13 hbox hb; have n0_ := Aside0.mk (Kd.R_below (by (with_reducible repeat (first | apply Kd.R_alloc | apply Kd.R_drewN | apply Kd.R_drew)); exact HO_5.out) hb); have n1_ := Aside0.mk (blk_below (g := gb268) (o := .cells #[.int .i64 a0_0, .int .i64 a0_1, .slice (some ad270) l0_2.length c0_2] 42 (0, 0)) (by (with_reducible repeat (first | refine blk_drewN ?_ _ | refine blk_drew ?_ | refine blk_alloc ?_ _)); exact BK268.out) hb); have n2_ := Aside0.mk (below_step (by repeat (first | (with_reducible first | exact HB.out | apply below_alloc | apply pw_below_drewN | apply below_drew1 | refine below_set ?_ GE268.out) | exact HB.out)) hb); have n3_ := Aside0.mk (hbox); have n4_ := Aside0.mk ((by rw [hg]; exact (below_size (by repeat (first | (with_reducible first | exact HB.out | apply below_alloc | apply pw_below_drewN | apply below_drew1 | refine below_set ?_ GE268.out) | exact HB.out))) : w.heap.size ≤ gb271)); have n5_ := Aside0.mk ((by rw [hg]; exact (below_size (by repeat (first | (with_reducible first | exact HB.out | apply below_alloc | apply pw_below_drewN | apply below_drew1 | refine below_set ?_ GE268.out) | exact HB.out))) : w.heap.size ≤ gb271)); have n6_ := Aside0.mk ((by rw [hg]; exact Nat.ne_of_lt (blk_lt (g := gb268) (o := .cells #[.int .i64 a0_0, .int .i64 a0_1, .slice (some ad270) l0_2.length c0_2] 42 (0, 0)) (by (with_reducible repeat (first | refine blk_drewN ?_ _ | refine blk_drew ?_ | refine blk_alloc ?_ _)); exact BK268.out)) : gb268 ≠ gb271)); have n7_ := Aside0.mk ((by rw [hg]; exact Nat.ne_of_gt (blk_lt (g := gb268) (o := .cells #[.int .i64 a0_0, .int .i64 a0_1, .slice (some ad270) l0_2.length c0_2] 42 (0, 0)) (by (with_reducible repeat (first | refine blk_drewN ?_ _ | refine blk_drew ?_ | refine blk_alloc ?_ _)); exact BK268.out)) : gb271 ≠ gb268)); clear HO_5; clear BK268; clear HB; have HO_5 := n0_; have BK268 := n1_; have HB := n2_; have BK271 := n3_; have GW271 := n4_; have GE271 := n5_; have NB268_271 := n6_; have NB271_268 := n7_; clear n0_ n1_ n2_ n3_ n4_ n5_ n6_ n7_; clear hb hbox hg; have hnb14 := NB271_268.out; have hnc14 := NB268_271.out; have hcz15_0 : w13.cell? ⟨gb271, 0, none⟩ = some (.int .i64 0) := (blk_cell BK271.out 0).trans rfl; have hcz15_1 : w13.cell? ⟨gb271, 1, none⟩ = some (.int .i64 0) := (blk_cell BK271.out 1).trans rfl; have hcz15_2 : w13.cell? ⟨gb271, 2, none⟩ = some (.int .i64 0) := (blk_cell BK271.out 2).trans rfl; have hcz15_3 : w13.cell? ⟨gb271, 3, none⟩ = some (.int .i64 0) := (blk_cell BK271.out 3).trans rfl; have hcz15_4 : w13.cell? ⟨gb271, 4, none⟩ = some (.int .i64 0) := (blk_cell BK271.out 4).trans rfl; have hcz15_5 : w13.cell? ⟨gb271, 5, none⟩ = some (.int .i64 0) := (blk_cell BK271.out 5).trans rfl; have hcz15_6 : w13.cell? ⟨gb271, 6, none⟩ = some (.slice none 0 0) := (blk_cell BK271.out 6).trans rfl; have hcz15_7 : w13.cell? ⟨gb271, 7, none⟩ = some (.slice none 0 0) := (blk_cell BK271.out 7).trans rfl; have hfz15_0 := blk_frozen BK271.out 0; have hfz15_1 := blk_frozen BK271.out 1; have hfz15_2 := blk_frozen BK271.out 2; have hfz15_3 := blk_frozen BK271.out 3; have hfz15_4 := blk_frozen BK271.out 4; have hfz15_5 := blk_frozen BK271.out 5; have hfz15_6 := blk_frozen BK271.out 6; have hfz15_7 := blk_frozen BK271.out 7) | ((with_reducible refine gate_callee (f := 12) rfl ?_); refine goesL_ (some 29) rfl rfl Try.func12 (by kernel_rfl) rfl #[.slice none 0 0, .agg #[.int .i64 ((rd_T26 l0_2 x22_1).f0), .int .i64 ((rd_T26 l0_2 x22_1).f1.f0), .int .i64 ((rd_T26 l0_2 x22_1).f1.f1), .int .i64 ((rd_T26 l0_2 x22_1).f1.f2), .int .i64 ((rd_T26 l0_2 x22_1).f1.f3), .int .i64 ((rd_T26 l0_2 x22_1).f1.f4), .slice A270_6 ((rd_T26 l0_2 x22_1).f1.f5).length c270_6, .slice A270_7 ((rd_T26 l0_2 x22_1).f1.f6).length c270_7], .int .i64 x6_1] rfl (by (try simp only [List.map_toArray, List.map_cons, List.map_nil]); first | done | rfl | (simp only [List.length_drop, List.length_take]; rfl)) ?_; (refine (event_Append.calls k1 _ _ ([] : List Int) ((rd_T26 l0_2 x22_1).f0) ((rd_T26 l0_2 x22_1).f1.f0) ((rd_T26 l0_2 x22_1).f1.f1) ((rd_T26 l0_2 x22_1).f1.f2) ((rd_T26 l0_2 x22_1).f1.f3) ((rd_T26 l0_2 x22_1).f1.f4) _ _ ((rd_T26 l0_2 x22_1).f1.f5) _ _ ((rd_T26 l0_2 x22_1).f1.f6) x6_1 t272 _ ?side1 ?side2 ?side3 ?side4 ?side5 ?side6 A11.out).mono ?_); (case side1 => exact Kd.C_nil _ _); (case side2 => exact Nat.le_refl _); (case side3 => exact Kd.C_below HR270_6.out (by repeat (first | (with_reducible first | exact HB.out | apply below_alloc | apply pw_below_drewN | apply below_drew1 | refine below_set ?_ GE268.out | refine below_set ?_ GE271.out) | exact HB.out))); (case side4 => exact HC270_6.out); (case side5 => exact Kd.C_below HR270_7.out (by repeat (first | (with_reducible first | exact HB.out | apply below_alloc | apply pw_below_drewN | apply below_drew1 | refine below_set ?_ GE268.out | refine below_set ?_ GE271.out) | exact HB.out))); (case side6 => exact HC270_7.out); rintro e w16 ⟨v273, rfl, ho0, hb⟩; refine ⟨_, rfl, ?_⟩; have n0_ := Aside0.mk (Kd.R_elder' (by (with_reducible repeat (first | apply Kd.R_alloc | apply Kd.R_drewN | apply Kd.R_drew)); exact (Kd.R_mono (Kd.R_far (p := ⟨gb271, 7, none⟩) (Kd.R_far (p := ⟨gb271, 6, none⟩) (Kd.R_far (p := ⟨gb271, 5, none⟩) (Kd.R_far (p := ⟨gb271, 4, none⟩) (Kd.R_far (p := ⟨gb271, 3, none⟩) (Kd.R_far (p := ⟨gb271, 2, none⟩) (Kd.R_far (p := ⟨gb271, 1, none⟩) (Kd.R_far (p := ⟨gb271, 0, none⟩) (Kd.R_types HO_5.out BK271.out (by decide)) (fun _ hk => hk.2) (.int .i64 ((rd_T26 l0_2 x22_1).f0))) (fun _ hk => hk.2) (.int .i64 ((rd_T26 l0_2 x22_1).f1.f0))) (fun _ hk => hk.2) (.int .i64 ((rd_T26 l0_2 x22_1).f1.f1))) (fun _ hk => hk.2) (.int .i64 ((rd_T26 l0_2 x22_1).f1.f2))) (fun _ hk => hk.2) (.int .i64 ((rd_T26 l0_2 x22_1).f1.f3))) (fun _ hk => hk.2) (.int .i64 ((rd_T26 l0_2 x22_1).f1.f4))) (fun _ hk => hk.2) (.slice A270_6 ((rd_T26 l0_2 x22_1).f1.f5).length c270_6)) (fun _ hk => hk.2) (.slice A270_7 ((rd_T26 l0_2 x22_1).f1.f6).length c270_7)) (fun _ h_ => h_.1))) (Kd.R_base ho0) hb); have n1_ := Aside0.mk (Kd.R_lower (Kd.R_new' ho0 (Kd.R_lt (by (with_reducible repeat (first | apply Kd.R_alloc | apply Kd.R_drewN | apply Kd.R_drew)); exact (Kd.R_mono (Kd.R_far (p := ⟨gb271, 7, none⟩) (Kd.R_far (p := ⟨gb271, 6, none⟩) (Kd.R_far (p := ⟨gb271, 5, none⟩) (Kd.R_far (p := ⟨gb271, 4, none⟩) (Kd.R_far (p := ⟨gb271, 3, none⟩) (Kd.R_far (p := ⟨gb271, 2, none⟩) (Kd.R_far (p := ⟨gb271, 1, none⟩) (Kd.R_far (p := ⟨gb271, 0, none⟩) (Kd.R_types HO_5.out BK271.out (by decide)) (fun _ hk => hk.2) (.int .i64 ((rd_T26 l0_2 x22_1).f0))) (fun _ hk => hk.2) (.int .i64 ((rd_T26 l0_2 x22_1).f1.f0))) (fun _ hk => hk.2) (.int .i64 ((rd_T26 l0_2 x22_1).f1.f1))) (fun _ hk => hk.2) (.int .i64 ((rd_T26 l0_2 x22_1).f1.f2))) (fun _ hk => hk.2) (.int .i64 ((rd_T26 l0_2 x22_1).f1.f3))) (fun _ hk => hk.2) (.int .i64 ((rd_T26 l0_2 x22_1).f1.f4))) (fun _ hk => hk.2) (.slice A270_6 ((rd_T26 l0_2 x22_1).f1.f5).length c270_6)) (fun _ hk => hk.2) (.slice A270_7 ((rd_T26 l0_2 x22_1).f1.f6).length c270_7)) (fun _ h_ => h_.1))))) (below_size (by repeat (first | (with_reducible first | exact HB.out | apply below_alloc | apply pw_below_drewN | apply below_drew1 | refine below_set ?_ GE268.out | refine below_set ?_ GE271.out) | exact HB.out)))); have n2_ := Aside0.mk (blk_below (g := gb268) (o := .cells #[.int .i64 a0_0, .int .i64 a0_1, .slice (some ad270) l0_2.length c0_2] 42 (0, 0)) (by (with_reducible repeat (first | refine blk_drewN ?_ _ | refine blk_drew ?_ | refine blk_alloc ?_ _)); refine blk_far ?_ NB268_271.out _; (with_reducible repeat (first | refine blk_drewN ?_ _ | refine blk_drew ?_ | refine blk_alloc ?_ _)); refine blk_far ?_ NB268_271.out _; (with_reducible repeat (first | refine blk_drewN ?_ _ | refine blk_drew ?_ | refine blk_alloc ?_ _)); refine blk_far ?_ NB268_271.out _; (with_reducible repeat (first | refine blk_drewN ?_ _ | refine blk_drew ?_ | refine blk_alloc ?_ _)); refine blk_far ?_ NB268_271.out _; (with_reducible repeat (first | refine blk_drewN ?_ _ | refine blk_drew ?_ | refine blk_alloc ?_ _)); refine blk_far ?_ NB268_271.out _; (with_reducible repeat (first | refine blk_drewN ?_ _ | refine blk_drew ?_ | refine blk_alloc ?_ _)); refine blk_far ?_ NB268_271.out _; (with_reducible repeat (first | refine blk_drewN ?_ _ | refine blk_drew ?_ | refine blk_alloc ?_ _)); refine blk_far ?_ NB268_271.out _; (with_reducible repeat (first | refine blk_drewN ?_ _ | refine blk_drew ?_ | refine blk_alloc ?_ _)); refine blk_far ?_ NB268_271.out _; (with_reducible repeat (first | refine blk_drewN ?_ _ | refine blk_drew ?_ | refine blk_alloc ?_ _)); exact BK268.out) hb); have n3_ := Aside0.mk (blk_below (g := gb271) (o := .cells #[.int .i64 ((rd_T26 l0_2 x22_1).f0), .int .i64 ((rd_T26 l0_2 x22_1).f1.f0), .int .i64 ((rd_T26 l0_2 x22_1).f1.f1), .int .i64 ((rd_T26 l0_2 x22_1).f1.f2), .int .i64 ((rd_T26 l0_2 x22_1).f1.f3), .int .i64 ((rd_T26 l0_2 x22_1).f1.f4), .slice A270_6 ((rd_T26 l0_2 x22_1).f1.f5).length c270_6, .slice A270_7 ((rd_T26 l0_2 x22_1).f1.f6).length c270_7] 26 (0, 0)) (by (with_reducible repeat (first | refine blk_drewN ?_ _ | refine blk_drew ?_ | refine blk_alloc ?_ _)); refine blk_put (cs := #[.int .i64 ((rd_T26 l0_2 x22_1).f0), .int .i64 ((rd_T26 l0_2 x22_1).f1.f0), .int .i64 ((rd_T26 l0_2 x22_1).f1.f1), .int .i64 ((rd_T26 l0_2 x22_1).f1.f2), .int .i64 ((rd_T26 l0_2 x22_1).f1.f3), .int .i64 ((rd_T26 l0_2 x22_1).f1.f4), .slice A270_6 ((rd_T26 l0_2 x22_1).f1.f5).length c270_6, .slice none 0 0]) ?_ 7 _ rfl; (with_reducible repeat (first | refine blk_drewN ?_ _ | refine blk_drew ?_ | refine blk_alloc ?_ _)); refine blk_put (cs := #[.int .i64 ((rd_T26 l0_2 x22_1).f0), .int .i64 ((rd_T26 l0_2 x22_1).f1.f0), .int .i64 ((rd_T26 l0_2 x22_1).f1.f1), .int .i64 ((rd_T26 l0_2 x22_1).f1.f2), .int .i64 ((rd_T26 l0_2 x22_1).f1.f3), .int .i64 ((rd_T26 l0_2 x22_1).f1.f4), .slice none 0 0, .slice none 0 0]) ?_ 6 _ rfl; (with_reducible repeat (first | refine blk_drewN ?_ _ | refine blk_drew ?_ | refine blk_alloc ?_ _)); refine blk_put (cs := #[.int .i64 ((rd_T26 l0_2 x22_1).f0), .int .i64 ((rd_T26 l0_2 x22_1).f1.f0), .int .i64 ((rd_T26 l0_2 x22_1).f1.f1), .int .i64 ((rd_T26 l0_2 x22_1).f1.f2), .int .i64 ((rd_T26 l0_2 x22_1).f1.f3), .int .i64 0, .slice none 0 0, .slice none 0 0]) ?_ 5 _ rfl; (with_reducible repeat (first | refine blk_drewN ?_ _ | refine blk_drew ?_ | refine blk_alloc ?_ _)); refine blk_put (cs := #[.int .i64 ((rd_T26 l0_2 x22_1).f0), .int .i64 ((rd_T26 l0_2 x22_1).f1.f0), .int .i64 ((rd_T26 l0_2 x22_1).f1.f1), .int .i64 ((rd_T26 l0_2 x22_1).f1.f2), .int .i64 0, .int .i64 0, .slice none 0 0, .slice none 0 0]) ?_ 4 _ rfl; (with_reducible repeat (first | refine blk_drewN ?_ _ | refine blk_drew ?_ | refine blk_alloc ?_ _)); refine blk_put (cs := #[.int .i64 ((rd_T26 l0_2 x22_1).f0), .int .i64 ((rd_T26 l0_2 x22_1).f1.f0), .int .i64 ((rd_T26 l0_2 x22_1).f1.f1), .int .i64 0, .int .i64 0, .int .i64 0, .slice none 0 0, .slice none 0 0]) ?_ 3 _ rfl; (with_reducible repeat (first | refine blk_drewN ?_ _ | refine blk_drew ?_ | refine blk_alloc ?_ _)); refine blk_put (cs := #[.int .i64 ((rd_T26 l0_2 x22_1).f0), .int .i64 ((rd_T26 l0_2 x22_1).f1.f0), .int .i64 0, .int .i64 0, .int .i64 0, .int .i64 0, .slice none 0 0, .slice none 0 0]) ?_ 2 _ rfl; (with_reducible repeat (first | refine blk_drewN ?_ _ | refine blk_drew ?_ | refine blk_alloc ?_ _)); refine blk_put (cs := #[.int .i64 ((rd_T26 l0_2 x22_1).f0), .int .i64 0, .int .i64 0, .int .i64 0, .int .i64 0, .int .i64 0, .slice none 0 0, .slice none 0 0]) ?_ 1 _ rfl; (with_reducible repeat (first | refine blk_drewN ?_ _ | refine blk_drew ?_ | refine blk_alloc ?_ _)); refine blk_put (cs := #[.int .i64 0, .int .i64 0, .int .i64 0, .int .i64 0, .int .i64 0, .int .i64 0, .slice none 0 0, .slice none 0 0]) ?_ 0 _ rfl; (with_reducible repeat (first | refine blk_drewN ?_ _ | refine blk_drew ?_ | refine blk_alloc ?_ _)); exact BK271.out) hb); have n4_ := Aside0.mk (below_step (by repeat (first | (with_reducible first | exact HB.out | apply below_alloc | apply pw_below_drewN | apply below_drew1 | refine below_set ?_ GE268.out | refine below_set ?_ GE271.out) | exact HB.out)) hb); clear HO_5; clear BK268; clear BK271; clear HB; have HO_5 := n0_; have HO274 := n1_; have BK268 := n2_; have BK271 := n3_; have HB := n4_; clear n0_ n1_ n2_ n3_ n4_; (try clear hb); (try clear hb2); (try clear hk); (try clear hi); (try clear ho0); obtain ⟨Ao18, co18, eo18⟩ := Kd.R_slice HO274.out; subst eo18) | ((with_reducible refine gate_builtin (b := .append) (xs := #[.tmp 26, .tmp 29]) rfl ?_); at_builtin; refine Kd.R_append_rows (Kd.int .u8) (w0 := w) w.heap.size rfl (.tmp 26) (.tmp 29) 27 5 (.int .u8 0) 1 rfl Try.underlying27 info5 rfl (by decide) (by omega) u5 x5_1 t272 _ _ _ (fun k_ => some k_ ≠ (.slice Ao18 t272.length co18 : Value).ownBlock) (fun _ => False) rfl rfl ?aO ?aR (fun _ _ h => h) (fun _ h => h.elim) ?aF ?aB ?aS ?aL ?_; (case aR => repeat (first | exact (Kd.R_reads' HO274.out).2.2 | (with_reducible refine Kd.C_alloc ?_ _) | (with_reducible refine Kd.C_drewN ?_ _) | (with_reducible refine Kd.C_drew ?_))); (case aB => exact (by repeat (first | (with_reducible first | exact HB.out | apply below_alloc | apply pw_below_drewN | apply below_drew1 | refine below_set ?_ GE268.out | refine below_set ?_ GE271.out) | exact HB.out))); (case aF => exact (fun k_ hk => Kd.fresh' (Kd.R_lt (by (with_reducible repeat (first | apply Kd.R_alloc | apply Kd.R_drewN | apply Kd.R_drew)); exact HO274.out)) k_ hk)); (case aO => exact (by (with_reducible repeat (first | apply Kd.R_alloc | apply Kd.R_drewN | apply Kd.R_drew)); exact Kd.R_mono HO_5.out (fun _ hk => hk.2))); (case aS => exact (below_size (by repeat (first | (with_reducible first | exact HB.out | apply below_alloc | apply pw_below_drewN | apply below_drew1 | refine below_set ?_ GE268.out | refine below_set ?_ GE271.out) | exact HB.out)))); (case aL => have := LMc12.out; omega); intro v276 w17 ho hb hg hat; rw [← Ny275.out] at ho; have n0_ := Aside0.mk (blk_grown (g := gb268) (o := .cells #[.int .i64 a0_0, .int .i64 a0_1, .slice (some ad270) l0_2.length c0_2] 42 (0, 0)) (by (with_reducible repeat (first | refine blk_drewN ?_ _ | refine blk_drew ?_ | refine blk_alloc ?_ _)); exact BK268.out) hg (Kd.R_ne HO_5.out BK268.out (by decide))); have n1_ := Aside0.mk (blk_grown (g := gb271) (o := .cells #[.int .i64 ((rd_T26 l0_2 x22_1).f0), .int .i64 ((rd_T26 l0_2 x22_1).f1.f0), .int .i64 ((rd_T26 l0_2 x22_1).f1.f1), .int .i64 ((rd_T26 l0_2 x22_1).f1.f2), .int .i64 ((rd_T26 l0_2 x22_1).f1.f3), .int .i64 ((rd_T26 l0_2 x22_1).f1.f4), .slice A270_6 ((rd_T26 l0_2 x22_1).f1.f5).length c270_6, .slice A270_7 ((rd_T26 l0_2 x22_1).f1.f6).length c270_7] 26 (0, 0)) (by (with_reducible repeat (first | refine blk_drewN ?_ _ | refine blk_drew ?_ | refine blk_alloc ?_ _)); exact BK271.out) hg (Kd.R_ne HO_5.out BK271.out (by decide))); have n2_ := Aside0.mk (Kd.R_after (ok := (fun _ => True)) (by (with_reducible repeat (first | apply Kd.R_alloc | apply Kd.R_drewN | apply Kd.R_drew)); exact HO274.out) hg hat); have n3_ := Aside0.mk (hb); have n4_ := Aside0.mk (ho); clear BK268; clear BK271; clear HO274; clear HB; clear HO_5; have BK268 := n0_; have BK271 := n1_; have HO274 := n2_; have HB := n3_; have HO277 := n4_; clear n0_ n1_ n2_ n3_ n4_; clear ho hb hg hat; have hcz19_0 : w17.cell? ⟨gb271, 0, none⟩ = some (.int .i64 ((rd_T26 l0_2 x22_1).f0)) := (blk_cell BK271.out 0).trans rfl; have hcz19_1 : w17.cell? ⟨gb271, 1, none⟩ = some (.int .i64 ((rd_T26 l0_2 x22_1).f1.f0)) := (blk_cell BK271.out 1).trans rfl; have hcz19_2 : w17.cell? ⟨gb271, 2, none⟩ = some (.int .i64 ((rd_T26 l0_2 x22_1).f1.f1)) := (blk_cell BK271.out 2).trans rfl; have hcz19_3 : w17.cell? ⟨gb271, 3, none⟩ = some (.int .i64 ((rd_T26 l0_2 x22_1).f1.f2)) := (blk_cell BK271.out 3).trans rfl; have hcz19_4 : w17.cell? ⟨gb271, 4, none⟩ = some (.int .i64 ((rd_T26 l0_2 x22_1).f1.f3)) := (blk_cell BK271.out 4).trans rfl; have hcz19_5 : w17.cell? ⟨gb271, 5, none⟩ = some (.int .i64 ((rd_T26 l0_2 x22_1).f1.f4)) := (blk_cell BK271.out 5).trans rfl; have hcz19_6 : w17.cell? ⟨gb271, 6, none⟩ = some (.slice A270_6 ((rd_T26 l0_2 x22_1).f1.f5).length c270_6) := (blk_cell BK271.out 6).trans rfl; have hcz19_7 : w17.cell? ⟨gb271, 7, none⟩ = some (.slice A270_7 ((rd_T26 l0_2 x22_1).f1.f6).length c270_7) := (blk_cell BK271.out 7).trans rfl; have hfz19_0 := blk_frozen BK271.out 0; have hfz19_1 := blk_frozen BK271.out 1; have hfz19_2 := blk_frozen BK271.out 2; have hfz19_3 := blk_frozen BK271.out 3; have hfz19_4 := blk_frozen BK271.out 4; have hfz19_5 := blk_frozen BK271.out 5; have hfz19_6 := blk_frozen BK271.out 6; have hfz19_7 := blk_frozen BK271.out 7))
                go_roundg k1
                case measure => have := HK1.out; omega
                case rel => exact ⟨(y275), ((rd_T26 l0_2 x22_1).f0), (wrap64 (x22_1 + 1)), (by first | rfl | (simp; done) | (simp [*]; done)), (by first | rfl | (simp; done) | (simp [*]; done)), H', ⟨by have := HK1.out; omega⟩, ⟨by (with_reducible repeat (first | apply Kd.R_alloc | apply Kd.R_drewN | apply Kd.R_drew)); exact Kd.R_mono HO277.out (fun _ hk => trivial)⟩, ⟨by (with_reducible repeat (first | refine blk_drewN ?_ _ | refine blk_drew ?_ | refine blk_alloc ?_ _)); exact BK268.out⟩, ⟨by repeat (first | (with_reducible first | exact HB.out | apply below_alloc | apply pw_below_drewN | apply below_drew1 | refine below_set ?_ GE268.out | refine below_set ?_ GE271.out) | exact HB.out)⟩⟩
              · rw [if_neg c12] at H
                exact absurd H (by simp)
            · rw [if_neg c10] at H
              exact absurd H (by simp)
          · rw [if_neg c9] at H
            exact absurd H (by simp)
        · rw [if_neg c8] at H
          have c8b0 : decide (x22_1 < (l0_2.length : Int)) = false := decide_eq_false c8
          clear c8
          replace H := Option.bind_eq_some_iff.mp H
          obtain ⟨t278, A200, H⟩ := H
          replace H : ((some (([a0_1, (l0_2.length : Int), (x5_1.length : Int), (t278.length : Int)] : List Int) : List Int)).bind fun y284 => (block_Encode.l1 k1 t278 (([84, (a0_0) % 256] : List Int)) y284 (y284.length : Int) 0)) = some (r1, r2) := H
          have A20 := Aside0.mk A200
          clear A200
          obtain ⟨y281, hy281⟩ : ∃ y_ : List Int, y_ = (([84, (a0_0) % 256] : List Int)) := ⟨_, rfl⟩
          replace H : ((some (([a0_1, (l0_2.length : Int), (x5_1.length : Int), (t278.length : Int)] : List Int) : List Int)).bind fun y284 => (block_Encode.l1 k1 t278 y281 y284 (y284.length : Int) 0)) = some (r1, r2) := by first | (rw [hy281]; with_reducible exact H) | (have H2_ := (Option.bind_some _ _).symm.trans H; rw [hy281]; with_reducible exact H2_) | (have H2_ := (Option.bind_some _ _).symm.trans H; with_reducible exact H2_) | with_reducible exact H | (rw [hy281]; exact H) | exact H
          have Ny281 := Aside0.mk hy281
          clear hy281
          obtain ⟨y284, hy284⟩ : ∃ y_ : List Int, y_ = (([a0_1, (l0_2.length : Int), (x5_1.length : Int), (t278.length : Int)] : List Int)) := ⟨_, rfl⟩
          replace H : (block_Encode.l1 k1 t278 y281 y284 (y284.length : Int) 0) = some (r1, r2) := by first | (rw [hy284]; with_reducible exact H) | (have H2_ := (Option.bind_some _ _).symm.trans H; rw [hy284]; with_reducible exact H2_) | (have H2_ := (Option.bind_some _ _).symm.trans H; with_reducible exact H2_) | with_reducible exact H | (rw [hy284]; exact H) | exact H
          have Ny284 := Aside0.mk hy284
          clear hy284
          have H' := Aside0.mk H
          clear H
          obtain ⟨Ao21, co21, eo21⟩ := Kd.R_slice HO_5.out
          subst eo21
          go_wp2_with (first | ((with_reducible refine gate_callee (f := 51) rfl ?_); refine goesL_ (some 35) rfl rfl Try.func51 (by kernel_rfl) rfl #[.slice Ao21 x5_1.length co21] rfl (by (try simp only [List.map_toArray, List.map_cons, List.map_nil]); first | done | rfl | (simp only [List.length_drop, List.length_take]; rfl)) ?_; (with_reducible refine (pack_Pack.calls k1 _ _ x5_1 t278 _ ?side1 ?side2 A20.out).mono ?_); (case side1 => repeat (first | exact (Kd.R_reads' HO_5.out).2.2 | (with_reducible refine Kd.C_alloc ?_ _) | (with_reducible refine Kd.C_drewN ?_ _) | (with_reducible refine Kd.C_drew ?_))); (case side2 => exact (Kd.R_reads' HO_5.out).2.1); rintro e w22 ⟨v279, rfl, ho0, hb⟩; refine ⟨_, rfl, ?_⟩; have n0_ := Aside0.mk (Kd.R_elder' (by (with_reducible repeat (first | apply Kd.R_alloc | apply Kd.R_drewN | apply Kd.R_drew)); exact HO_5.out) (Kd.R_base ho0) hb); have n1_ := Aside0.mk (Kd.R_lower (Kd.R_new' ho0 (Kd.R_lt (by (with_reducible repeat (first | apply Kd.R_alloc | apply Kd.R_drewN | apply Kd.R_drew)); exact HO_5.out))) (below_size (by repeat (first | (with_reducible first | exact HB.out | apply below_alloc | apply pw_below_drewN | apply below_drew1 | refine below_set ?_ GE268.out) | exact HB.out)))); have n2_ := Aside0.mk (blk_below (g := gb268) (o := .cells #[.int .i64 a0_0, .int .i64 a0_1, .slice A0_2 l0_2.length c0_2] 42 (0, 0)) (by (with_reducible repeat (first | refine blk_drewN ?_ _ | refine blk_drew ?_ | refine blk_alloc ?_ _)); exact BK268.out) hb); have n3_ := Aside0.mk (below_step (by repeat (first | (with_reducible first | exact HB.out | apply below_alloc | apply pw_below_drewN | apply below_drew1 | refine below_set ?_ GE268.out) | exact HB.out)) hb); clear HO_5; clear BK268; clear HB; have HO_5 := n0_; have HO280 := n1_; have BK268 := n2_; have HB := n3_; clear n0_ n1_ n2_ n3_; (try clear hb); (try clear hb2); (try clear hk); (try clear hi); (try clear ho0); have hcz23_0 : w22.cell? ⟨gb268, 0, none⟩ = some (.int .i64 a0_0) := (blk_cell BK268.out 0).trans rfl; have hcz23_1 : w22.cell? ⟨gb268, 1, none⟩ = some (.int .i64 a0_1) := (blk_cell BK268.out 1).trans rfl; have hcz23_2 : w22.cell? ⟨gb268, 2, none⟩ = some (.slice A0_2 l0_2.length c0_2) := (blk_cell BK268.out 2).trans rfl; have hfz23_0 := blk_frozen BK268.out 0; have hfz23_1 := blk_frozen BK268.out 1; have hfz23_2 := blk_frozen BK268.out 2) | ((with_reducible refine gate_dst (N := 39) rfl ?_); refine Kd.R_lit (Kd.int .u8) _ 5 ?hg (N := 39) ?hd (xs := ([84, (a0_0) % 256] : List Int)) (inner := [.int .u8 84, .int .u8 ((a0_0) % 256)]) (ok := fun _ => True) (okp := fun _ => True) ?hr ?hp (fun _ hk => hk) trivial (Below.refl _ _) (Nat.le_refl _) (by simp) ?_; (case hd => rfl); (case hg => rfl); (case hr => first | (go_simp; done) | (go_simp; rfl)); (case hp => exact (Reps.one (show Kd.M (Kd.int .u8) _ _ _ 84 [.int .u8 84] from rfl) (Reps.one (show Kd.M (Kd.int .u8) _ _ _ ((a0_0) % 256) [.int .u8 ((a0_0) % 256)] from rfl) (Reps.none _ _)))); intro v282 w24 ho25 hb hg_ hnew_; clear hg_ hnew_; (first | rw [← Ny281.out] at ho25 | (simp only [Int.reduceToNat] at ho25; rw [← Ny281.out] at ho25)); have n0_ := Aside0.mk (Kd.R_elder' (by (with_reducible repeat (first | apply Kd.R_alloc | apply Kd.R_drewN | apply Kd.R_drew)); exact HO_5.out) (Kd.R_base ho25) hb); have n1_ := Aside0.mk (Kd.R_elder' (by (with_reducible repeat (first | apply Kd.R_alloc | apply Kd.R_drewN | apply Kd.R_drew)); exact HO280.out) (Kd.R_base ho25) hb); have n2_ := Aside0.mk (Kd.R_lower (Kd.R_new' (Kd.R_new' ho25 (Kd.R_lt (by (with_reducible repeat (first | apply Kd.R_alloc | apply Kd.R_drewN | apply Kd.R_drew)); exact HO_5.out))) (Kd.R_lt (by (with_reducible repeat (first | apply Kd.R_alloc | apply Kd.R_drewN | apply Kd.R_drew)); exact HO280.out))) (below_size (by repeat (first | (with_reducible first | exact HB.out | apply below_alloc | apply pw_below_drewN | apply below_drew1 | refine below_set ?_ GE268.out) | exact HB.out)))); have n3_ := Aside0.mk (blk_below (g := gb268) (o := .cells #[.int .i64 a0_0, .int .i64 a0_1, .slice A0_2 l0_2.length c0_2] 42 (0, 0)) (by (with_reducible repeat (first | refine blk_drewN ?_ _ | refine blk_drew ?_ | refine blk_alloc ?_ _)); exact BK268.out) hb); have n4_ := Aside0.mk (below_step (by repeat (first | (with_reducible first | exact HB.out | apply below_alloc | apply pw_below_drewN | apply below_drew1 | refine below_set ?_ GE268.out) | exact HB.out)) hb); clear HO_5; clear HO280; clear BK268; clear HB; have HO_5 := n0_; have HO280 := n1_; have HO283 := n2_; have BK268 := n3_; have HB := n4_; clear n0_ n1_ n2_ n3_ n4_; clear hb ho25; have hcz26_0 : w24.cell? ⟨gb268, 0, none⟩ = some (.int .i64 a0_0) := (blk_cell BK268.out 0).trans rfl; have hcz26_1 : w24.cell? ⟨gb268, 1, none⟩ = some (.int .i64 a0_1) := (blk_cell BK268.out 1).trans rfl; have hcz26_2 : w24.cell? ⟨gb268, 2, none⟩ = some (.slice A0_2 l0_2.length c0_2) := (blk_cell BK268.out 2).trans rfl; have hfz26_0 := blk_frozen BK268.out 0; have hfz26_1 := blk_frozen BK268.out 1; have hfz26_2 := blk_frozen BK268.out 2; obtain ⟨Ao27, co27, eo27⟩ := Kd.R_slice HO280.out; subst eo27) | ((with_reducible refine gate_dst (N := 49) rfl ?_); refine Kd.R_lit (Kd.int .i64) _ 3 ?hg (N := 49) ?hd (xs := ([a0_1, (l0_2.length : Int), (x5_1.length : Int), (t278.length : Int)] : List Int)) (inner := [.int .i64 a0_1, .int .i64 (l0_2.length : Int), .int .i64 (x5_1.length : Int), .int .i64 (t278.length : Int)]) (ok := fun _ => True) (okp := fun _ => True) ?hr ?hp (fun _ hk => hk) trivial (Below.refl _ _) (Nat.le_refl _) (by simp) ?_; (case hd => rfl); (case hg => rfl); (case hr => first | (go_simp; done) | (go_simp; rfl)); (case hp => exact (Reps.one (show Kd.M (Kd.int .i64) _ _ _ a0_1 [.int .i64 a0_1] from rfl) (Reps.one (show Kd.M (Kd.int .i64) _ _ _ (l0_2.length : Int) [.int .i64 (l0_2.length : Int)] from rfl) (Reps.one (show Kd.M (Kd.int .i64) _ _ _ (x5_1.length : Int) [.int .i64 (x5_1.length : Int)] from rfl) (Reps.one (show Kd.M (Kd.int .i64) _ _ _ (t278.length : Int) [.int .i64 (t278.length : Int)] from rfl) (Reps.none _ _)))))); intro v285 w28 ho29 hb hg_ hnew_; clear hg_ hnew_; (first | rw [← Ny284.out] at ho29 | (simp only [Int.reduceToNat] at ho29; rw [← Ny284.out] at ho29)); have n0_ := Aside0.mk (Kd.R_below (by (with_reducible repeat (first | apply Kd.R_alloc | apply Kd.R_drewN | apply Kd.R_drew)); exact HO_5.out) hb); have n1_ := Aside0.mk (Kd.R_below (by (with_reducible repeat (first | apply Kd.R_alloc | apply Kd.R_drewN | apply Kd.R_drew)); exact HO280.out) hb); have n2_ := Aside0.mk (Kd.R_below (by (with_reducible repeat (first | apply Kd.R_alloc | apply Kd.R_drewN | apply Kd.R_drew)); exact HO283.out) hb); have n3_ := Aside0.mk (Kd.R_lower ho29 (below_size (by repeat (first | (with_reducible first | exact HB.out | apply below_alloc | apply pw_below_drewN | apply below_drew1 | refine below_set ?_ GE268.out) | exact HB.out)))); have n4_ := Aside0.mk (blk_below (g := gb268) (o := .cells #[.int .i64 a0_0, .int .i64 a0_1, .slice A0_2 l0_2.length c0_2] 42 (0, 0)) (by (with_reducible repeat (first | refine blk_drewN ?_ _ | refine blk_drew ?_ | refine blk_alloc ?_ _)); exact BK268.out) hb); have n5_ := Aside0.mk (below_step (by repeat (first | (with_reducible first | exact HB.out | apply below_alloc | apply pw_below_drewN | apply below_drew1 | refine below_set ?_ GE268.out) | exact HB.out)) hb); clear HO_5; clear HO280; clear HO283; clear BK268; clear HB; have HO_5 := n0_; have HO280 := n1_; have HO283 := n2_; have HO286 := n3_; have BK268 := n4_; have HB := n5_; clear n0_ n1_ n2_ n3_ n4_ n5_; clear hb ho29; obtain ⟨Ao30, co30, eo30⟩ := Kd.R_slice HO286.out; subst eo30))
          go_loopg [10, 51] k1 (fun kq v10 v51 w' => ∃ (x10_2 : List Int) (x51_2 : Int), v51 = .int .i64 x51_2 ∧ Aside0 (block_Encode.l1 kq t278 x10_2 y284 (y284.length : Int) x51_2 = some (r1, r2)) ∧ Aside0 (kq ≤ k1) ∧ Aside0 (Kd.R (Kd.int .u8) 5 w' w.heap.size (fun k_ => some k_ ≠ (v10 : Value).ownBlock) (.slice Ao27 t278.length co27) t278) ∧ Aside0 (Kd.R (Kd.int .u8) 5 w' w.heap.size (fun k_ => some k_ ≠ ((.slice Ao27 t278.length co27) : Value).ownBlock) v10 x10_2) ∧ Aside0 (Kd.R (Kd.int .i64) 3 w' w.heap.size (fun _ => True) (.slice Ao30 y284.length co30) y284) ∧ Aside0 (w'.heap[gb268]? = some (.cells #[.int .i64 a0_0, .int .i64 a0_1, (.slice A0_2 l0_2.length c0_2)] 42 (0, 0))) ∧ Aside0 (Below w.heap.size w w'))
          case atStart => exact ⟨(y281), (0), (by first | rfl | (simp; done) | (simp [*]; done)), H', ⟨Nat.le_refl _⟩, ⟨by (with_reducible repeat (first | apply Kd.R_alloc | apply Kd.R_drewN | apply Kd.R_drew)); exact Kd.R_mono HO280.out (fun _ hk => hk.2)⟩, ⟨by (with_reducible repeat (first | apply Kd.R_alloc | apply Kd.R_drewN | apply Kd.R_drew)); exact Kd.R_mono HO283.out (fun _ hk => hk.2)⟩, ⟨by (with_reducible repeat (first | apply Kd.R_alloc | apply Kd.R_drewN | apply Kd.R_drew)); exact HO286.out⟩, ⟨by (with_reducible repeat (first | refine blk_drewN ?_ _ | refine blk_drew ?_ | refine blk_alloc ?_ _)); exact BK268.out⟩, ⟨by repeat (first | (with_reducible first | exact HB.out | apply below_alloc | apply pw_below_drewN | apply below_drew1 | refine below_set ?_ GE268.out) | exact HB.out)⟩⟩
          case round =>
            clear H'
            try clear c1
            try clear c2
            try clear p2
            try clear q2
            try clear hx2
            try clear c3
            try clear c3b0
            try clear c3b1
            try clear c5
            try clear p6
            try clear c8
            try clear c8b0
            try clear c9
            try clear c9b0
            try clear c10
            try clear c10b0
            try clear c12
            try clear c14
            try clear c21
            try clear c27
            try clear p27
            try clear q27
            try clear hx27
            try clear hcz15_0
            try clear hcz15_1
            try clear hcz15_2
            try clear hcz15_3
            try clear hcz15_4
            try clear hcz15_5
            try clear hcz15_6
            try clear hcz15_7
            try clear hcz19_0
            try clear hcz19_1
            try clear hcz19_2
            try clear hcz19_3
            try clear hcz19_4
            try clear hcz19_5
            try clear hcz19_6
            try clear hcz19_7
            try clear hcz23_0
            try clear hcz23_1
            try clear hcz23_2
            try clear hcz26_0
            try clear hcz26_1
            try clear hcz26_2
            try clear hcz5_0
            try clear hcz5_1
            try clear hcz5_2
            try clear hcz7_0
            try clear hcz7_1
            try clear hcz7_2
            try clear hfz15_0
            try clear hfz15_1
            try clear hfz15_2
            try clear hfz15_3
            try clear hfz15_4
            try clear hfz15_5
            try clear hfz15_6
            try clear hfz15_7
            try clear hfz19_0
            try clear hfz19_1
            try clear hfz19_2
            try clear hfz19_3
            try clear hfz19_4
            try clear hfz19_5
            try clear hfz19_6
            try clear hfz19_7
            try clear hfz23_0
            try clear hfz23_1
            try clear hfz23_2
            try clear hfz26_0
            try clear hfz26_1
            try clear hfz26_2
            try clear hfz5_0
            try clear hfz5_1
            try clear hfz5_2
            try clear hfz7_0
            try clear hfz7_1
            try clear hfz7_2
            try clear hx270_0
            try clear hx270_1
            try clear hx270_2
            try clear hx270_3
            try clear hx270_4
            try clear hx270_5
            try clear hx270_6
            try clear hx270_7
            try clear p2
            try clear p270
            try clear q270
            obtain ⟨x10_2, x51_2, rfl, HA, HK2, HO_9, HO_10, HO_49, BK268, HB⟩ := hrel
            cases gk with
            | zero => exact absurd HA.out (by simp [block_Encode.l1])
            | succ k2 =>
              have H := HA.out
              clear HA
              simp only [block_Encode.l1] at H
              by_cases c31 : x51_2 < (y284.length : Int)
              · rw [if_pos c31] at H
                have c31b0 : decide (x51_2 < (y284.length : Int)) = true := decide_eq_true c31
                clear c31
                by_cases c32 : 0 ≤ x51_2
                · rw [if_pos c32] at H
                  have c32b0 : decide (0 ≤ x51_2) = true := decide_eq_true c32
                  clear c32
                  by_cases c33 : x51_2 < (y284.length : Int)
                  · rw [if_pos c33] at H
                    have c33b0 : decide (x51_2 < (y284.length : Int)) = true := decide_eq_true c33
                    clear c33
                    replace H := Option.bind_eq_some_iff.mp H
                    obtain ⟨t288, A340, H⟩ := H
                    replace H : (block_Encode.l1 k2 t278 t288 y284 (y284.length : Int) (wrap64 (x51_2 + 1))) = some (r1, r2) := H
                    have A34 := Aside0.mk A340
                    clear A340
                    have H' := Aside0.mk H
                    clear H
                    have p287 : 0 ≤ (x51_2 : Int) := of_decide_eq_true (by first | (with_reducible assumption) | assumption)
                    have q287 : x51_2 < (y284.length : Int) := of_decide_eq_true (by first | (with_reducible assumption) | assumption)
                    obtain ⟨ad287, e287, hx287_0⟩ := Kd.at_int (Kd.R_reads' HO_49.out).2.2 x51_2 p287 q287
                    cases e287
                    replace p287 := eq_true p287
                    replace q287 := eq_true q287
                    obtain ⟨Ao35, co35, eo35⟩ := Kd.R_slice HO_10.out
                    subst eo35
                    go_wp2_with (first | ((with_reducible refine gate_callee (f := 49) rfl ?_); refine goesL_ (some 57) rfl rfl Try.func49 (by kernel_rfl) rfl #[.slice Ao35 x10_2.length co35, .int .i64 (rd y284 x51_2)] rfl (by (try simp only [List.map_toArray, List.map_cons, List.map_nil]); first | done | rfl | (simp only [List.length_drop, List.length_take]; rfl)) ?_; (with_reducible refine (event_PutInt.calls k2 _ _ x10_2 (rd y284 x51_2) t288 _ ?side1 ?side2 A34.out).mono ?_); (case side1 => repeat (first | exact (Kd.R_reads' HO_10.out).2.2 | (with_reducible refine Kd.C_alloc ?_ _) | (with_reducible refine Kd.C_drewN ?_ _) | (with_reducible refine Kd.C_drew ?_))); (case side2 => exact (Kd.R_reads' HO_10.out).2.1); rintro e w36 ⟨v289, rfl, ho0, hb⟩; refine ⟨_, rfl, ?_⟩; have n0_ := Aside0.mk (Kd.R_elder' (by (with_reducible repeat (first | apply Kd.R_alloc | apply Kd.R_drewN | apply Kd.R_drew)); exact HO_9.out) (Kd.R_base ho0) hb); have n1_ := Aside0.mk (Kd.R_elder' (by (with_reducible repeat (first | apply Kd.R_alloc | apply Kd.R_drewN | apply Kd.R_drew)); exact HO_10.out) (Kd.R_base ho0) hb); have n2_ := Aside0.mk (Kd.R_below (by (with_reducible repeat (first | apply Kd.R_alloc | apply Kd.R_drewN | apply Kd.R_drew)); exact HO_49.out) hb); have n3_ := Aside0.mk (Kd.R_lower (Kd.R_new' (Kd.R_new' ho0 (Kd.R_lt (by (with_reducible repeat (first | apply Kd.R_alloc | apply Kd.R_drewN | apply Kd.R_drew)); exact HO_9.out))) (Kd.R_lt (by (with_reducible repeat (first | apply Kd.R_alloc | apply Kd.R_drewN | apply Kd.R_drew)); exact HO_10.out))) (below_size (by repeat (first | (with_reducible first | exact HB.out | apply below_alloc | apply pw_below_drewN | apply below_drew1 | refine below_set ?_ GE268.out) | exact HB.out)))); have n4_ := Aside0.mk (blk_below (g := gb268) (o := .cells #[.int .i64 a0_0, .int .i64 a0_1, .slice A0_2 l0_2.length c0_2] 42 (0, 0)) (by (with_reducible repeat (first | refine blk_drewN ?_ _ | refine blk_drew ?_ | refine blk_alloc ?_ _)); exact BK268.out) hb); have n5_ := Aside0.mk (below_step (by repeat (first | (with_reducible first | exact HB.out | apply below_alloc | apply pw_below_drewN | apply below_drew1 | refine below_set ?_ GE268.out) | exact HB.out)) hb); clear HO_9; clear HO_10; clear HO_49; clear BK268; clear HB; have HO_9 := n0_; have HO_10 := n1_; have HO_49 := n2_; have HO290 := n3_; have BK268 := n4_; have HB := n5_; clear n0_ n1_ n2_ n3_ n4_ n5_; (try clear hb); (try clear hb2); (try clear hk); (try clear hi); (try clear ho0)))
                    go_roundg k2
                    case measure => have := HK1.out; have := HK2.out; omega
                    case rel => exact ⟨(t288), (wrap64 (x51_2 + 1)), (by first | rfl | (simp; done) | (simp [*]; done)), H', ⟨by have := HK1.out; have := HK2.out; omega⟩, ⟨by (with_reducible repeat (first | apply Kd.R_alloc | apply Kd.R_drewN | apply Kd.R_drew)); exact Kd.R_mono HO_9.out (fun _ hk => hk.2)⟩, ⟨by (with_reducible repeat (first | apply Kd.R_alloc | apply Kd.R_drewN | apply Kd.R_drew)); exact Kd.R_mono HO290.out (fun _ hk => hk.1.2)⟩, ⟨by (with_reducible repeat (first | apply Kd.R_alloc | apply Kd.R_drewN | apply Kd.R_drew)); exact HO_49.out⟩, ⟨by (with_reducible repeat (first | refine blk_drewN ?_ _ | refine blk_drew ?_ | refine blk_alloc ?_ _)); exact BK268.out⟩, ⟨by repeat (first | (with_reducible first | exact HB.out | apply below_alloc | apply pw_below_drewN | apply below_drew1 | refine below_set ?_ GE268.out) | exact HB.out)⟩⟩
                  · rw [if_neg c33] at H
                    exact absurd H (by simp)
                · rw [if_neg c32] at H
                  exact absurd H (by simp)
              · rw [if_neg c31] at H
                have c31b0 : decide (x51_2 < (y284.length : Int)) = false := decide_eq_false c31
                clear c31
                by_cases c37 : x10_2.length + t278.length < 140737488355328
                · rw [if_pos c37] at H
                  have LMc37 := Aside0.mk c37
                  clear c37
                  obtain ⟨y291, hy291⟩ : ∃ y_ : List Int, y_ = (x10_2 ++ t278) := ⟨_, rfl⟩
                  replace H : ((block_seal.f k2 y291).bind fun bt294 => (if y291.length + [bt294.1, bt294.2.1, bt294.2.2.1, bt294.2.2.2].length < 140737488355328 then (some ((y291 ++ [bt294.1, bt294.2.1, bt294.2.2.1, bt294.2.2.2]), 0)) else (none))) = some (r1, r2) := by first | (rw [hy291]; with_reducible exact H) | (have H2_ := (Option.bind_some _ _).symm.trans H; rw [hy291]; with_reducible exact H2_) | (have H2_ := (Option.bind_some _ _).symm.trans H; with_reducible exact H2_) | with_reducible exact H | (rw [hy291]; exact H) | exact H
                  have Ny291 := Aside0.mk hy291
                  clear hy291
                  replace H := Option.bind_eq_some_iff.mp H
                  obtain ⟨⟨t294, t295, t296, t297⟩, A380, H⟩ := H
                  replace H : (if y291.length + [t294, t295, t296, t297].length < 140737488355328 then (some ((y291 ++ [t294, t295, t296, t297]), 0)) else (none)) = some (r1, r2) := H
                  have A38 := Aside0.mk A380
                  clear A380
                  by_cases c39 : y291.length + [t294, t295, t296, t297].length < 140737488355328
                  · rw [if_pos c39] at H
                    have LMc39 := Aside0.mk c39
                    clear c39
                    obtain ⟨y299, hy299⟩ : ∃ y_ : List Int, y_ = (y291 ++ [t294, t295, t296, t297]) := ⟨_, rfl⟩
                    replace H : (some (y299, 0)) = some (r1, r2) := by first | (rw [hy299]; with_reducible exact H) | (have H2_ := (Option.bind_some _ _).symm.trans H; rw [hy299]; with_reducible exact H2_) | (have H2_ := (Option.bind_some _ _).symm.trans H; with_reducible exact H2_) | with_reducible exact H | (rw [hy299]; exact H) | exact H
                    have Ny299 := Aside0.mk hy299
                    clear hy299
                    simp only [Option.some.injEq, Prod.mk.injEq] at H
                    obtain ⟨rfl, rfl⟩ := H
                    go_wp2_with (first | ((with_reducible refine gate_builtin (b := .append) (xs := #[.tmp 59, .tmp 60]) rfl ?_); at_builtin; refine Kd.R_append_rows (Kd.int .u8) (w0 := w) w.heap.size rfl (.tmp 59) (.tmp 60) 27 5 (.int .u8 0) 1 rfl Try.underlying27 info5 rfl (by decide) (by omega) u10 x10_2 t278 _ _ _ (fun k_ => some k_ ≠ (.slice Ao27 t278.length co27 : Value).ownBlock) (fun _ => False) rfl rfl ?aO ?aR (fun _ _ h => h) (fun _ h => h.elim) ?aF ?aB ?aS ?aL ?_; (case aR => repeat (first | exact (Kd.R_reads' HO_9.out).2.2 | (with_reducible refine Kd.C_alloc ?_ _) | (with_reducible refine Kd.C_drewN ?_ _) | (with_reducible refine Kd.C_drew ?_))); (case aB => exact (by repeat (first | (with_reducible first | exact HB.out | apply below_alloc | apply pw_below_drewN | apply below_drew1 | refine below_set ?_ GE268.out) | exact HB.out))); (case aF => exact (fun k_ hk => Kd.fresh' (Kd.R_lt (by (with_reducible repeat (first | apply Kd.R_alloc | apply Kd.R_drewN | apply Kd.R_drew)); exact HO_9.out)) k_ hk)); (case aO => exact (by (with_reducible repeat (first | apply Kd.R_alloc | apply Kd.R_drewN | apply Kd.R_drew)); exact HO_10.out)); (case aS => exact (below_size (by repeat (first | (with_reducible first | exact HB.out | apply below_alloc | apply pw_below_drewN | apply below_drew1 | refine below_set ?_ GE268.out) | exact HB.out)))); (case aL => have := LMc37.out; omega); intro v292 w40 ho hb hg hat; rw [← Ny291.out] at ho; have n0_ := Aside0.mk (Kd.R_after (ok := (fun _ => True)) (by (with_reducible repeat (first | apply Kd.R_alloc | apply Kd.R_drewN | apply Kd.R_drew)); exact Kd.R_mono HO_9.out (fun _ hk => ⟨trivial, hk⟩)) hg hat); have n1_ := Aside0.mk (Kd.R_over' (by (with_reducible repeat (first | apply Kd.R_alloc | apply Kd.R_drewN | apply Kd.R_drew)); exact HO_49.out) (Kd.R_typed (by (with_reducible repeat (first | apply Kd.R_alloc | apply Kd.R_drewN | apply Kd.R_drew)); exact HO_10.out)) (by decide) hg); have n2_ := Aside0.mk (blk_grown (g := gb268) (o := .cells #[.int .i64 a0_0, .int .i64 a0_1, .slice A0_2 l0_2.length c0_2] 42 (0, 0)) (by (with_reducible repeat (first | refine blk_drewN ?_ _ | refine blk_drew ?_ | refine blk_alloc ?_ _)); exact BK268.out) hg (Kd.R_ne HO_10.out BK268.out (by decide))); have n3_ := Aside0.mk (hb); have n4_ := Aside0.mk (ho); clear HO_9; clear HO_49; clear BK268; clear HB; clear HO_10; have HO_9 := n0_; have HO_49 := n1_; have BK268 := n2_; have HB := n3_; have HO293 := n4_; clear n0_ n1_ n2_ n3_ n4_; clear ho hb hg hat; obtain ⟨Ao41, co41, eo41⟩ := Kd.R_slice HO293.out; subst eo41) | ((with_reducible refine gate_callee (f := 52) rfl ?_); refine goesL_ (some 63) rfl rfl Try.func52 (by kernel_rfl) rfl #[.slice Ao41 y291.length co41] rfl (by (try simp only [List.map_toArray, List.map_cons, List.map_nil]); first | done | rfl | (simp only [List.length_drop, List.length_take]; rfl)) ?_; (with_reducible refine (block_seal.calls k2 _ _ y291 t294 t295 t296 t297 _ ?side1 ?side2 A38.out).mono ?_); (case side1 => repeat (first | exact (Kd.R_reads' HO293.out).2.2 | (with_reducible refine Kd.C_alloc ?_ _) | (with_reducible refine Kd.C_drewN ?_ _) | (with_reducible refine Kd.C_drew ?_))); (case side2 => exact (Kd.R_reads' HO293.out).2.1); rintro e w42 ⟨rfl, hb⟩; refine ⟨_, rfl, ?_⟩; have n0_ := Aside0.mk (Kd.R_below (by (with_reducible repeat (first | apply Kd.R_alloc | apply Kd.R_drewN | apply Kd.R_drew)); exact HO_9.out) hb); have n1_ := Aside0.mk (Kd.R_below (by (with_reducible repeat (first | apply Kd.R_alloc | apply Kd.R_drewN | apply Kd.R_drew)); exact HO_49.out) hb); have n2_ := Aside0.mk (Kd.R_below (by (with_reducible repeat (first | apply Kd.R_alloc | apply Kd.R_drewN | apply Kd.R_drew)); exact HO293.out) hb); have n3_ := Aside0.mk (blk_below (g := gb268) (o := .cells #[.int .i64 a0_0, .int .i64 a0_1, .slice A0_2 l0_2.length c0_2] 42 (0, 0)) (by (with_reducible repeat (first | refine blk_drewN ?_ _ | refine blk_drew ?_ | refine blk_alloc ?_ _)); exact BK268.out) hb); have n4_ := Aside0.mk (below_step (by repeat (first | (with_reducible first | exact HB.out | apply below_alloc | apply pw_below_drewN | apply below_drew1 | refine below_set ?_ GE268.out) | exact HB.out)) hb); clear HO_9; clear HO_49; clear HO293; clear BK268; clear HB; have HO_9 := n0_; have HO_49 := n1_; have HO293 := n2_; have BK268 := n3_; have HB := n4_; clear n0_ n1_ n2_ n3_ n4_; (try clear hb); (try clear hb2); (try clear hk); (try clear hi)) | ((with_reducible refine gate_dst (N := 13) rfl ?_); refine box_event ?hg (N := 13) ?hd (cs := #[.int .u8 0, .int .u8 0, .int .u8 0, .int .u8 0]) (t := 97) ?hr ?_; (case hd => rfl); (case hg => rfl); (case hr => first | (go_simp; done) | (go_simp; rfl)); intro gb298 hg w43 hbox hb; have n0_ := Aside0.mk (Kd.R_below (by (with_reducible repeat (first | apply Kd.R_alloc | apply Kd.R_drewN | apply Kd.R_drew)); exact HO_9.out) hb); have n1_ := Aside0.mk (Kd.R_below (by (with_reducible repeat (first | apply Kd.R_alloc | apply Kd.R_drewN | apply Kd.R_drew)); exact HO_49.out) hb); have n2_ := Aside0.mk (Kd.R_below (by (with_reducible repeat (first | apply Kd.R_alloc | apply Kd.R_drewN | apply Kd.R_drew)); exact HO293.out) hb); have n3_ := Aside0.mk (blk_below (g := gb268) (o := .cells #[.int .i64 a0_0, .int .i64 a0_1, .slice A0_2 l0_2.length c0_2] 42 (0, 0)) (by (with_reducible repeat (first | refine blk_drewN ?_ _ | refine blk_drew ?_ | refine blk_alloc ?_ _)); exact BK268.out) hb); have n4_ := Aside0.mk (below_step (by repeat (first | (with_reducible first | exact HB.out | apply below_alloc | apply pw_below_drewN | apply below_drew1 | refine below_set ?_ GE268.out) | exact HB.out)) hb); have n5_ := Aside0.mk (hbox); have n6_ := Aside0.mk ((by rw [hg]; exact (below_size (by repeat (first | (with_reducible first | exact HB.out | apply below_alloc | apply pw_below_drewN | apply below_drew1 | refine below_set ?_ GE268.out) | exact HB.out))) : w.heap.size ≤ gb298)); have n7_ := Aside0.mk ((by rw [hg]; exact (below_size (by repeat (first | (with_reducible first | exact HB.out | apply below_alloc | apply pw_below_drewN | apply below_drew1 | refine below_set ?_ GE268.out) | exact HB.out))) : w.heap.size ≤ gb298)); have n8_ := Aside0.mk ((by rw [hg]; exact Nat.ne_of_lt (blk_lt (g := gb268) (o := .cells #[.int .i64 a0_0, .int .i64 a0_1, .slice A0_2 l0_2.length c0_2] 42 (0, 0)) (by (with_reducible repeat (first | refine blk_drewN ?_ _ | refine blk_drew ?_ | refine blk_alloc ?_ _)); exact BK268.out)) : gb268 ≠ gb298)); have n9_ := Aside0.mk ((by rw [hg]; exact Nat.ne_of_gt (blk_lt (g := gb268) (o := .cells #[.int .i64 a0_0, .int .i64 a0_1, .slice A0_2 l0_2.length c0_2] 42 (0, 0)) (by (with_reducible repeat (first | refine blk_drewN ?_ _ | refine blk_drew ?_ | refine blk_alloc ?_ _)); exact BK268.out)) : gb298 ≠ gb268)); clear HO_9; clear HO_49; clear HO293; clear BK268; clear HB; have HO_9 := n0_; have HO_49 := n1_; have HO293 := n2_; have BK268 := n3_; have HB := n4_; have BK298 := n5_; have GW298 := n6_; have GE298 := n7_; have NB268_298 := n8_; have NB298_268 := n9_; clear n0_ n1_ n2_ n3_ n4_ n5_ n6_ n7_ n8_ n9_; clear hb hbox hg; have hnb44 := NB298_268.out; have hnc44 := NB268_298.out; have hcz45_0 : w43.cell? ⟨gb298, 0, none⟩ = some (.int .u8 0) := (blk_cell BK298.out 0).trans rfl; have hcz45_1 : w43.cell? ⟨gb298, 1, none⟩ = some (.int .u8 0) := (blk_cell BK298.out 1).trans rfl; have hcz45_2 : w43.cell? ⟨gb298, 2, none⟩ = some (.int .u8 0) := (blk_cell BK298.out 2).trans rfl; have hcz45_3 : w43.cell? ⟨gb298, 3, none⟩ = some (.int .u8 0) := (blk_cell BK298.out 3).trans rfl; have hfz45_0 := blk_frozen BK298.out 0; have hfz45_1 := blk_frozen BK298.out 1; have hfz45_2 := blk_frozen BK298.out 2; have hfz45_3 := blk_frozen BK298.out 3) | ((with_reducible refine gate_builtin (b := .append) (xs := #[.tmp 64, .tmp 65]) rfl ?_); at_builtin; refine Kd.R_append_rows (Kd.int .u8) (w0 := w) w.heap.size rfl (.tmp 64) (.tmp 65) 27 5 (.int .u8 0) 1 rfl Try.underlying27 info5 rfl (by decide) (by omega) (.slice Ao41 y291.length co41) y291 [t294, t295, t296, t297] _ _ _ (fun k_ => some k_ ≠ (.slice Ao27 t278.length co27 : Value).ownBlock) (fun _ => False) rfl rfl ?aO ?aR (fun _ _ h => h) (fun _ h => h.elim) ?aF ?aB ?aS ?aL ?_; (case aR => exact ow_C_box (cs := #[.int .u8 t294, .int .u8 t295, .int .u8 t296, .int .u8 t297]) (t := 97) (fr := (0, 0)) [t294, t295, t296, t297] (by (with_reducible repeat (first | refine blk_drewN ?_ _ | refine blk_drew ?_ | refine blk_alloc ?_ _)); refine blk_put (cs := #[.int .u8 t294, .int .u8 t295, .int .u8 t296, .int .u8 0]) ?_ 3 _ rfl; (with_reducible repeat (first | refine blk_drewN ?_ _ | refine blk_drew ?_ | refine blk_alloc ?_ _)); refine blk_put (cs := #[.int .u8 t294, .int .u8 t295, .int .u8 0, .int .u8 0]) ?_ 2 _ rfl; (with_reducible repeat (first | refine blk_drewN ?_ _ | refine blk_drew ?_ | refine blk_alloc ?_ _)); refine blk_put (cs := #[.int .u8 t294, .int .u8 0, .int .u8 0, .int .u8 0]) ?_ 1 _ rfl; (with_reducible repeat (first | refine blk_drewN ?_ _ | refine blk_drew ?_ | refine blk_alloc ?_ _)); refine blk_put (cs := #[.int .u8 0, .int .u8 0, .int .u8 0, .int .u8 0]) ?_ 0 _ rfl; (with_reducible repeat (first | refine blk_drewN ?_ _ | refine blk_drew ?_ | refine blk_alloc ?_ _)); exact BK298.out) (by first | rfl | simp [nums]) rfl (by simp)); (case aB => exact (by repeat (first | (with_reducible first | exact HB.out | apply below_alloc | apply pw_below_drewN | apply below_drew1 | refine below_set ?_ GE268.out | refine below_set ?_ GE298.out) | exact HB.out))); (case aF => exact (fun k_ hk => Kd.fresh' (Kd.R_lt (by (with_reducible repeat (first | apply Kd.R_alloc | apply Kd.R_drewN | apply Kd.R_drew)); exact (Kd.R_mono (Kd.R_far (p := ⟨gb298, 3, none⟩) (Kd.R_far (p := ⟨gb298, 2, none⟩) (Kd.R_far (p := ⟨gb298, 1, none⟩) (Kd.R_far (p := ⟨gb298, 0, none⟩) (Kd.R_types HO_9.out BK298.out (by decide)) (fun _ hk => hk.2) (.int .u8 t294)) (fun _ hk => hk.2) (.int .u8 t295)) (fun _ hk => hk.2) (.int .u8 t296)) (fun _ hk => hk.2) (.int .u8 t297)) (fun _ h_ => h_.1)))) k_ hk)); (case aO => exact (by (with_reducible repeat (first | apply Kd.R_alloc | apply Kd.R_drewN | apply Kd.R_drew)); exact Kd.R_mono (Kd.R_far (p := ⟨gb298, 3, none⟩) (Kd.R_far (p := ⟨gb298, 2, none⟩) (Kd.R_far (p := ⟨gb298, 1, none⟩) (Kd.R_far (p := ⟨gb298, 0, none⟩) (Kd.R_types HO293.out BK298.out (by decide)) (fun _ hk => hk.2) (.int .u8 t294)) (fun _ hk => hk.2) (.int .u8 t295)) (fun _ hk => hk.2) (.int .u8 t296)) (fun _ hk => hk.2) (.int .u8 t297)) (fun _ hk => hk.1))); (case aS => exact (below_size (by repeat (first | (with_reducible first | exact HB.out | apply below_alloc | apply pw_below_drewN | apply below_drew1 | refine below_set ?_ GE268.out | refine below_set ?_ GE298.out) | exact HB.out)))); (case aL => have := LMc39.out; simp only [List.length_cons, List.length_nil] at this; omega); intro v300 w46 ho hb hg hat; rw [← Ny299.out] at ho; have n0_ := Aside0.mk (Kd.R_after (ok := (fun _ => True)) (by (with_reducible repeat (first | apply Kd.R_alloc | apply Kd.R_drewN | apply Kd.R_drew)); exact Kd.R_mono (Kd.R_far (p := ⟨gb298, 3, none⟩) (Kd.R_far (p := ⟨gb298, 2, none⟩) (Kd.R_far (p := ⟨gb298, 1, none⟩) (Kd.R_far (p := ⟨gb298, 0, none⟩) (Kd.R_types HO_9.out BK298.out (by decide)) (fun _ hk => hk.2) (.int .u8 t294)) (fun _ hk => hk.2) (.int .u8 t295)) (fun _ hk => hk.2) (.int .u8 t296)) (fun _ hk => hk.2) (.int .u8 t297)) (fun _ hk => ⟨trivial, hk.1.2⟩)) hg hat); have n1_ := Aside0.mk (Kd.R_over' (by (with_reducible repeat (first | apply Kd.R_alloc | apply Kd.R_drewN | apply Kd.R_drew)); exact (Kd.R_mono (Kd.R_far (p := ⟨gb298, 3, none⟩) (Kd.R_far (p := ⟨gb298, 2, none⟩) (Kd.R_far (p := ⟨gb298, 1, none⟩) (Kd.R_far (p := ⟨gb298, 0, none⟩) (Kd.R_types HO_49.out BK298.out (by decide)) (fun _ hk => hk.2) (.int .u8 t294)) (fun _ hk => hk.2) (.int .u8 t295)) (fun _ hk => hk.2) (.int .u8 t296)) (fun _ hk => hk.2) (.int .u8 t297)) (fun _ h_ => h_.1))) (Kd.R_typed (by (with_reducible repeat (first | apply Kd.R_alloc | apply Kd.R_drewN | apply Kd.R_drew)); exact (Kd.R_mono (Kd.R_far (p := ⟨gb298, 3, none⟩) (Kd.R_far (p := ⟨gb298, 2, none⟩) (Kd.R_far (p := ⟨gb298, 1, none⟩) (Kd.R_far (p := ⟨gb298, 0, none⟩) (Kd.R_types HO293.out BK298.out (by decide)) (fun _ hk => hk.2) (.int .u8 t294)) (fun _ hk => hk.2) (.int .u8 t295)) (fun _ hk => hk.2) (.int .u8 t296)) (fun _ hk => hk.2) (.int .u8 t297)) (fun _ h_ => h_.1)))) (by decide) hg); have n2_ := Aside0.mk (blk_grown (g := gb268) (o := .cells #[.int .i64 a0_0, .int .i64 a0_1, .slice A0_2 l0_2.length c0_2] 42 (0, 0)) (by (with_reducible repeat (first | refine blk_drewN ?_ _ | refine blk_drew ?_ | refine blk_alloc ?_ _)); refine blk_far ?_ NB268_298.out _; (with_reducible repeat (first | refine blk_drewN ?_ _ | refine blk_drew ?_ | refine blk_alloc ?_ _)); refine blk_far ?_ NB268_298.out _; (with_reducible repeat (first | refine blk_drewN ?_ _ | refine blk_drew ?_ | refine blk_alloc ?_ _)); refine blk_far ?_ NB268_298.out _; (with_reducible repeat (first | refine blk_drewN ?_ _ | refine blk_drew ?_ | refine blk_alloc ?_ _)); refine blk_far ?_ NB268_298.out _; (with_reducible repeat (first | refine blk_drewN ?_ _ | refine blk_drew ?_ | refine blk_alloc ?_ _)); exact BK268.out) hg (Kd.R_ne HO293.out BK268.out (by decide))); have n3_ := Aside0.mk (blk_grown (g := gb298) (o := .cells #[.int .u8 t294, .int .u8 t295, .int .u8 t296, .int .u8 t297] 97 (0, 0)) (by (with_reducible repeat (first | refine blk_drewN ?_ _ | refine blk_drew ?_ | refine blk_alloc ?_ _)); refine blk_put (cs := #[.int .u8 t294, .int .u8 t295, .int .u8 t296, .int .u8 0]) ?_ 3 _ rfl; (with_reducible repeat (first | refine blk_drewN ?_ _ | refine blk_drew ?_ | refine blk_alloc ?_ _)); refine blk_put (cs := #[.int .u8 t294, .int .u8 t295, .int .u8 0, .int .u8 0]) ?_ 2 _ rfl; (with_reducible repeat (first | refine blk_drewN ?_ _ | refine blk_drew ?_ | refine blk_alloc ?_ _)); refine blk_put (cs := #[.int .u8 t294, .int .u8 0, .int .u8 0, .int .u8 0]) ?_ 1 _ rfl; (with_reducible repeat (first | refine blk_drewN ?_ _ | refine blk_drew ?_ | refine blk_alloc ?_ _)); refine blk_put (cs := #[.int .u8 0, .int .u8 0, .int .u8 0, .int .u8 0]) ?_ 0 _ rfl; (with_reducible repeat (first | refine blk_drewN ?_ _ | refine blk_drew ?_ | refine blk_alloc ?_ _)); exact BK298.out) hg (Kd.R_ne HO293.out BK298.out (by decide))); have n4_ := Aside0.mk (hb); have n5_ := Aside0.mk (ho); clear HO_9; clear HO_49; clear BK268; clear BK298; clear HB; clear HO293; have HO_9 := n0_; have HO_49 := n1_; have BK268 := n2_; have BK298 := n3_; have HB := n4_; have HO301 := n5_; clear n0_ n1_ n2_ n3_ n4_ n5_; clear ho hb hg hat))
                    go_ret2
                    exact ⟨_, by first | rfl | (simp [errW_none, errW_some] <;> rfl) | (simp [*, errW_none, errW_some] <;> rfl), by (with_reducible repeat (first | apply Kd.R_alloc | apply Kd.R_drewN | apply Kd.R_drew)); exact Kd.R_mono HO301.out (fun _ hk => trivial), by repeat (first | (with_reducible first | exact HB.out | apply below_alloc | apply pw_below_drewN | apply below_drew1 | refine below_set ?_ GE268.out | refine below_set ?_ GE298.out) | exact HB.out)⟩
                  · rw [if_neg c39] at H
                    exact absurd H (by simp)
                · rw [if_neg c37] at H
                  exact absurd H (by simp)
  · rw [if_neg c3] at H
    have c3b0 : (t269 == 0) = false := beq_eq_false_iff_ne.mpr c3
    have c3b1 : (t269 != 0) = true := bne_iff_ne.mpr c3
    simp only [Option.some.injEq, Prod.mk.injEq] at H
    obtain ⟨rfl, rfl⟩ := H
    go_enter Try.func21, Try.ntmps21
    go_wp2_with (first | ((with_reducible refine gate_dst (N := 1) rfl ?_); refine box_event ?hg (N := 1) ?hd (cs := #[.int .i64 a0_0, .int .i64 a0_1, .slice A0_2 l0_2.length c0_2]) (t := 42) ?hr ?_; (case hd => rfl); (case hg => rfl); (case hr => first | (go_simp; done) | (go_simp; rfl)); intro gb268 hg w47 hbox hb; have n0_ := Aside0.mk (below_step (by repeat (first | (with_reducible first | exact HB.out | apply below_alloc | apply pw_below_drewN | apply below_drew1) | exact HB.out)) hb); have n1_ := Aside0.mk (hbox); have n2_ := Aside0.mk ((by rw [hg]; exact (below_size (by repeat (first | (with_reducible first | exact HB.out | apply below_alloc | apply pw_below_drewN | apply below_drew1) | exact HB.out))) : w.heap.size ≤ gb268)); have n3_ := Aside0.mk ((by rw [hg]; exact (below_size (by repeat (first | (with_reducible first | exact HB.out | apply below_alloc | apply pw_below_drewN | apply below_drew1) | exact HB.out))) : w.heap.size ≤ gb268)); clear HB; have HB := n0_; have BK268 := n1_; have GW268 := n2_; have GE268 := n3_; clear n0_ n1_ n2_ n3_; clear hb hbox hg; have hcz48_0 : w47.cell? ⟨gb268, 0, none⟩ = some (.int .i64 a0_0) := (blk_cell BK268.out 0).trans rfl; have hcz48_1 : w47.cell? ⟨gb268, 1, none⟩ = some (.int .i64 a0_1) := (blk_cell BK268.out 1).trans rfl; have hcz48_2 : w47.cell? ⟨gb268, 2, none⟩ = some (.slice A0_2 l0_2.length c0_2) := (blk_cell BK268.out 2).trans rfl; have hfz48_0 := blk_frozen BK268.out 0; have hfz48_1 := blk_frozen BK268.out 1; have hfz48_2 := blk_frozen BK268.out 2) | ((with_reducible refine gate_callee (f := 50) rfl ?_); refine goesL_ (some 15) rfl rfl Try.func50 (by kernel_rfl) rfl #[.agg #[.int .i64 a0_0, .int .i64 a0_1, .slice A0_2 l0_2.length c0_2]] rfl (by (try simp only [List.map_toArray, List.map_cons, List.map_nil]); first | done | rfl | (simp only [List.length_drop, List.length_take]; rfl)) ?_; (with_reducible refine (block_check.calls k a0_0 a0_1 _ _ l0_2 t269 _ ?side1 ?side2 A2.out).mono ?_); (case side1 => repeat (first | exact (Kd.C_below HR0_2.out HB.out) | (with_reducible refine Kd.C_alloc ?_ _) | (with_reducible refine Kd.C_drewN ?_ _) | (with_reducible refine Kd.C_drew ?_))); (case side2 => exact HC0_2.out); rintro e w49 ⟨rfl, hb⟩; refine ⟨_, rfl, ?_⟩; have n0_ := Aside0.mk (blk_below (g := gb268) (o := .cells #[.int .i64 a0_0, .int .i64 a0_1, .slice A0_2 l0_2.length c0_2] 42 (0, 0)) (by (with_reducible repeat (first | refine blk_drewN ?_ _ | refine blk_drew ?_ | refine blk_alloc ?_ _)); exact BK268.out) hb); have n1_ := Aside0.mk (below_step (by repeat (first | (with_reducible first | exact HB.out | apply below_alloc | apply pw_below_drewN | apply below_drew1 | refine below_set ?_ GE268.out) | exact HB.out)) hb); clear BK268; clear HB; have BK268 := n0_; have HB := n1_; clear n0_ n1_; (try clear hb); (try clear hb2); (try clear hk); (try clear hi)))
    go_ret2
    exact ⟨_, by first | rfl | (simp [errW_none, errW_some] <;> rfl) | (simp [*, errW_none, errW_some] <;> rfl), by first | exact Kd.R_nil _ _ _ _ _ | exact Kd.N_nil _ _ _ _ _ | exact Kd.V_nil _ _ _ _ _ | exact Kd.Q_nil _ _ _ _ _ | exact Kd.S_nil _ _ _ _ _, by repeat (first | (with_reducible first | exact HB.out | apply below_alloc | apply pw_below_drewN | apply below_drew1 | refine below_set ?_ GE268.out) | exact HB.out)⟩

end Go.Proofs.Ytnmmkgagbfniiaa.A
