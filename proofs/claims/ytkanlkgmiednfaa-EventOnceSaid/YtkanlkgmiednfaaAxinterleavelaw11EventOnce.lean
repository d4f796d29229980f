/- Made by a program of this session (drv.py) over the kit's printer: plain functions, and the proofs that the program's functions come to their answers. No condition. -/
import Derived.Test.YtkanlkgmiednfaaAx0
import Derived.Test.YtkanlkgmiednfaaAxinterleaveref11SameBytes
import Derived.Test.YtkanlkgmiednfaaAxeventAppend
import Derived.Test.YtkanlkgmiednfaaAxinterleavelaw11awake
import Derived.Test.YtkanlkgmiednfaaAxeventRead
namespace Go.Proofs.Ytkanlkgmiednfaa.A
open Go.RowKit Go.Proofs.YtkanlkgmiednfaaW.PrintWords Go.Proofs.YtkanlkgmiednfaaW.PrintLast Go.Proofs.YtkanlkgmiednfaaW.PrintMore
attribute [local go_sem] max2_int min2_int max_two min_two max_three min_three max_four min_four   -- for this text's walks alone
set_option linter.unusedVariables false
set_option linter.unusedSimpArgs false

/-! ### interleavelaw11_EventOnce: function 20 -/
def interleavelaw11_EventOnce.f (k : Nat) (l0 : List Int) (a1 : Int) (a2 : Int) : Option (Bool) := if (l0.length : Int) > 2000 then (some true) else ((event_Read.f k l0 a1 a2).bind fun bt535 => (if bt535.2.2.2.2.2.2.2.2.2 = 0 then (if bt535.2.2.2.2.2.2.2.2.1 ≥ 1 then (if bt535.2.2.2.2.2.2.2.2.1 ≤ (l0.length : Int) then ((event_Append.f k ([] : List Int) bt535.1 bt535.2.1 bt535.2.2.1 bt535.2.2.2.1 bt535.2.2.2.2.1 bt535.2.2.2.2.2.1 bt535.2.2.2.2.2.2.1 bt535.2.2.2.2.2.2.2.1 a2).bind fun t550 => (if 0 ≤ bt535.2.2.2.2.2.2.2.2.1 then ((interleaveref11_SameBytes.f k t550 (l0.take (bt535.2.2.2.2.2.2.2.2.1 : Int).toNat)).bind fun t554 => (some t554)) else (none))) else (some false)) else (some false)) else (if bt535.2.2.2.2.2.2.2.2.1 = 0 then ((interleavelaw11_awake.f k).bind fun t555 => (some t555)) else (some false))))
theorem interleavelaw11_EventOnce.mono : ∀ a0 a1 a2 k, LeO (interleavelaw11_EventOnce.f k a0 a1 a2) (interleavelaw11_EventOnce.f (k + 1) a0 a1 a2) := by
  intro a0 a1 a2 k
  unfold interleavelaw11_EventOnce.f
  repeat' first
      | (with_reducible exact event_Append.mono _ _ _ _ _ _ _ _ _ _ _)
      | (with_reducible exact event_Read.mono _ _ _ _)
      | (with_reducible exact interleavelaw11_awake.mono _)
      | (with_reducible exact interleaveref11_SameBytes.mono _ _ _)
      | (with_reducible exact LeO.refl _)
      | (with_reducible exact LeO.none _)
      | (with_reducible refine LeO.ite ?_ ?_)
      | (with_reducible refine LeO.bind ?_ (fun _ => ?_))
      | exact event_Append.mono _ _ _ _ _ _ _ _ _ _ _
      | exact event_Read.mono _ _ _ _
      | exact interleavelaw11_awake.mono _
      | exact interleaveref11_SameBytes.mono _ _ _
      | exact LeO.none _
      | refine LeO.ite ?_ ?_
      | refine LeO.bind ?_ (fun _ => ?_)
def interleavelaw11_EventOnce.T6 : Bool × List (List Nat × List Nat) := (true, [([], []), ([0], [0]), ([1], [1]), ([2], [2]), ([2], [2]), ([4, 2], [2, 4]), ([3, 5, 2], [2, 3, 5]), ([2, 6], [2, 6]), ([7, 2], [7]), ([8], [8]), ([8], [8]), ([9, 10, 8, 8], [8, 9, 10]), ([8], [8]), ([8], [8]), ([12, 13, 8], [8, 12, 13]), ([11, 14, 11, 8], [8, 11, 14]), ([8, 15], [8, 15]), ([16, 15, 0, 1, 2, 3, 4, 5, 6, 7, 8, 9, 10, 11, 12, 13, 14, 15, 16], [16])])
def interleavelaw11_EventOnce.B6 : List Nat := [0, 1, 3, 7, 7, 23, 63, 127, 255, 511, 511, 2047, 511, 511, 12799, 32767, 65535, 131071]
theorem interleavelaw11_EventOnce.tab6 : rtab .any (opsOf Try.f20 6) = interleavelaw11_EventOnce.T6 := by kernel_rfl
theorem interleavelaw11_EventOnce.bits6 : waitsOk interleavelaw11_EventOnce.T6.2 interleavelaw11_EventOnce.B6 = true := by kernel_rfl
set_option maxHeartbeats 8000000 in
set_option maxRecDepth 100000 in
theorem interleavelaw11_EventOnce.calls (k : Nat) (A0 : Option Addr) (c0 : Nat) (l0 : List Int) (a1 : Int) (a2 : Int) (r : Bool) (w : World) (hr0 : Kd.C (Kd.int .u8) w A0 l0.length l0) (hc0 : l0.length ≤ c0) (h : interleavelaw11_EventOnce.f k l0 a1 a2 = some r) :
    Calls Try.prog 20 #[.slice A0 l0.length c0, .int .i64 a1, .int .i64 a2] w fun e w' => e = .returned (.bool r) ∧ Below w.heap.size w w' := by
  have hu35 := Try.underlying35
  have HR0 := Aside0.mk hr0
  have HC0 := Aside0.mk hc0
  clear hr0 hc0
  have HB := Aside0.mk (Below.refl w.heap.size w)
  have H : (if (l0.length : Int) > 2000 then (some true) else ((event_Read.f k l0 a1 a2).bind fun bt535 => (if bt535.2.2.2.2.2.2.2.2.2 = 0 then (if bt535.2.2.2.2.2.2.2.2.1 ≥ 1 then (if bt535.2.2.2.2.2.2.2.2.1 ≤ (l0.length : Int) then ((event_Append.f k ([] : List Int) bt535.1 bt535.2.1 bt535.2.2.1 bt535.2.2.2.1 bt535.2.2.2.2.1 bt535.2.2.2.2.2.1 bt535.2.2.2.2.2.2.1 bt535.2.2.2.2.2.2.2.1 a2).bind fun t550 => (if 0 ≤ bt535.2.2.2.2.2.2.2.2.1 then ((interleaveref11_SameBytes.f k t550 (l0.take (bt535.2.2.2.2.2.2.2.2.1 : Int).toNat)).bind fun t554 => (some t554)) else (none))) else (some false)) else (some false)) else (if bt535.2.2.2.2.2.2.2.2.1 = 0 then ((interleavelaw11_awake.f k).bind fun t555 => (some t555)) else (some false))))) = some r := h
  clear h
  by_cases c4 : (l0.length : Int) > 2000
  · rw [if_pos c4] at H
    have c4b0 : decide (2000 < (l0.length : Int)) = true := decide_eq_true c4
    have c4b1 : decide (2000 < l0.length) = true := decide_eq_true (by omega)
    clear c4
    obtain rfl := Option.some.inj H
    go_enter Try.func20, Try.ntmps20
    go_wp2
    go_ret
    exact ⟨by first | rfl | (simp [errW_none, errW_some] <;> rfl) | (simp [*, errW_none, errW_some] <;> rfl), by repeat (first | (with_reducible first | exact HB.out | apply below_alloc | apply pw_below_drewN | apply below_drew1) | exact HB.out)⟩
  · rw [if_neg c4] at H
    have c4b0 : decide (2000 < (l0.length : Int)) = false := decide_eq_false c4
    have c4b1 : decide (2000 < l0.length) = false := decide_eq_false (by omega)
    clear c4
    replace H := Option.bind_eq_some_iff.mp H
    obtain ⟨⟨t535, t536, t537, t538, t539, t540, t541, t544, t547, t548⟩, A50, H⟩ := H
    replace H : (if t548 = 0 then (if t547 ≥ 1 then (if t547 ≤ (l0.length : Int) then ((event_Append.f k ([] : List Int) t535 t536 t537 t538 t539 t540 t541 t544 a2).bind fun t550 => (if 0 ≤ t547 then ((interleaveref11_SameBytes.f k t550 (l0.take (t547 : Int).toNat)).bind fun t554 => (some t554)) else (none))) else (some false)) else (some false)) else (if t547 = 0 then ((interleavelaw11_awake.f k).bind fun t555 => (some t555)) else (some false))) = some r := H
    have A5 := Aside0.mk A50
    clear A50
    by_cases c6 : t548 = 0
    · rw [if_pos c6] at H
      have c6b0 : (t548 == 0) = true := beq_iff_eq.mpr c6
      have c6b1 : (t548 != 0) = false := bne_eq_false_iff_eq.mpr c6
      clear c6
      by_cases c7 : t547 ≥ 1
      · rw [if_pos c7] at H
        have c7b0 : decide (1 ≤ t547) = true := decide_eq_true c7
        clear c7
        by_cases c8 : t547 ≤ (l0.length : Int)
        · rw [if_pos c8] at H
          have c8b0 : decide (t547 ≤ (l0.length : Int)) = true := decide_eq_true c8
          clear c8
          replace H := Option.bind_eq_some_iff.mp H
          obtain ⟨t550, A90, H⟩ := H
          replace H : (if 0 ≤ t547 then ((interleaveref11_SameBytes.f k t550 (l0.take (t547 : Int).toNat)).bind fun t554 => (some t554)) else (none)) = some r := H
          have A9 := Aside0.mk A90
          clear A90
          by_cases c10 : 0 ≤ t547
          · rw [if_pos c10] at H
            have c10b0 := eq_true c10
            have c10b1 : decide (0 ≤ t547) = true := decide_eq_true c10
            clear c10
            have c11b0 := eq_true (of_decide_eq_true (by first | (with_reducible assumption) | assumption) : t547 ≤ (l0.length : Int))
            replace H := Option.bind_eq_some_iff.mp H
            obtain ⟨t554, A120, H⟩ := H
            replace H : (some t554) = some r := H
            have A12 := Aside0.mk A120
            clear A120
            obtain rfl := Option.some.inj H
            go_enter Try.func20, Try.ntmps20
            try go_wp2_with (first | ((with_reducible refine gate_callee (f := 42) rfl ?_); refine goesL_ (some 17) rfl rfl Try.func42 (by kernel_rfl) rfl #[.slice A0 l0.length c0, .int .i64 a1, .int .i64 a2] rfl (by (try simp only [List.map_toArray, List.map_cons, List.map_nil]); first | done | rfl | (simp only [List.length_drop, List.length_take]; rfl)) ?_; (with_reducible refine (event_Read.calls k _ _ l0 a1 a2 t535 t536 t537 t538 t539 t540 t541 t544 t547 t548 _ ?side1 ?side2 A5.out).mono ?_); (case side1 => repeat (first | exact HR0.out | (with_reducible refine Kd.C_alloc ?_ _) | (with_reducible refine Kd.C_drewN ?_ _) | (with_reducible refine Kd.C_drew ?_))); (case side2 => exact HC0.out); rintro e w13 ⟨v542, v545, rfl, ho0, ho1, hb⟩; refine ⟨_, rfl, ?_⟩; have n0_ := Aside0.mk (Kd.R_lower ho0 (below_size (by repeat (first | (with_reducible first | exact HB.out | apply below_alloc | apply pw_below_drewN | apply below_drew1) | exact HB.out)))); have n1_ := Aside0.mk (Kd.R_lower ho1 (below_size (by repeat (first | (with_reducible first | exact HB.out | apply below_alloc | apply pw_below_drewN | apply below_drew1) | exact HB.out)))); have n2_ := Aside0.mk (below_step (by repeat (first | (with_reducible first | exact HB.out | apply below_alloc | apply pw_below_drewN | apply below_drew1) | exact HB.out)) hb); clear HB; have HO543 := n0_; have HO546 := n1_; have HB := n2_; clear n0_ n1_ n2_; (try clear hb); (try clear hb2); (try clear hk); (try clear hi); (try clear ho0); (try clear ho1)) | ((with_reducible refine gate_dst (N := 7) rfl ?_); (try (refine gate_guard (by rfl) ?_; dsimp only)); refine box_event ?hg (N := 7) ?hd (cs := #[.int .i64 0, .int .i64 0, .int .i64 0, .int .i64 0, .int .i64 0, .int .i64 0, .slice none 0 0, .slice none 0 0]) (t := 35) ?hr ?_; (case hd => rfl); (case hg => rfl); (case hr => first | (go_simp; done) | (go_simp; rfl)); intro gb549 hg w14 hbox hb; have n0_ := Aside0.mk (Kd.R_below (by (with_reducible repeat (first | apply Kd.R_alloc | apply Kd.R_drewN | apply Kd.R_drew)); exact HO543.out) hb); have n1_ := Aside0.mk (Kd.R_below (by (with_reducible repeat (first | apply Kd.R_alloc | apply Kd.R_drewN | apply Kd.R_drew)); exact HO546.out) hb); have n2_ := Aside0.mk (below_step (by repeat (first | (with_reducible first | exact HB.out | apply below_alloc | apply pw_below_drewN | apply below_drew1) | exact HB.out)) hb); have n3_ := Aside0.mk (hbox); have n4_ := Aside0.mk ((by rw [hg]; exact (below_size (by repeat (first | (with_reducible first | exact HB.out | apply below_alloc | apply pw_below_drewN | apply below_drew1) | exact HB.out))) : w.heap.size ≤ gb549)); have n5_ := Aside0.mk ((by rw [hg]; exact (below_size (by repeat (first | (with_reducible first | exact HB.out | apply below_alloc | apply pw_below_drewN | apply below_drew1) | exact HB.out))) : w.heap.size ≤ gb549)); clear HO543; clear HO546; clear HB; have HO543 := n0_; have HO546 := n1_; have HB := n2_; have BK549 := n3_; have GW549 := n4_; have GE549 := n5_; clear n0_ n1_ n2_ n3_ n4_ n5_; clear hb hbox hg; have hcz15_0 : w14.cell? ⟨gb549, 0, none⟩ = some (.int .i64 0) := (blk_cell BK549.out 0).trans rfl; have hcz15_1 : w14.cell? ⟨gb549, 1, none⟩ = some (.int .i64 0) := (blk_cell BK549.out 1).trans rfl; have hcz15_2 : w14.cell? ⟨gb549, 2, none⟩ = some (.int .i64 0) := (blk_cell BK549.out 2).trans rfl; have hcz15_3 : w14.cell? ⟨gb549, 3, none⟩ = some (.int .i64 0) := (blk_cell BK549.out 3).trans rfl; have hcz15_4 : w14.cell? ⟨gb549, 4, none⟩ = some (.int .i64 0) := (blk_cell BK549.out 4).trans rfl; have hcz15_5 : w14.cell? ⟨gb549, 5, none⟩ = some (.int .i64 0) := (blk_cell BK549.out 5).trans rfl; have hcz15_6 : w14.cell? ⟨gb549, 6, none⟩ = some (.slice none 0 0) := (blk_cell BK549.out 6).trans rfl; have hcz15_7 : w14.cell? ⟨gb549, 7, none⟩ = some (.slice none 0 0) := (blk_cell BK549.out 7).trans rfl; have hfz15_0 := blk_frozen BK549.out 0; have hfz15_1 := blk_frozen BK549.out 1; have hfz15_2 := blk_frozen BK549.out 2; have hfz15_3 := blk_frozen BK549.out 3; have hfz15_4 := blk_frozen BK549.out 4; have hfz15_5 := blk_frozen BK549.out 5; have hfz15_6 := blk_frozen BK549.out 6; have hfz15_7 := blk_frozen BK549.out 7; obtain ⟨Ao16, co16, eo16⟩ := Kd.R_slice HO543.out; subst eo16; obtain ⟨Ao17, co17, eo17⟩ := Kd.R_slice HO546.out; subst eo17))
            have n0_ : Aside0 (Kd.R (Kd.int .i64) 3 ((((((((w14.setCell ⟨gb549, 0, none⟩ (.int .i64 t535)).setCell ⟨gb549, 1, none⟩ (.int .i64 t536)).setCell ⟨gb549, 2, none⟩ (.int .i64 t537)).setCell ⟨gb549, 3, none⟩ (.int .i64 t538)).setCell ⟨gb549, 4, none⟩ (.int .i64 t539)).setCell ⟨gb549, 5, none⟩ (.int .i64 t540)).setCell ⟨gb549, 6, none⟩ (.slice Ao16 t541.length co16)).setCell ⟨gb549, 7, none⟩ (.slice Ao17 t544.length co17)) w.heap.size (fun k_ => some k_ ≠ (.slice Ao17 t544.length co17 : Value).ownBlock) (.slice Ao16 t541.length co16) t541) := ⟨by (with_reducible repeat (first | apply Kd.R_alloc | apply Kd.R_drewN | apply Kd.R_drew)); exact Kd.R_mono (Kd.R_far (p := ⟨gb549, 7, none⟩) (Kd.R_far (p := ⟨gb549, 6, none⟩) (Kd.R_far (p := ⟨gb549, 5, none⟩) (Kd.R_far (p := ⟨gb549, 4, none⟩) (Kd.R_far (p := ⟨gb549, 3, none⟩) (Kd.R_far (p := ⟨gb549, 2, none⟩) (Kd.R_far (p := ⟨gb549, 1, none⟩) (Kd.R_far (p := ⟨gb549, 0, none⟩) (Kd.R_types HO543.out BK549.out (by decide)) (fun _ hk => hk.2) (.int .i64 t535)) (fun _ hk => hk.2) (.int .i64 t536)) (fun _ hk => hk.2) (.int .i64 t537)) (fun _ hk => hk.2) (.int .i64 t538)) (fun _ hk => hk.2) (.int .i64 t539)) (fun _ hk => hk.2) (.int .i64 t540)) (fun _ hk => hk.2) (.slice Ao16 t541.length co16)) (fun _ hk => hk.2) (.slice Ao17 t544.length co17)) (fun _ hk => hk.1)⟩
            have n1_ : Aside0 (Kd.R (Kd.int .i64) 3 ((((((((w14.setCell ⟨gb549, 0, none⟩ (.int .i64 t535)).setCell ⟨gb549, 1, none⟩ (.int .i64 t536)).setCell ⟨gb549, 2, none⟩ (.int .i64 t537)).setCell ⟨gb549, 3, none⟩ (.int .i64 t538)).setCell ⟨gb549, 4, none⟩ (.int .i64 t539)).setCell ⟨gb549, 5, none⟩ (.int .i64 t540)).setCell ⟨gb549, 6, none⟩ (.slice Ao16 t541.length co16)).setCell ⟨gb549, 7, none⟩ (.slice Ao17 t544.length co17)) w.heap.size (fun k_ => some k_ ≠ (.slice Ao16 t541.length co16 : Value).ownBlock) (.slice Ao17 t544.length co17) t544) := ⟨by (with_reducible repeat (first | apply Kd.R_alloc | apply Kd.R_drewN | apply Kd.R_drew)); exact Kd.R_mono (Kd.R_far (p := ⟨gb549, 7, none⟩) (Kd.R_far (p := ⟨gb549, 6, none⟩) (Kd.R_far (p := ⟨gb549, 5, none⟩) (Kd.R_far (p := ⟨gb549, 4, none⟩) (Kd.R_far (p := ⟨gb549, 3, none⟩) (Kd.R_far (p := ⟨gb549, 2, none⟩) (Kd.R_far (p := ⟨gb549, 1, none⟩) (Kd.R_far (p := ⟨gb549, 0, none⟩) (Kd.R_types HO546.out BK549.out (by decide)) (fun _ hk => hk.2) (.int .i64 t535)) (fun _ hk => hk.2) (.int .i64 t536)) (fun _ hk => hk.2) (.int .i64 t537)) (fun _ hk => hk.2) (.int .i64 t538)) (fun _ hk => hk.2) (.int .i64 t539)) (fun _ hk => hk.2) (.int .i64 t540)) (fun _ hk => hk.2) (.slice Ao16 t541.length co16)) (fun _ hk => hk.2) (.slice Ao17 t544.length co17)) (fun _ hk => hk.1)⟩
            have n2_ : Aside0 (((((((((w14.setCell ⟨gb549, 0, none⟩ (.int .i64 t535)).setCell ⟨gb549, 1, none⟩ (.int .i64 t536)).setCell ⟨gb549, 2, none⟩ (.int .i64 t537)).setCell ⟨gb549, 3, none⟩ (.int .i64 t538)).setCell ⟨gb549, 4, none⟩ (.int .i64 t539)).setCell ⟨gb549, 5, none⟩ (.int .i64 t540)).setCell ⟨gb549, 6, none⟩ (.slice Ao16 t541.length co16)).setCell ⟨gb549, 7, none⟩ (.slice Ao17 t544.length co17)).heap[gb549]? = some (.cells #[.int .i64 t535, .int .i64 t536, .int .i64 t537, .int .i64 t538, .int .i64 t539, .int .i64 t540, .slice Ao16 t541.length co16, .slice Ao17 t544.length co17] 35 (0, 0))) := ⟨by (with_reducible repeat (first | refine blk_drewN ?_ _ | refine blk_drew ?_ | refine blk_alloc ?_ _)); refine blk_put (cs := #[.int .i64 t535, .int .i64 t536, .int .i64 t537, .int .i64 t538, .int .i64 t539, .int .i64 t540, .slice Ao16 t541.length co16, .slice none 0 0]) ?_ 7 _ rfl; (with_reducible repeat (first | refine blk_drewN ?_ _ | refine blk_drew ?_ | refine blk_alloc ?_ _)); refine blk_put (cs := #[.int .i64 t535, .int .i64 t536, .int .i64 t537, .int .i64 t538, .int .i64 t539, .int .i64 t540, .slice none 0 0, .slice none 0 0]) ?_ 6 _ rfl; (with_reducible repeat (first | refine blk_drewN ?_ _ | refine blk_drew ?_ | refine blk_alloc ?_ _)); refine blk_put (cs := #[.int .i64 t535, .int .i64 t536, .int .i64 t537, .int .i64 t538, .int .i64 t539, .int .i64 0, .slice none 0 0, .slice none 0 0]) ?_ 5 _ rfl; (with_reducible repeat (first | refine blk_drewN ?_ _ | refine blk_drew ?_ | refine blk_alloc ?_ _)); refine blk_put (cs := #[.int .i64 t535, .int .i64 t536, .int .i64 t537, .int .i64 t538, .int .i64 0, .int .i64 0, .slice none 0 0, .slice none 0 0]) ?_ 4 _ rfl; (with_reducible repeat (first | refine blk_drewN ?_ _ | refine blk_drew ?_ | refine blk_alloc ?_ _)); refine blk_put (cs := #[.int .i64 t535, .int .i64 t536, .int .i64 t537, .int .i64 0, .int .i64 0, .int .i64 0, .slice none 0 0, .slice none 0 0]) ?_ 3 _ rfl; (with_reducible repeat (first | refine blk_drewN ?_ _ | refine blk_drew ?_ | refine blk_alloc ?_ _)); refine blk_put (cs := #[.int .i64 t535, .int .i64 t536, .int .i64 0, .int .i64 0, .int .i64 0, .int .i64 0, .slice none 0 0, .slice none 0 0]) ?_ 2 _ rfl; (with_reducible repeat (first | refine blk_drewN ?_ _ | refine blk_drew ?_ | refine blk_alloc ?_ _)); refine blk_put (cs := #[.int .i64 t535, .int .i64 0, .int .i64 0, .int .i64 0, .int .i64 0, .int .i64 0, .slice none 0 0, .slice none 0 0]) ?_ 1 _ rfl; (with_reducible repeat (first | refine blk_drewN ?_ _ | refine blk_drew ?_ | refine blk_alloc ?_ _)); refine blk_put (cs := #[.int .i64 0, .int .i64 0, .int .i64 0, .int .i64 0, .int .i64 0, .int .i64 0, .slice none 0 0, .slice none 0 0]) ?_ 0 _ rfl; (with_reducible repeat (first | refine blk_drewN ?_ _ | refine blk_drew ?_ | refine blk_alloc ?_ _)); exact BK549.out⟩
            have n3_ : Aside0 (Below w.heap.size w ((((((((w14.setCell ⟨gb549, 0, none⟩ (.int .i64 t535)).setCell ⟨gb549, 1, none⟩ (.int .i64 t536)).setCell ⟨gb549, 2, none⟩ (.int .i64 t537)).setCell ⟨gb549, 3, none⟩ (.int .i64 t538)).setCell ⟨gb549, 4, none⟩ (.int .i64 t539)).setCell ⟨gb549, 5, none⟩ (.int .i64 t540)).setCell ⟨gb549, 6, none⟩ (.slice Ao16 t541.length co16)).setCell ⟨gb549, 7, none⟩ (.slice Ao17 t544.length co17))) := ⟨by repeat (first | (with_reducible first | exact HB.out | apply below_alloc | apply pw_below_drewN | apply below_drew1 | refine below_set ?_ GE549.out) | exact HB.out)⟩
            (try clear HO543)
            (try clear HO546)
            (try clear BK549)
            (try clear HB)
            generalize ((((((((w14.setCell ⟨gb549, 0, none⟩ (.int .i64 t535)).setCell ⟨gb549, 1, none⟩ (.int .i64 t536)).setCell ⟨gb549, 2, none⟩ (.int .i64 t537)).setCell ⟨gb549, 3, none⟩ (.int .i64 t538)).setCell ⟨gb549, 4, none⟩ (.int .i64 t539)).setCell ⟨gb549, 5, none⟩ (.int .i64 t540)).setCell ⟨gb549, 6, none⟩ (.slice Ao16 t541.length co16)).setCell ⟨gb549, 7, none⟩ (.slice Ao17 t544.length co17)) = w18 at n0_ n1_ n2_ n3_ ⊢
            have HO543 := n0_
            have HO546 := n1_
            have BK549 := n2_
            have HB := n3_
            clear n0_ n1_ n2_ n3_
            have n0_ := Aside0.mk (Kd.R_drew HO543.out)
            have n1_ := Aside0.mk (Kd.R_drew HO546.out)
            have n2_ := Aside0.mk (blk_drew BK549.out)
            have n3_ := Aside0.mk (below_drew1 HB.out)
            clear HO543
            clear HO546
            clear BK549
            clear HB
            have HO543 := n0_
            have HO546 := n1_
            have BK549 := n2_
            have HB := n3_
            clear n0_ n1_ n2_ n3_
            obtain ⟨i020, hi020, _, hsz20, _⟩ := info_parts info5
            obtain ⟨hcut20, hA20, hC20⟩ := print_take_of (P := Try.prog) (Value.int .u8) 0 22 5 .i64 Try.underlying22 hi020 hsz20 A0 c0 l0 t547 (of_decide_eq_true (by first | (with_reducible assumption) | assumption)) (of_decide_eq_true (by first | (with_reducible assumption) | assumption)) HC0.out
            have HR553 := Aside0.mk (Kd.C_of_reads (h1 := fun _ => rfl) (hA20 _ (Kd.reads_of_C HR0.out)))
            have HC553 := Aside0.mk hC20
            clear hA20 hC20 hi020 hsz20
            refine start_ (n := 18) (S := fun w' => w'.cell? ⟨gb549, 0, none⟩ = some (.int .i64 t535) ∧ w'.cell? ⟨gb549, 1, none⟩ = some (.int .i64 t536) ∧ w'.cell? ⟨gb549, 2, none⟩ = some (.int .i64 t537) ∧ w'.cell? ⟨gb549, 3, none⟩ = some (.int .i64 t538) ∧ w'.cell? ⟨gb549, 4, none⟩ = some (.int .i64 t539) ∧ w'.cell? ⟨gb549, 5, none⟩ = some (.int .i64 t540) ∧ w'.cell? ⟨gb549, 6, none⟩ = some (.slice Ao16 t541.length co16) ∧ w'.cell? ⟨gb549, 7, none⟩ = some (.slice Ao17 t544.length co17)) (ds := []) #[false, false, false, false, false, false, false, false, false, false, false, false, false, false, false, false, false, false] (by kernel_rfl) rfl rfl ⟨(blk_cell BK549.out 0).trans rfl, (blk_cell BK549.out 1).trans rfl, (blk_cell BK549.out 2).trans rfl, (blk_cell BK549.out 3).trans rfl, (blk_cell BK549.out 4).trans rfl, (blk_cell BK549.out 5).trans rfl, (blk_cell BK549.out 6).trans rfl, (blk_cell BK549.out 7).trans rfl⟩ (fun hHeld => ?_); refine with_tabW interleavelaw11_EventOnce.tab6 interleavelaw11_EventOnce.bits6 (fun HT_ HW_ => ?_)
            generalize w18.drew = w19 at HO543 HO546 BK549 HB HR553 hHeld ⊢
            refine pure_ (i := 0) (N := some 28) (v := ?_) (a' := ?_) #[true, false, false, false, false, false, false, false, false, false, false, false, false, false, false, false, false, false] rfl rfl (any_of HT_.out (by kernel_rfl)) (fun _ _ _ h => h) (Or.inl ⟨by rfl, ?_⟩) ?_ ?_
            rotate_left
            · intro w'
              go_simp
              with_reducible rfl
            rotate_left
            · simp only [Act.put, List.setIfInBounds_toArray, List.set_cons_zero, List.set_cons_succ, i64_w, i32_w]
              rfl
            refine pure_ (i := 1) (N := some 29) (v := ?_) (a' := ?_) #[true, true, false, false, false, false, false, false, false, false, false, false, false, false, false, false, false, false] rfl rfl (any_of HT_.out (by kernel_rfl)) (fun _ _ _ h => h) (Or.inl ⟨by rfl, ?_⟩) ?_ ?_
            rotate_left
            · intro w'
              go_simp
              with_reducible rfl
            rotate_left
            · simp only [Act.put, List.setIfInBounds_toArray, List.set_cons_zero, List.set_cons_succ, i64_w, i32_w]
              rfl
            refine pure_ (i := 2) (N := some 30) (v := ?_) (a' := ?_) #[true, true, true, false, false, false, false, false, false, false, false, false, false, false, false, false, false, false] rfl rfl (any_of HT_.out (by kernel_rfl)) (fun _ _ _ h => h) (Or.inl ⟨by rfl, ?_⟩) ?_ ?_
            rotate_left
            · intro w'
              go_simp
              with_reducible rfl
            rotate_left
            · simp only [Act.put, List.setIfInBounds_toArray, List.set_cons_zero, List.set_cons_succ, i64_w, i32_w]
              rfl
            refine pure_ (i := 3) (N := some 31) (v := ?_) (a' := ?_) #[true, true, true, true, false, false, false, false, false, false, false, false, false, false, false, false, false, false] rfl rfl (any_of HT_.out (by kernel_rfl)) (fun _ _ _ h => h) (Or.inl ⟨by rfl, ?_⟩) ?_ ?_
            rotate_left
            · intro w'
              go_simp
              with_reducible rfl
            rotate_left
            · simp only [Act.put, List.setIfInBounds_toArray, List.set_cons_zero, List.set_cons_succ, i64_w, i32_w]
              rfl
            refine pure_ (i := 4) (N := some 32) (v := ?_) (a' := ?_) #[true, true, true, true, true, false, false, false, false, false, false, false, false, false, false, false, false, false] rfl rfl (any_of HT_.out (by kernel_rfl)) (fun _ _ _ h => h) (Or.inl ⟨by rfl, ?_⟩) ?_ ?_
            rotate_left
            · intro w'
              go_simp
              with_reducible rfl
            rotate_left
            · simp only [Act.put, List.setIfInBounds_toArray, List.set_cons_zero, List.set_cons_succ, i64_w, i32_w]
              rfl
            refine pure_ (i := 5) (N := some 33) (v := ?_) (a' := ?_) #[true, true, true, true, true, true, false, false, false, false, false, false, false, false, false, false, false, false] rfl rfl (any_of HT_.out (by kernel_rfl)) (fun _ _ _ h => h) (Or.inl ⟨by rfl, ?_⟩) ?_ ?_
            rotate_left
            · intro w'
              go_simp
              with_reducible rfl
            rotate_left
            · simp only [Act.put, List.setIfInBounds_toArray, List.set_cons_zero, List.set_cons_succ, i64_w, i32_w]
              rfl
            refine pure_ (i := 6) (N := some 34) (v := ?_) (a' := ?_) #[true, true, true, true, true, true, true, false, false, false, false, false, false, false, false, false, false, false] rfl rfl (any_of HT_.out (by kernel_rfl)) (fun _ _ _ h => h) (Or.inl ⟨by rfl, ?_⟩) ?_ ?_
            rotate_left
            · intro w'
              go_simp
              with_reducible rfl
            rotate_left
            · simp only [Act.put, List.setIfInBounds_toArray, List.set_cons_zero, List.set_cons_succ, i64_w, i32_w]
              rfl
            refine pure_ (i := 7) (N := some 35) (v := ?_) (a' := ?_) #[true, true, true, true, true, true, true, true, false, false, false, false, false, false, false, false, false, false] rfl rfl (any_of HT_.out (by kernel_rfl)) (fun _ _ _ h => h) (Or.inl ⟨by rfl, ?_⟩) ?_ ?_
            rotate_left
            · intro w'
              go_simp
              with_reducible rfl
            rotate_left
            · simp only [Act.put, List.setIfInBounds_toArray, List.set_cons_zero, List.set_cons_succ, i64_w, i32_w]
              rfl
            refine pure_ (i := 8) (N := some 36) (v := ?_) (a' := ?_) #[true, true, true, true, true, true, true, true, true, false, false, false, false, false, false, false, false, false] rfl rfl (any_of HT_.out (by kernel_rfl)) (fun _ _ _ h => h) (Or.inl ⟨by rfl, ?_⟩) ?_ ?_
            rotate_left
            · intro w'
              go_simp
              with_reducible rfl
            rotate_left
            · simp only [Act.put, List.setIfInBounds_toArray, List.set_cons_zero, List.set_cons_succ, i64_w, i32_w]
              rfl
            refine pure_ (i := 10) (N := some 38) (v := ?_) (a' := ?_) #[true, true, true, true, true, true, true, true, true, false, true, false, false, false, false, false, false, false] rfl rfl (any_of HT_.out (by kernel_rfl)) (fun _ _ _ h => h) (Or.inl ⟨by rfl, ?_⟩) ?_ ?_
            rotate_left
            · intro w'
              go_simp
              with_reducible rfl
            rotate_left
            · simp only [Act.put, List.setIfInBounds_toArray, List.set_cons_zero, List.set_cons_succ, i64_w, i32_w]
              rfl
            refine pure_ (i := 12) (N := some 40) (v := ?_) (a' := ?_) #[true, true, true, true, true, true, true, true, true, false, true, false, true, false, false, false, false, false] rfl rfl (any_of HT_.out (by kernel_rfl)) (fun _ _ _ h => h) (Or.inl ⟨by rfl, ?_⟩) ?_ ?_
            rotate_left
            · intro w'
              go_simp
              with_reducible rfl
            rotate_left
            · simp only [Act.put, List.setIfInBounds_toArray, List.set_cons_zero, List.set_cons_succ, i64_w, i32_w]
              rfl
            refine pure_ (i := 13) (N := some 41) (v := ?_) (a' := ?_) #[true, true, true, true, true, true, true, true, true, false, true, false, true, true, false, false, false, false] rfl rfl (any_of HT_.out (by kernel_rfl)) (fun _ _ _ h => h) (Or.inl ⟨by rfl, ?_⟩) ?_ ?_
            rotate_left
            · intro w'
              go_simp
              with_reducible rfl
            rotate_left
            · simp only [Act.put, List.setIfInBounds_toArray, List.set_cons_zero, List.set_cons_succ, i64_w, i32_w]
              rfl
            refine pure_ (i := 14) (N := some 42) (v := ?_) (a' := ?_) #[true, true, true, true, true, true, true, true, true, false, true, false, true, true, true, false, false, false] rfl rfl (any_of HT_.out (by kernel_rfl)) (fun _ _ _ h => h) (Or.inl ⟨by rfl, ?_⟩) ?_ ?_
            rotate_left
            · intro w'
              go_simp
              with_reducible rfl
            rotate_left
            · simp only [Act.put, List.setIfInBounds_toArray, List.set_cons_zero, List.set_cons_succ, i64_w, i32_w]
              rfl
            refine take_ (i := 9) (N := some 37) (v := ?_) (a' := ?_) #[true, true, true, true, true, true, true, true, true, true, true, false, true, true, true, false, false, false] rfl rfl (take_ofW HT_.out HW_.out (by kernel_rfl)) (fun _ _ _ h => h) (Or.inl ⟨by rfl, ?_⟩) hHeld ?_ ?_
            rotate_left
            · rintro w' ⟨s0, s1, s2, s3, s4, s5, s6, s7⟩
              go_simp
              with_reducible rfl
            rotate_left
            · simp only [Act.put, List.setIfInBounds_toArray, List.set_cons_zero, List.set_cons_succ, i64_w, i32_w]
              rfl
            refine one_ (i := 11) (N := some 39) #[true, true, true, true, true, true, true, true, true, true, true, true, true, true, true, false, false, false] rfl rfl (one_of HT_.out (by kernel_rfl)) (by decide) (fun K hK => ?_)
            refine goes_ Try.func33 (by kernel_rfl) rfl #[.slice none 0 0, .agg #[.int .i64 t535, .int .i64 t536, .int .i64 t537, .int .i64 t538, .int .i64 t539, .int .i64 t540, .slice Ao16 t541.length co16, .slice Ao17 t544.length co17], .int .i64 a2] (by rfl) rfl rfl (by (try simp only [List.map_toArray, List.map_cons, List.map_nil]); first | done | rfl | (simp only [List.length_drop, List.length_take]; rfl)) ?_
            refine (event_Append.calls k _ _ ([] : List Int) t535 t536 t537 t538 t539 t540 _ _ t541 _ _ t544 a2 t550 _ ?side1 ?side2 ?side3 ?side4 ?side5 ?side6 A9.out).mono ?_
            (case side1 => exact Kd.C_nil _ _)
            (case side2 => exact Nat.le_refl _)
            (case side3 => repeat (first | exact (Kd.R_reads' HO543.out).2.2 | (with_reducible refine Kd.C_alloc ?_ _) | (with_reducible refine Kd.C_drewN ?_ _) | (with_reducible refine Kd.C_drew ?_)))
            (case side4 => exact (Kd.R_reads' HO543.out).2.1)
            (case side5 => repeat (first | exact (Kd.R_reads' HO546.out).2.2 | (with_reducible refine Kd.C_alloc ?_ _) | (with_reducible refine Kd.C_drewN ?_ _) | (with_reducible refine Kd.C_drew ?_)))
            (case side6 => exact (Kd.R_reads' HO546.out).2.1)
            rintro e w21 ⟨v551, rfl, ho0, hb⟩
            refine ⟨_, rfl, ?_⟩
            have n0_ := Aside0.mk (Kd.R_below (by (with_reducible repeat (first | apply Kd.R_alloc | apply Kd.R_drewN | apply Kd.R_drew)); exact HO543.out) hb)
            have n1_ := Aside0.mk (Kd.R_below (by (with_reducible repeat (first | apply Kd.R_alloc | apply Kd.R_drewN | apply Kd.R_drew)); exact HO546.out) hb)
            have n2_ := Aside0.mk (Kd.R_lower ho0 (below_size (by repeat (first | (with_reducible first | exact HB.out | apply below_alloc | apply pw_below_drewN | apply below_drew1 | refine below_set ?_ GE549.out) | exact HB.out))))
            have n3_ := Aside0.mk (blk_below (g := gb549) (o := .cells #[.int .i64 t535, .int .i64 t536, .int .i64 t537, .int .i64 t538, .int .i64 t539, .int .i64 t540, .slice Ao16 t541.length co16, .slice Ao17 t544.length co17] 35 (0, 0)) (by (with_reducible repeat (first | refine blk_drewN ?_ _ | refine blk_drew ?_ | refine blk_alloc ?_ _)); exact BK549.out) hb)
            have n4_ := Aside0.mk (below_step (by repeat (first | (with_reducible first | exact HB.out | apply below_alloc | apply pw_below_drewN | apply below_drew1 | refine below_set ?_ GE549.out) | exact HB.out)) hb)
            clear HO543
            clear HO546
            clear BK549
            clear HB
            have HO543 := n0_
            have HO546 := n1_
            have HO552 := n2_
            have BK549 := n3_
            have HB := n4_
            clear n0_ n1_ n2_ n3_ n4_
            (try clear hb)
            (try clear hb2)
            (try clear hk)
            (try clear hi)
            (try clear ho0)
            obtain ⟨Ao22, co22, eo22⟩ := Kd.R_slice HO552.out
            (first | subst eo22 | (injection eo22 with f1_ f2_ f3_; have f4_ := f1_.symm; have f5_ := f3_.symm; clear f1_ f2_ f3_; subst f4_; subst f5_))
            refine hK.out _ _ ⟨(blk_cell BK549.out 0).trans rfl, (blk_cell BK549.out 1).trans rfl, (blk_cell BK549.out 2).trans rfl, (blk_cell BK549.out 3).trans rfl, (blk_cell BK549.out 4).trans rfl, (blk_cell BK549.out 5).trans rfl, (blk_cell BK549.out 6).trans rfl, (blk_cell BK549.out 7).trans rfl⟩ (fun hHeld => ?_)
            clear hK K
            refine norm_ (a' := ?_) ?_ ?_
            rotate_left
            · show Act.put _ (some 39) _ = _
              simp only [Act.put, List.setIfInBounds_toArray, List.set_cons_zero, List.set_cons_succ, i64_w, i32_w]
              rfl
            refine one_ (i := 15) (N := some 43) #[true, true, true, true, true, true, true, true, true, true, true, true, true, true, true, true, false, false] rfl rfl (one_of HT_.out (by kernel_rfl)) (by decide) (fun K hK => ?_)
            refine goes_ Try.func32 (by kernel_rfl) rfl #[.slice Ao22 t550.length co22, .slice A0 (l0.take (t547 : Int).toNat).length c0] (by rfl) rfl rfl (by (try simp only [List.map_toArray, List.map_cons, List.map_nil]); first | done | (rw [show (l0.take (t547 : Int).toNat).length = t547.toNat from (by rw [List.length_take]; have h_ : (t547 : Int) ≤ (l0.length : Int) := of_decide_eq_true (by first | (with_reducible assumption) | assumption); omega)] <;> rfl) | rfl | (simp only [List.length_drop, List.length_take]; rfl)) ?_
            with_reducible refine (interleaveref11_SameBytes.calls k _ _ t550 _ _ (l0.take (t547 : Int).toNat) t554 _ ?side1 ?side2 ?side3 ?side4 A12.out).mono ?_
            (case side1 => repeat (first | exact (Kd.R_reads' HO552.out).2.2 | (with_reducible refine Kd.C_alloc ?_ _) | (with_reducible refine Kd.C_drewN ?_ _) | (with_reducible refine Kd.C_drew ?_)))
            (case side2 => exact (Kd.R_reads' HO552.out).2.1)
            (case side3 => repeat (first | exact (Kd.C_below HR553.out HB.out) | (with_reducible refine Kd.C_alloc ?_ _) | (with_reducible refine Kd.C_drewN ?_ _) | (with_reducible refine Kd.C_drew ?_)))
            (case side4 => exact HC553.out)
            rintro e w' ⟨rfl, ⟨nd, rfl⟩⟩
            refine ⟨_, rfl, ?_⟩
            refine hK.out _ _ ⟨(blk_cell BK549.out 0).trans rfl, (blk_cell BK549.out 1).trans rfl, (blk_cell BK549.out 2).trans rfl, (blk_cell BK549.out 3).trans rfl, (blk_cell BK549.out 4).trans rfl, (blk_cell BK549.out 5).trans rfl, (blk_cell BK549.out 6).trans rfl, (blk_cell BK549.out 7).trans rfl⟩ (fun hHeld => ?_)
            clear hK K
            refine norm_ (a' := ?_) ?_ ?_
            rotate_left
            · show Act.put _ (some 43) _ = _
              simp only [Act.put, List.setIfInBounds_toArray, List.set_cons_zero, List.set_cons_succ, i64_w, i32_w]
              rfl
            refine pure_ (i := 16) (N := some 44) (v := ?_) (a' := ?_) #[true, true, true, true, true, true, true, true, true, true, true, true, true, true, true, true, true, false] rfl rfl (any_of HT_.out (by kernel_rfl)) (fun _ _ _ h => h) (Or.inl ⟨by rfl, ?_⟩) ?_ ?_
            rotate_left
            · intro w'
              go_simp
              with_reducible rfl
            rotate_left
            · simp only [Act.put, List.setIfInBounds_toArray, List.set_cons_zero, List.set_cons_succ, i64_w, i32_w]
              rfl
            refine pure_ (i := 17) (N := some 6) (v := ?_) (a' := ?_) #[true, true, true, true, true, true, true, true, true, true, true, true, true, true, true, true, true, true] rfl rfl (any_of HT_.out (by kernel_rfl)) (fun _ _ _ h => h) (Or.inl ⟨by rfl, ?_⟩) ?_ ?_
            rotate_left
            · intro w'
              go_simp
              with_reducible rfl
            rotate_left
            · simp only [Act.put, List.setIfInBounds_toArray, List.set_cons_zero, List.set_cons_succ, i64_w, i32_w]
              rfl
            refine done_ (done_of HT_.out (by kernel_rfl)) ?_
            try go_wp2
            go_ret
            exact ⟨by first | rfl | (simp [errW_none, errW_some] <;> rfl) | (simp [*, errW_none, errW_some] <;> rfl), by repeat (first | (with_reducible first | exact HB.out | apply below_alloc | apply pw_below_drewN | apply below_drew1 | refine below_set ?_ GE549.out) | exact HB.out)⟩
          · rw [if_neg c10] at H
            exact absurd H (by simp)
        · rw [if_neg c8] at H
          have c8b0 : decide (t547 ≤ (l0.length : Int)) = false := decide_eq_false c8
          clear c8
          obtain rfl := Option.some.inj H
          go_enter Try.func20, Try.ntmps20
          try go_wp2_with (first | ((with_reducible refine gate_callee (f := 42) rfl ?_); refine goesL_ (some 17) rfl rfl Try.func42 (by kernel_rfl) rfl #[.slice A0 l0.length c0, .int .i64 a1, .int .i64 a2] rfl (by (try simp only [List.map_toArray, List.map_cons, List.map_nil]); first | done | rfl | (simp only [List.length_drop, List.length_take]; rfl)) ?_; (with_reducible refine (event_Read.calls k _ _ l0 a1 a2 t535 t536 t537 t538 t539 t540 t541 t544 t547 t548 _ ?side1 ?side2 A5.out).mono ?_); (case side1 => repeat (first | exact HR0.out | (with_reducible refine Kd.C_alloc ?_ _) | (with_reducible refine Kd.C_drewN ?_ _) | (with_reducible refine Kd.C_drew ?_))); (case side2 => exact HC0.out); rintro e w23 ⟨v542, v545, rfl, ho0, ho1, hb⟩; refine ⟨_, rfl, ?_⟩; have n0_ := Aside0.mk (Kd.R_lower ho0 (below_size (by repeat (first | (with_reducible first | exact HB.out | apply below_alloc | apply pw_below_drewN | apply below_drew1) | exact HB.out)))); have n1_ := Aside0.mk (Kd.R_lower ho1 (below_size (by repeat (first | (with_reducible first | exact HB.out | apply below_alloc | apply pw_below_drewN | apply below_drew1) | exact HB.out)))); have n2_ := Aside0.mk (below_step (by repeat (first | (with_reducible first | exact HB.out | apply below_alloc | apply pw_below_drewN | apply below_drew1) | exact HB.out)) hb); clear HB; have HO543 := n0_; have HO546 := n1_; have HB := n2_; clear n0_ n1_ n2_; (try clear hb); (try clear hb2); (try clear hk); (try clear hi); (try clear ho0); (try clear ho1)) | ((with_reducible refine gate_dst (N := 7) rfl ?_); (try (refine gate_guard (by rfl) ?_; dsimp only)); refine box_event ?hg (N := 7) ?hd (cs := #[.int .i64 0, .int .i64 0, .int .i64 0, .int .i64 0, .int .i64 0, .int .i64 0, .slice none 0 0, .slice none 0 0]) (t := 35) ?hr ?_; (case hd => rfl); (case hg => rfl); (case hr => first | (go_simp; done) | (go_simp; rfl)); intro gb549 hg w24 hbox hb; have n0_ := Aside0.mk (Kd.R_below (by (with_reducible repeat (first | apply Kd.R_alloc | apply Kd.R_drewN | apply Kd.R_drew)); exact HO543.out) hb); have n1_ := Aside0.mk (Kd.R_below (by (with_reducible repeat (first | apply Kd.R_alloc | apply Kd.R_drewN | apply Kd.R_drew)); exact HO546.out) hb); have n2_ := Aside0.mk (below_step (by repeat (first | (with_reducible first | exact HB.out | apply below_alloc | apply pw_below_drewN | apply below_drew1) | exact HB.out)) hb); have n3_ := Aside0.mk (hbox); have n4_ := Aside0.mk ((by rw [hg]; exact (below_size (by repeat (first | (with_reducible first | exact HB.out | apply below_alloc | apply pw_below_drewN | apply below_drew1) | exact HB.out))) : w.heap.size ≤ gb549)); have n5_ := Aside0.mk ((by rw [hg]; exact (below_size (by repeat (first | (with_reducible first | exact HB.out | apply below_alloc | apply pw_below_drewN | apply below_drew1) | exact HB.out))) : w.heap.size ≤ gb549)); clear HO543; clear HO546; clear HB; have HO543 := n0_; have HO546 := n1_; have HB := n2_; have BK549 := n3_; have GW549 := n4_; have GE549 := n5_; clear n0_ n1_ n2_ n3_ n4_ n5_; clear hb hbox hg; have hcz25_0 : w24.cell? ⟨gb549, 0, none⟩ = some (.int .i64 0) := (blk_cell BK549.out 0).trans rfl; have hcz25_1 : w24.cell? ⟨gb549, 1, none⟩ = some (.int .i64 0) := (blk_cell BK549.out 1).trans rfl; have hcz25_2 : w24.cell? ⟨gb549, 2, none⟩ = some (.int .i64 0) := (blk_cell BK549.out 2).trans rfl; have hcz25_3 : w24.cell? ⟨gb549, 3, none⟩ = some (.int .i64 0) := (blk_cell BK549.out 3).trans rfl; have hcz25_4 : w24.cell? ⟨gb549, 4, none⟩ = some (.int .i64 0) := (blk_cell BK549.out 4).trans rfl; have hcz25_5 : w24.cell? ⟨gb549, 5, none⟩ = some (.int .i64 0) := (blk_cell BK549.out 5).trans rfl; have hcz25_6 : w24.cell? ⟨gb549, 6, none⟩ = some (.slice none 0 0) := (blk_cell BK549.out 6).trans rfl; have hcz25_7 : w24.cell? ⟨gb549, 7, none⟩ = some (.slice none 0 0) := (blk_cell BK549.out 7).trans rfl; have hfz25_0 := blk_frozen BK549.out 0; have hfz25_1 := blk_frozen BK549.out 1; have hfz25_2 := blk_frozen BK549.out 2; have hfz25_3 := blk_frozen BK549.out 3; have hfz25_4 := blk_frozen BK549.out 4; have hfz25_5 := blk_frozen BK549.out 5; have hfz25_6 := blk_frozen BK549.out 6; have hfz25_7 := blk_frozen BK549.out 7; obtain ⟨Ao26, co26, eo26⟩ := Kd.R_slice HO543.out; subst eo26; obtain ⟨Ao27, co27, eo27⟩ := Kd.R_slice HO546.out; subst eo27))
          have n0_ : Aside0 (Kd.R (Kd.int .i64) 3 ((((((((w24.setCell ⟨gb549, 0, none⟩ (.int .i64 t535)).setCell ⟨gb549, 1, none⟩ (.int .i64 t536)).setCell ⟨gb549, 2, none⟩ (.int .i64 t537)).setCell ⟨gb549, 3, none⟩ (.int .i64 t538)).setCell ⟨gb549, 4, none⟩ (.int .i64 t539)).setCell ⟨gb549, 5, none⟩ (.int .i64 t540)).setCell ⟨gb549, 6, none⟩ (.slice Ao26 t541.length co26)).setCell ⟨gb549, 7, none⟩ (.slice Ao27 t544.length co27)) w.heap.size (fun k_ => some k_ ≠ (.slice Ao27 t544.length co27 : Value).ownBlock) (.slice Ao26 t541.length co26) t541) := ⟨by (with_reducible repeat (first | apply Kd.R_alloc | apply Kd.R_drewN | apply Kd.R_drew)); exact Kd.R_mono (Kd.R_far (p := ⟨gb549, 7, none⟩) (Kd.R_far (p := ⟨gb549, 6, none⟩) (Kd.R_far (p := ⟨gb549, 5, none⟩) (Kd.R_far (p := ⟨gb549, 4, none⟩) (Kd.R_far (p := ⟨gb549, 3, none⟩) (Kd.R_far (p := ⟨gb549, 2, none⟩) (Kd.R_far (p := ⟨gb549, 1, none⟩) (Kd.R_far (p := ⟨gb549, 0, none⟩) (Kd.R_types HO543.out BK549.out (by decide)) (fun _ hk => hk.2) (.int .i64 t535)) (fun _ hk => hk.2) (.int .i64 t536)) (fun _ hk => hk.2) (.int .i64 t537)) (fun _ hk => hk.2) (.int .i64 t538)) (fun _ hk => hk.2) (.int .i64 t539)) (fun _ hk => hk.2) (.int .i64 t540)) (fun _ hk => hk.2) (.slice Ao26 t541.length co26)) (fun _ hk => hk.2) (.slice Ao27 t544.length co27)) (fun _ hk => hk.1)⟩
          have n1_ : Aside0 (Kd.R (Kd.int .i64) 3 ((((((((w24.setCell ⟨gb549, 0, none⟩ (.int .i64 t535)).setCell ⟨gb549, 1, none⟩ (.int .i64 t536)).setCell ⟨gb549, 2, none⟩ (.int .i64 t537)).setCell ⟨gb549, 3, none⟩ (.int .i64 t538)).setCell ⟨gb549, 4, none⟩ (.int .i64 t539)).setCell ⟨gb549, 5, none⟩ (.int .i64 t540)).setCell ⟨gb549, 6, none⟩ (.slice Ao26 t541.length co26)).setCell ⟨gb549, 7, none⟩ (.slice Ao27 t544.length co27)) w.heap.size (fun k_ => some k_ ≠ (.slice Ao26 t541.length co26 : Value).ownBlock) (.slice Ao27 t544.length co27) t544) := ⟨by (with_reducible repeat (first | apply Kd.R_alloc | apply Kd.R_drewN | apply Kd.R_drew)); exact Kd.R_mono (Kd.R_far (p := ⟨gb549, 7, none⟩) (Kd.R_far (p := ⟨gb549, 6, none⟩) (Kd.R_far (p := ⟨gb549, 5, none⟩) (Kd.R_far (p := ⟨gb549, 4, none⟩) (Kd.R_far (p := ⟨gb549, 3, none⟩) (Kd.R_far (p := ⟨gb549, 2, none⟩) (Kd.R_far (p := ⟨gb549, 1, none⟩) (Kd.R_far (p := ⟨gb549, 0, none⟩) (Kd.R_types HO546.out BK549.out (by decide)) (fun _ hk => hk.2) (.int .i64 t535)) (fun _ hk => hk.2) (.int .i64 t536)) (fun _ hk => hk.2) (.int .i64 t537)) (fun _ hk => hk.2) (.int .i64 t538)) (fun _ hk => hk.2) (.int .i64 t539)) (fun _ hk => hk.2) (.int .i64 t540)) (fun _ hk => hk.2) (.slice Ao26 t541.length co26)) (fun _ hk => hk.2) (.slice Ao27 t544.length co27)) (fun _ hk => hk.1)⟩
          have n2_ : Aside0 (((((((((w24.setCell ⟨gb549, 0, none⟩ (.int .i64 t535)).setCell ⟨gb549, 1, none⟩ (.int .i64 t536)).setCell ⟨gb549, 2, none⟩ (.int .i64 t537)).setCell ⟨gb549, 3, none⟩ (.int .i64 t538)).setCell ⟨gb549, 4, none⟩ (.int .i64 t539)).setCell ⟨gb549, 5, none⟩ (.int .i64 t540)).setCell ⟨gb549, 6, none⟩ (.slice Ao26 t541.length co26)).setCell ⟨gb549, 7, none⟩ (.slice Ao27 t544.length co27)).heap[gb549]? = some (.cells #[.int .i64 t535, .int .i64 t536, .int .i64 t537, .int .i64 t538, .int .i64 t539, .int .i64 t540, .slice Ao26 t541.length co26, .slice Ao27 t544.length co27] 35 (0, 0))) := ⟨by (with_reducible repeat (first | refine blk_drewN ?_ _ | refine blk_drew ?_ | refine blk_alloc ?_ _)); refine blk_put (cs := #[.int .i64 t535, .int .i64 t536, .int .i64 t537, .int .i64 t538, .int .i64 t539, .int .i64 t540, .slice Ao26 t541.length co26, .slice none 0 0]) ?_ 7 _ rfl; (with_reducible repeat (first | refine blk_drewN ?_ _ | refine blk_drew ?_ | refine blk_alloc ?_ _)); refine blk_put (cs := #[.int .i64 t535, .int .i64 t536, .int .i64 t537, .int .i64 t538, .int .i64 t539, .int .i64 t540, .slice none 0 0, .slice none 0 0]) ?_ 6 _ rfl; (with_reducible repeat (first | refine blk_drewN ?_ _ | refine blk_drew ?_ | refine blk_alloc ?_ _)); refine blk_put (cs := #[.int .i64 t535, .int .i64 t536, .int .i64 t537, .int .i64 t538, .int .i64 t539, .int .i64 0, .slice none 0 0, .slice none 0 0]) ?_ 5 _ rfl; (with_reducible repeat (first | refine blk_drewN ?_ _ | refine blk_drew ?_ | refine blk_alloc ?_ _)); refine blk_put (cs := #[.int .i64 t535, .int .i64 t536, .int .i64 t537, .int .i64 t538, .int .i64 0, .int .i64 0, .slice none 0 0, .slice none 0 0]) ?_ 4 _ rfl; (with_reducible repeat (first | refine blk_drewN ?_ _ | refine blk_drew ?_ | refine blk_alloc ?_ _)); refine blk_put (cs := #[.int .i64 t535, .int .i64 t536, .int .i64 t537, .int .i64 0, .int .i64 0, .int .i64 0, .slice none 0 0, .slice none 0 0]) ?_ 3 _ rfl; (with_reducible repeat (first | refine blk_drewN ?_ _ | refine blk_drew ?_ | refine blk_alloc ?_ _)); refine blk_put (cs := #[.int .i64 t535, .int .i64 t536, .int .i64 0, .int .i64 0, .int .i64 0, .int .i64 0, .slice none 0 0, .slice none 0 0]) ?_ 2 _ rfl; (with_reducible repeat (first | refine blk_drewN ?_ _ | refine blk_drew ?_ | refine blk_alloc ?_ _)); refine blk_put (cs := #[.int .i64 t535, .int .i64 0, .int .i64 0, .int .i64 0, .int .i64 0, .int .i64 0, .slice none 0 0, .slice none 0 0]) ?_ 1 _ rfl; (with_reducible repeat (first | refine blk_drewN ?_ _ | refine blk_drew ?_ | refine blk_alloc ?_ _)); refine blk_put (cs := #[.int .i64 0, .int .i64 0, .int .i64 0, .int .i64 0, .int .i64 0, .int .i64 0, .slice none 0 0, .slice none 0 0]) ?_ 0 _ rfl; (with_reducible repeat (first | refine blk_drewN ?_ _ | refine blk_drew ?_ | refine blk_alloc ?_ _)); exact BK549.out⟩
          have n3_ : Aside0 (Below w.heap.size w ((((((((w24.setCell ⟨gb549, 0, none⟩ (.int .i64 t535)).setCell ⟨gb549, 1, none⟩ (.int .i64 t536)).setCell ⟨gb549, 2, none⟩ (.int .i64 t537)).setCell ⟨gb549, 3, none⟩ (.int .i64 t538)).setCell ⟨gb549, 4, none⟩ (.int .i64 t539)).setCell ⟨gb549, 5, none⟩ (.int .i64 t540)).setCell ⟨gb549, 6, none⟩ (.slice Ao26 t541.length co26)).setCell ⟨gb549, 7, none⟩ (.slice Ao27 t544.length co27))) := ⟨by repeat (first | (with_reducible first | exact HB.out | apply below_alloc | apply pw_below_drewN | apply below_drew1 | refine below_set ?_ GE549.out) | exact HB.out)⟩
          (try clear HO543)
          (try clear HO546)
          (try clear BK549)
          (try clear HB)
          generalize ((((((((w24.setCell ⟨gb549, 0, none⟩ (.int .i64 t535)).setCell ⟨gb549, 1, none⟩ (.int .i64 t536)).setCell ⟨gb549, 2, none⟩ (.int .i64 t537)).setCell ⟨gb549, 3, none⟩ (.int .i64 t538)).setCell ⟨gb549, 4, none⟩ (.int .i64 t539)).setCell ⟨gb549, 5, none⟩ (.int .i64 t540)).setCell ⟨gb549, 6, none⟩ (.slice Ao26 t541.length co26)).setCell ⟨gb549, 7, none⟩ (.slice Ao27 t544.length co27)) = w28 at n0_ n1_ n2_ n3_ ⊢
          have HO543 := n0_
          have HO546 := n1_
          have BK549 := n2_
          have HB := n3_
          clear n0_ n1_ n2_ n3_
          have n0_ := Aside0.mk (Kd.R_drew HO543.out)
          have n1_ := Aside0.mk (Kd.R_drew HO546.out)
          have n2_ := Aside0.mk (blk_drew BK549.out)
          have n3_ := Aside0.mk (below_drew1 HB.out)
          clear HO543
          clear HO546
          clear BK549
          clear HB
          have HO543 := n0_
          have HO546 := n1_
          have BK549 := n2_
          have HB := n3_
          clear n0_ n1_ n2_ n3_
          refine start_ (n := 18) (S := fun w' => True) (ds := []) #[false, false, false, false, false, false, false, false, false, false, false, false, false, false, false, false, false, false] (by kernel_rfl) rfl rfl trivial (fun hHeld => ?_); refine with_tabW interleavelaw11_EventOnce.tab6 interleavelaw11_EventOnce.bits6 (fun HT_ HW_ => ?_)
          generalize w28.drew = w29 at HO543 HO546 BK549 HB hHeld ⊢
          refine pure_ (i := 0) (N := some 28) (v := ?_) (a' := ?_) #[true, false, false, false, false, false, false, false, false, false, false, false, false, false, false, false, false, false] rfl rfl (any_of HT_.out (by kernel_rfl)) (fun _ _ _ h => h) (Or.inl ⟨by rfl, ?_⟩) ?_ ?_
          rotate_left
          · intro w'
            go_simp
            with_reducible rfl
          rotate_left
          · simp only [Act.put, List.setIfInBounds_toArray, List.set_cons_zero, List.set_cons_succ, i64_w, i32_w]
            rfl
          refine pure_ (i := 1) (N := some 29) (v := ?_) (a' := ?_) #[true, true, false, false, false, false, false, false, false, false, false, false, false, false, false, false, false, false] rfl rfl (any_of HT_.out (by kernel_rfl)) (fun _ _ _ h => h) (Or.inl ⟨by rfl, ?_⟩) ?_ ?_
          rotate_left
          · intro w'
            go_simp
            with_reducible rfl
          rotate_left
          · simp only [Act.put, List.setIfInBounds_toArray, List.set_cons_zero, List.set_cons_succ, i64_w, i32_w]
            rfl
          refine pure_ (i := 2) (N := some 30) (v := ?_) (a' := ?_) #[true, true, true, false, false, false, false, false, false, false, false, false, false, false, false, false, false, false] rfl rfl (any_of HT_.out (by kernel_rfl)) (fun _ _ _ h => h) (Or.inl ⟨by rfl, ?_⟩) ?_ ?_
          rotate_left
          · intro w'
            go_simp
            with_reducible rfl
          rotate_left
          · simp only [Act.put, List.setIfInBounds_toArray, List.set_cons_zero, List.set_cons_succ, i64_w, i32_w]
            rfl
          refine pure_ (i := 3) (N := some 31) (v := ?_) (a' := ?_) #[true, true, true, true, false, false, false, false, false, false, false, false, false, false, false, false, false, false] rfl rfl (any_of HT_.out (by kernel_rfl)) (fun _ _ _ h => h) (Or.inl ⟨by rfl, ?_⟩) ?_ ?_
          rotate_left
          · intro w'
            go_simp
            with_reducible rfl
          rotate_left
          · simp only [Act.put, List.setIfInBounds_toArray, List.set_cons_zero, List.set_cons_succ, i64_w, i32_w]
            rfl
          refine pure_ (i := 4) (N := some 32) (v := ?_) (a' := ?_) #[true, true, true, true, true, false, false, false, false, false, false, false, false, false, false, false, false, false] rfl rfl (any_of HT_.out (by kernel_rfl)) (fun _ _ _ h => h) (Or.inl ⟨by rfl, ?_⟩) ?_ ?_
          rotate_left
          · intro w'
            go_simp
            with_reducible rfl
          rotate_left
          · simp only [Act.put, List.setIfInBounds_toArray, List.set_cons_zero, List.set_cons_succ, i64_w, i32_w]
            rfl
          refine pure_ (i := 5) (N := some 33) (v := ?_) (a' := ?_) #[true, true, true, true, true, true, false, false, false, false, false, false, false, false, false, false, false, false] rfl rfl (any_of HT_.out (by kernel_rfl)) (fun _ _ _ h => h) (Or.inl ⟨by rfl, ?_⟩) ?_ ?_
          rotate_left
          · intro w'
            go_simp
            with_reducible rfl
          rotate_left
          · simp only [Act.put, List.setIfInBounds_toArray, List.set_cons_zero, List.set_cons_succ, i64_w, i32_w]
            rfl
          refine pure_ (i := 6) (N := some 34) (v := ?_) (a' := ?_) #[true, true, true, true, true, true, true, false, false, false, false, false, false, false, false, false, false, false] rfl rfl (any_of HT_.out (by kernel_rfl)) (fun _ _ _ h => h) (Or.inl ⟨by rfl, ?_⟩) ?_ ?_
          rotate_left
          · intro w'
            go_simp
            with_reducible rfl
          rotate_left
          · simp only [Act.put, List.setIfInBounds_toArray, List.set_cons_zero, List.set_cons_succ, i64_w, i32_w]
            rfl
          refine pure_ (i := 7) (N := some 35) (v := ?_) (a' := ?_) #[true, true, true, true, true, true, true, true, false, false, false, false, false, false, false, false, false, false] rfl rfl (any_of HT_.out (by kernel_rfl)) (fun _ _ _ h => h) (Or.inl ⟨by rfl, ?_⟩) ?_ ?_
          rotate_left
          · intro w'
            go_simp
            with_reducible rfl
          rotate_left
          · simp only [Act.put, List.setIfInBounds_toArray, List.set_cons_zero, List.set_cons_succ, i64_w, i32_w]
            rfl
          refine pure_ (i := 8) (N := some 36) (v := ?_) (a' := ?_) #[true, true, true, true, true, true, true, true, true, false, false, false, false, false, false, false, false, false] rfl rfl (any_of HT_.out (by kernel_rfl)) (fun _ _ _ h => h) (Or.inl ⟨by rfl, ?_⟩) ?_ ?_
          rotate_left
          · intro w'
            go_simp
            with_reducible rfl
          rotate_left
          · simp only [Act.put, List.setIfInBounds_toArray, List.set_cons_zero, List.set_cons_succ, i64_w, i32_w]
            rfl
          refine pure_ (i := 9) (N := some 37) (v := undef) (a' := ?_) #[true, true, true, true, true, true, true, true, true, true, false, false, false, false, false, false, false, false] rfl rfl (any_of HT_.out (by kernel_rfl)) (fun _ _ _ h => h) (Or.inr ⟨by rfl, rfl⟩) ?_ ?_
          rotate_left
          · simp only [Act.put, List.setIfInBounds_toArray, List.set_cons_zero, List.set_cons_succ, i64_w, i32_w]
            rfl
          refine pure_ (i := 10) (N := some 38) (v := undef) (a' := ?_) #[true, true, true, true, true, true, true, true, true, true, true, false, false, false, false, false, false, false] rfl rfl (any_of HT_.out (by kernel_rfl)) (fun _ _ _ h => h) (Or.inr ⟨by rfl, rfl⟩) ?_ ?_
          rotate_left
          · simp only [Act.put, List.setIfInBounds_toArray, List.set_cons_zero, List.set_cons_succ, i64_w, i32_w]
            rfl
          refine pure_ (i := 11) (N := some 39) (v := undef) (a' := ?_) #[true, true, true, true, true, true, true, true, true, true, true, true, false, false, false, false, false, false] rfl rfl (any_of HT_.out (by kernel_rfl)) (fun _ _ _ h => h) (Or.inr ⟨by rfl, rfl⟩) ?_ ?_
          rotate_left
          · simp only [Act.put, List.setIfInBounds_toArray, List.set_cons_zero, List.set_cons_succ, i64_w, i32_w]
            rfl
          refine pure_ (i := 12) (N := some 40) (v := undef) (a' := ?_) #[true, true, true, true, true, true, true, true, true, true, true, true, true, false, false, false, false, false] rfl rfl (any_of HT_.out (by kernel_rfl)) (fun _ _ _ h => h) (Or.inr ⟨by rfl, rfl⟩) ?_ ?_
          rotate_left
          · simp only [Act.put, List.setIfInBounds_toArray, List.set_cons_zero, List.set_cons_succ, i64_w, i32_w]
            rfl
          refine pure_ (i := 13) (N := some 41) (v := undef) (a' := ?_) #[true, true, true, true, true, true, true, true, true, true, true, true, true, true, false, false, false, false] rfl rfl (any_of HT_.out (by kernel_rfl)) (fun _ _ _ h => h) (Or.inr ⟨by rfl, rfl⟩) ?_ ?_
          rotate_left
          · simp only [Act.put, List.setIfInBounds_toArray, List.set_cons_zero, List.set_cons_succ, i64_w, i32_w]
            rfl
          refine pure_ (i := 14) (N := some 42) (v := undef) (a' := ?_) #[true, true, true, true, true, true, true, true, true, true, true, true, true, true, true, false, false, false] rfl rfl (any_of HT_.out (by kernel_rfl)) (fun _ _ _ h => h) (Or.inr ⟨by rfl, rfl⟩) ?_ ?_
          rotate_left
          · simp only [Act.put, List.setIfInBounds_toArray, List.set_cons_zero, List.set_cons_succ, i64_w, i32_w]
            rfl
          refine pure_ (i := 15) (N := some 43) (v := undef) (a' := ?_) #[true, true, true, true, true, true, true, true, true, true, true, true, true, true, true, true, false, false] rfl rfl (any_of HT_.out (by kernel_rfl)) (fun _ _ _ h => h) (Or.inr ⟨by rfl, rfl⟩) ?_ ?_
          rotate_left
          · simp only [Act.put, List.setIfInBounds_toArray, List.set_cons_zero, List.set_cons_succ, i64_w, i32_w]
            rfl
          refine pure_ (i := 16) (N := some 44) (v := ?_) (a' := ?_) #[true, true, true, true, true, true, true, true, true, true, true, true, true, true, true, true, true, false] rfl rfl (any_of HT_.out (by kernel_rfl)) (fun _ _ _ h => h) (Or.inl ⟨by rfl, ?_⟩) ?_ ?_
          rotate_left
          · intro w'
            go_simp
            with_reducible rfl
          rotate_left
          · simp only [Act.put, List.setIfInBounds_toArray, List.set_cons_zero, List.set_cons_succ, i64_w, i32_w]
            rfl
          refine pure_ (i := 17) (N := some 6) (v := ?_) (a' := ?_) #[true, true, true, true, true, true, true, true, true, true, true, true, true, true, true, true, true, true] rfl rfl (any_of HT_.out (by kernel_rfl)) (fun _ _ _ h => h) (Or.inl ⟨by rfl, ?_⟩) ?_ ?_
          rotate_left
          · intro w'
            go_simp
            with_reducible rfl
          rotate_left
          · simp only [Act.put, List.setIfInBounds_toArray, List.set_cons_zero, List.set_cons_succ, i64_w, i32_w]
            rfl
          refine done_ (done_of HT_.out (by kernel_rfl)) ?_
          try go_wp2
          go_ret
          exact ⟨by first | rfl | (simp [errW_none, errW_some] <;> rfl) | (simp [*, errW_none, errW_some] <;> rfl), by repeat (first | (with_reducible first | exact HB.out | apply below_alloc | apply pw_below_drewN | apply below_drew1 | refine below_set ?_ GE549.out) | exact HB.out)⟩
      · rw [if_neg c7] at H
        have c7b0 : decide (1 ≤ t547) = false := decide_eq_false c7
        clear c7
        obtain rfl := Option.some.inj H
        go_enter Try.func20, Try.ntmps20
        try go_wp2_with (first | ((with_reducible refine gate_callee (f := 42) rfl ?_); refine goesL_ (some 17) rfl rfl Try.func42 (by kernel_rfl) rfl #[.slice A0 l0.length c0, .int .i64 a1, .int .i64 a2] rfl (by (try simp only [List.map_toArray, List.map_cons, List.map_nil]); first | done | rfl | (simp only [List.length_drop, List.length_take]; rfl)) ?_; (with_reducible refine (event_Read.calls k _ _ l0 a1 a2 t535 t536 t537 t538 t539 t540 t541 t544 t547 t548 _ ?side1 ?side2 A5.out).mono ?_); (case side1 => repeat (first | exact HR0.out | (with_reducible refine Kd.C_alloc ?_ _) | (with_reducible refine Kd.C_drewN ?_ _) | (with_reducible refine Kd.C_drew ?_))); (case side2 => exact HC0.out); rintro e w30 ⟨v542, v545, rfl, ho0, ho1, hb⟩; refine ⟨_, rfl, ?_⟩; have n0_ := Aside0.mk (Kd.R_lower ho0 (below_size (by repeat (first | (with_reducible first | exact HB.out | apply below_alloc | apply pw_below_drewN | apply below_drew1) | exact HB.out)))); have n1_ := Aside0.mk (Kd.R_lower ho1 (below_size (by repeat (first | (with_reducible first | exact HB.out | apply below_alloc | apply pw_below_drewN | apply below_drew1) | exact HB.out)))); have n2_ := Aside0.mk (below_step (by repeat (first | (with_reducible first | exact HB.out | apply below_alloc | apply pw_below_drewN | apply below_drew1) | exact HB.out)) hb); clear HB; have HO543 := n0_; have HO546 := n1_; have HB := n2_; clear n0_ n1_ n2_; (try clear hb); (try clear hb2); (try clear hk); (try clear hi); (try clear ho0); (try clear ho1)) | ((with_reducible refine gate_dst (N := 7) rfl ?_); (try (refine gate_guard (by rfl) ?_; dsimp only)); refine box_event ?hg (N := 7) ?hd (cs := #[.int .i64 0, .int .i64 0, .int .i64 0, .int .i64 0, .int .i64 0, .int .i64 0, .slice none 0 0, .slice none 0 0]) (t := 35) ?hr ?_; (case hd => rfl); (case hg => rfl); (case hr => first | (go_simp; done) | (go_simp; rfl)); intro gb549 hg w31 hbox hb; have n0_ := Aside0.mk (Kd.R_below (by (with_reducible repeat (first | apply Kd.R_alloc | apply Kd.R_drewN | apply Kd.R_drew)); exact HO543.out) hb); have n1_ := Aside0.mk (Kd.R_below (by (with_reducible repeat (first | apply Kd.R_alloc | apply Kd.R_drewN | apply Kd.R_drew)); exact HO546.out) hb); have n2_ := Aside0.mk (below_step (by repeat (first | (with_reducible first | exact HB.out | apply below_alloc | apply pw_below_drewN | apply below_drew1) | exact HB.out)) hb); have n3_ := Aside0.mk (hbox); have n4_ := Aside0.mk ((by rw [hg]; exact (below_size (by repeat (first | (with_reducible first | exact HB.out | apply below_alloc | apply pw_below_drewN | apply below_drew1) | exact HB.out))) : w.heap.size ≤ gb549)); have n5_ := Aside0.mk ((by rw [hg]; exact (below_size (by repeat (first | (with_reducible first | exact HB.out | apply below_alloc | apply pw_below_drewN | apply below_drew1) | exact HB.out))) : w.heap.size ≤ gb549)); clear HO543; clear HO546; clear HB; have HO543 := n0_; have HO546 := n1_; have HB := n2_; have BK549 := n3_; have GW549 := n4_; have GE549 := n5_; clear n0_ n1_ n2_ n3_ n4_ n5_; clear hb hbox hg; have hcz32_0 : w31.cell? ⟨gb549, 0, none⟩ = some (.int .i64 0) := (blk_cell BK549.out 0).trans rfl; have hcz32_1 : w31.cell? ⟨gb549, 1, none⟩ = some (.int .i64 0) := (blk_cell BK549.out 1).trans rfl; have hcz32_2 : w31.cell? ⟨gb549, 2, none⟩ = some (.int .i64 0) := (blk_cell BK549.out 2).trans rfl; have hcz32_3 : w31.cell? ⟨gb549, 3, none⟩ = some (.int .i64 0) := (blk_cell BK549.out 3).trans rfl; have hcz32_4 : w31.cell? ⟨gb549, 4, none⟩ = some (.int .i64 0) := (blk_cell BK549.out 4).trans rfl; have hcz32_5 : w31.cell? ⟨gb549, 5, none⟩ = some (.int .i64 0) := (blk_cell BK549.out 5).trans rfl; have hcz32_6 : w31.cell? ⟨gb549, 6, none⟩ = some (.slice none 0 0) := (blk_cell BK549.out 6).trans rfl; have hcz32_7 : w31.cell? ⟨gb549, 7, none⟩ = some (.slice none 0 0) := (blk_cell BK549.out 7).trans rfl; have hfz32_0 := blk_frozen BK549.out 0; have hfz32_1 := blk_frozen BK549.out 1; have hfz32_2 := blk_frozen BK549.out 2; have hfz32_3 := blk_frozen BK549.out 3; have hfz32_4 := blk_frozen BK549.out 4; have hfz32_5 := blk_frozen BK549.out 5; have hfz32_6 := blk_frozen BK549.out 6; have hfz32_7 := blk_frozen BK549.out 7; obtain ⟨Ao33, co33, eo33⟩ := Kd.R_slice HO543.out; subst eo33; obtain ⟨Ao34, co34, eo34⟩ := Kd.R_slice HO546.out; subst eo34))
        have n0_ : Aside0 (Kd.R (Kd.int .i64) 3 ((((((((w31.setCell ⟨gb549, 0, none⟩ (.int .i64 t535)).setCell ⟨gb549, 1, none⟩ (.int .i64 t536)).setCell ⟨gb549, 2, none⟩ (.int .i64 t537)).setCell ⟨gb549, 3, none⟩ (.int .i64 t538)).setCell ⟨gb549, 4, none⟩ (.int .i64 t539)).setCell ⟨gb549, 5, none⟩ (.int .i64 t540)).setCell ⟨gb549, 6, none⟩ (.slice Ao33 t541.length co33)).setCell ⟨gb549, 7, none⟩ (.slice Ao34 t544.length co34)) w.heap.size (fun k_ => some k_ ≠ (.slice Ao34 t544.length co34 : Value).ownBlock) (.slice Ao33 t541.length co33) t541) := ⟨by (with_reducible repeat (first | apply Kd.R_alloc | apply Kd.R_drewN | apply Kd.R_drew)); exact Kd.R_mono (Kd.R_far (p := ⟨gb549, 7, none⟩) (Kd.R_far (p := ⟨gb549, 6, none⟩) (Kd.R_far (p := ⟨gb549, 5, none⟩) (Kd.R_far (p := ⟨gb549, 4, none⟩) (Kd.R_far (p := ⟨gb549, 3, none⟩) (Kd.R_far (p := ⟨gb549, 2, none⟩) (Kd.R_far (p := ⟨gb549, 1, none⟩) (Kd.R_far (p := ⟨gb549, 0, none⟩) (Kd.R_types HO543.out BK549.out (by decide)) (fun _ hk => hk.2) (.int .i64 t535)) (fun _ hk => hk.2) (.int .i64 t536)) (fun _ hk => hk.2) (.int .i64 t537)) (fun _ hk => hk.2) (.int .i64 t538)) (fun _ hk => hk.2) (.int .i64 t539)) (fun _ hk => hk.2) (.int .i64 t540)) (fun _ hk => hk.2) (.slice Ao33 t541.length co33)) (fun _ hk => hk.2) (.slice Ao34 t544.length co34)) (fun _ hk => hk.1)⟩
        have n1_ : Aside0 (Kd.R (Kd.int .i64) 3 ((((((((w31.setCell ⟨gb549, 0, none⟩ (.int .i64 t535)).setCell ⟨gb549, 1, none⟩ (.int .i64 t536)).setCell ⟨gb549, 2, none⟩ (.int .i64 t537)).setCell ⟨gb549, 3, none⟩ (.int .i64 t538)).setCell ⟨gb549, 4, none⟩ (.int .i64 t539)).setCell ⟨gb549, 5, none⟩ (.int .i64 t540)).setCell ⟨gb549, 6, none⟩ (.slice Ao33 t541.length co33)).setCell ⟨gb549, 7, none⟩ (.slice Ao34 t544.length co34)) w.heap.size (fun k_ => some k_ ≠ (.slice Ao33 t541.length co33 : Value).ownBlock) (.slice Ao34 t544.length co34) t544) := ⟨by (with_reducible repeat (first | apply Kd.R_alloc | apply Kd.R_drewN | apply Kd.R_drew)); exact Kd.R_mono (Kd.R_far (p := ⟨gb549, 7, none⟩) (Kd.R_far (p := ⟨gb549, 6, none⟩) (Kd.R_far (p := ⟨gb549, 5, none⟩) (Kd.R_far (p := ⟨gb549, 4, none⟩) (Kd.R_far (p := ⟨gb549, 3, none⟩) (Kd.R_far (p := ⟨gb549, 2, none⟩) (Kd.R_far (p := ⟨gb549, 1, none⟩) (Kd.R_far (p := ⟨gb549, 0, none⟩) (Kd.R_types HO546.out BK549.out (by decide)) (fun _ hk => hk.2) (.int .i64 t535)) (fun _ hk => hk.2) (.int .i64 t536)) (fun _ hk => hk.2) (.int .i64 t537)) (fun _ hk => hk.2) (.int .i64 t538)) (fun _ hk => hk.2) (.int .i64 t539)) (fun _ hk => hk.2) (.int .i64 t540)) (fun _ hk => hk.2) (.slice Ao33 t541.length co33)) (fun _ hk => hk.2) (.slice Ao34 t544.length co34)) (fun _ hk => hk.1)⟩
        have n2_ : Aside0 (((((((((w31.setCell ⟨gb549, 0, none⟩ (.int .i64 t535)).setCell ⟨gb549, 1, none⟩ (.int .i64 t536)).setCell ⟨gb549, 2, none⟩ (.int .i64 t537)).setCell ⟨gb549, 3, none⟩ (.int .i64 t538)).setCell ⟨gb549, 4, none⟩ (.int .i64 t539)).setCell ⟨gb549, 5, none⟩ (.int .i64 t540)).setCell ⟨gb549, 6, none⟩ (.slice Ao33 t541.length co33)).setCell ⟨gb549, 7, none⟩ (.slice Ao34 t544.length co34)).heap[gb549]? = some (.cells #[.int .i64 t535, .int .i64 t536, .int .i64 t537, .int .i64 t538, .int .i64 t539, .int .i64 t540, .slice Ao33 t541.length co33, .slice Ao34 t544.length co34] 35 (0, 0))) := ⟨by (with_reducible repeat (first | refine blk_drewN ?_ _ | refine blk_drew ?_ | refine blk_alloc ?_ _)); refine blk_put (cs := #[.int .i64 t535, .int .i64 t536, .int .i64 t537, .int .i64 t538, .int .i64 t539, .int .i64 t540, .slice Ao33 t541.length co33, .slice none 0 0]) ?_ 7 _ rfl; (with_reducible repeat (first | refine blk_drewN ?_ _ | refine blk_drew ?_ | refine blk_alloc ?_ _)); refine blk_put (cs := #[.int .i64 t535, .int .i64 t536, .int .i64 t537, .int .i64 t538, .int .i64 t539, .int .i64 t540, .slice none 0 0, .slice none 0 0]) ?_ 6 _ rfl; (with_reducible repeat (first | refine blk_drewN ?_ _ | refine blk_drew ?_ | refine blk_alloc ?_ _)); refine blk_put (cs := #[.int .i64 t535, .int .i64 t536, .int .i64 t537, .int .i64 t538, .int .i64 t539, .int .i64 0, .slice none 0 0, .slice none 0 0]) ?_ 5 _ rfl; (with_reducible repeat (first | refine blk_drewN ?_ _ | refine blk_drew ?_ | refine blk_alloc ?_ _)); refine blk_put (cs := #[.int .i64 t535, .int .i64 t536, .int .i64 t537, .int .i64 t538, .int .i64 0, .int .i64 0, .slice none 0 0, .slice none 0 0]) ?_ 4 _ rfl; (with_reducible repeat (first | refine blk_drewN ?_ _ | refine blk_drew ?_ | refine blk_alloc ?_ _)); refine blk_put (cs := #[.int .i64 t535, .int .i64 t536, .int .i64 t537, .int .i64 0, .int .i64 0, .int .i64 0, .slice none 0 0, .slice none 0 0]) ?_ 3 _ rfl; (with_reducible repeat (first | refine blk_drewN ?_ _ | refine blk_drew ?_ | refine blk_alloc ?_ _)); refine blk_put (cs := #[.int .i64 t535, .int .i64 t536, .int .i64 0, .int .i64 0, .int .i64 0, .int .i64 0, .slice none 0 0, .slice none 0 0]) ?_ 2 _ rfl; (with_reducible repeat (first | refine blk_drewN ?_ _ | refine blk_drew ?_ | refine blk_alloc ?_ _)); refine blk_put (cs := #[.int .i64 t535, .int .i64 0, .int .i64 0, .int .i64 0, .int .i64 0, .int .i64 0, .slice none 0 0, .slice none 0 0]) ?_ 1 _ rfl; (with_reducible repeat (first | refine blk_drewN ?_ _ | refine blk_drew ?_ | refine blk_alloc ?_ _)); refine blk_put (cs := #[.int .i64 0, .int .i64 0, .int .i64 0, .int .i64 0, .int .i64 0, .int .i64 0, .slice none 0 0, .slice none 0 0]) ?_ 0 _ rfl; (with_reducible repeat (first | refine blk_drewN ?_ _ | refine blk_drew ?_ | refine blk_alloc ?_ _)); exact BK549.out⟩
        have n3_ : Aside0 (Below w.heap.size w ((((((((w31.setCell ⟨gb549, 0, none⟩ (.int .i64 t535)).setCell ⟨gb549, 1, none⟩ (.int .i64 t536)).setCell ⟨gb549, 2, none⟩ (.int .i64 t537)).setCell ⟨gb549, 3, none⟩ (.int .i64 t538)).setCell ⟨gb549, 4, none⟩ (.int .i64 t539)).setCell ⟨gb549, 5, none⟩ (.int .i64 t540)).setCell ⟨gb549, 6, none⟩ (.slice Ao33 t541.length co33)).setCell ⟨gb549, 7, none⟩ (.slice Ao34 t544.length co34))) := ⟨by repeat (first | (with_reducible first | exact HB.out | apply below_alloc | apply pw_below_drewN | apply below_drew1 | refine below_set ?_ GE549.out) | exact HB.out)⟩
        (try clear HO543)
        (try clear HO546)
        (try clear BK549)
        (try clear HB)
        generalize ((((((((w31.setCell ⟨gb549, 0, none⟩ (.int .i64 t535)).setCell ⟨gb549, 1, none⟩ (.int .i64 t536)).setCell ⟨gb549, 2, none⟩ (.int .i64 t537)).setCell ⟨gb549, 3, none⟩ (.int .i64 t538)).setCell ⟨gb549, 4, none⟩ (.int .i64 t539)).setCell ⟨gb549, 5, none⟩ (.int .i64 t540)).setCell ⟨gb549, 6, none⟩ (.slice Ao33 t541.length co33)).setCell ⟨gb549, 7, none⟩ (.slice Ao34 t544.length co34)) = w35 at n0_ n1_ n2_ n3_ ⊢
        have HO543 := n0_
        have HO546 := n1_
        have BK549 := n2_
        have HB := n3_
        clear n0_ n1_ n2_ n3_
        have n0_ := Aside0.mk (Kd.R_drew HO543.out)
        have n1_ := Aside0.mk (Kd.R_drew HO546.out)
        have n2_ := Aside0.mk (blk_drew BK549.out)
        have n3_ := Aside0.mk (below_drew1 HB.out)
        clear HO543
        clear HO546
        clear BK549
        clear HB
        have HO543 := n0_
        have HO546 := n1_
        have BK549 := n2_
        have HB := n3_
        clear n0_ n1_ n2_ n3_
        refine start_ (n := 18) (S := fun w' => True) (ds := []) #[false, false, false, false, false, false, false, false, false, false, false, false, false, false, false, false, false, false] (by kernel_rfl) rfl rfl trivial (fun hHeld => ?_); refine with_tabW interleavelaw11_EventOnce.tab6 interleavelaw11_EventOnce.bits6 (fun HT_ HW_ => ?_)
        generalize w35.drew = w36 at HO543 HO546 BK549 HB hHeld ⊢
        refine pure_ (i := 0) (N := some 28) (v := ?_) (a' := ?_) #[true, false, false, false, false, false, false, false, false, false, false, false, false, false, false, false, false, false] rfl rfl (any_of HT_.out (by kernel_rfl)) (fun _ _ _ h => h) (Or.inl ⟨by rfl, ?_⟩) ?_ ?_
        rotate_left
        · intro w'
          go_simp
          with_reducible rfl
        rotate_left
        · simp only [Act.put, List.setIfInBounds_toArray, List.set_cons_zero, List.set_cons_succ, i64_w, i32_w]
          rfl
        refine pure_ (i := 1) (N := some 29) (v := ?_) (a' := ?_) #[true, true, false, false, false, false, false, false, false, false, false, false, false, false, false, false, false, false] rfl rfl (any_of HT_.out (by kernel_rfl)) (fun _ _ _ h => h) (Or.inl ⟨by rfl, ?_⟩) ?_ ?_
        rotate_left
        · intro w'
          go_simp
          with_reducible rfl
        rotate_left
        · simp only [Act.put, List.setIfInBounds_toArray, List.set_cons_zero, List.set_cons_succ, i64_w, i32_w]
          rfl
        refine pure_ (i := 2) (N := some 30) (v := ?_) (a' := ?_) #[true, true, true, false, false, false, false, false, false, false, false, false, false, false, false, false, false, false] rfl rfl (any_of HT_.out (by kernel_rfl)) (fun _ _ _ h => h) (Or.inl ⟨by rfl, ?_⟩) ?_ ?_
        rotate_left
        · intro w'
          go_simp
          with_reducible rfl
        rotate_left
        · simp only [Act.put, List.setIfInBounds_toArray, List.set_cons_zero, List.set_cons_succ, i64_w, i32_w]
          rfl
        refine pure_ (i := 3) (N := some 31) (v := undef) (a' := ?_) #[true, true, true, true, false, false, false, false, false, false, false, false, false, false, false, false, false, false] rfl rfl (any_of HT_.out (by kernel_rfl)) (fun _ _ _ h => h) (Or.inr ⟨by rfl, rfl⟩) ?_ ?_
        rotate_left
        · simp only [Act.put, List.setIfInBounds_toArray, List.set_cons_zero, List.set_cons_succ, i64_w, i32_w]
          rfl
        refine pure_ (i := 4) (N := some 32) (v := undef) (a' := ?_) #[true, true, true, true, true, false, false, false, false, false, false, false, false, false, false, false, false, false] rfl rfl (any_of HT_.out (by kernel_rfl)) (fun _ _ _ h => h) (Or.inr ⟨by rfl, rfl⟩) ?_ ?_
        rotate_left
        · simp only [Act.put, List.setIfInBounds_toArray, List.set_cons_zero, List.set_cons_succ, i64_w, i32_w]
          rfl
        refine pure_ (i := 5) (N := some 33) (v := undef) (a' := ?_) #[true, true, true, true, true, true, false, false, false, false, false, false, false, false, false, false, false, false] rfl rfl (any_of HT_.out (by kernel_rfl)) (fun _ _ _ h => h) (Or.inr ⟨by rfl, rfl⟩) ?_ ?_
        rotate_left
        · simp only [Act.put, List.setIfInBounds_toArray, List.set_cons_zero, List.set_cons_succ, i64_w, i32_w]
          rfl
        refine pure_ (i := 6) (N := some 34) (v := undef) (a' := ?_) #[true, true, true, true, true, true, true, false, false, false, false, false, false, false, false, false, false, false] rfl rfl (any_of HT_.out (by kernel_rfl)) (fun _ _ _ h => h) (Or.inr ⟨by rfl, rfl⟩) ?_ ?_
        rotate_left
        · simp only [Act.put, List.setIfInBounds_toArray, List.set_cons_zero, List.set_cons_succ, i64_w, i32_w]
          rfl
        refine pure_ (i := 7) (N := some 35) (v := ?_) (a' := ?_) #[true, true, true, true, true, true, true, true, false, false, false, false, false, false, false, false, false, false] rfl rfl (any_of HT_.out (by kernel_rfl)) (fun _ _ _ h => h) (Or.inl ⟨by rfl, ?_⟩) ?_ ?_
        rotate_left
        · intro w'
          go_simp
          with_reducible rfl
        rotate_left
        · simp only [Act.put, List.setIfInBounds_toArray, List.set_cons_zero, List.set_cons_succ, i64_w, i32_w]
          rfl
        refine pure_ (i := 8) (N := some 36) (v := ?_) (a' := ?_) #[true, true, true, true, true, true, true, true, true, false, false, false, false, false, false, false, false, false] rfl rfl (any_of HT_.out (by kernel_rfl)) (fun _ _ _ h => h) (Or.inl ⟨by rfl, ?_⟩) ?_ ?_
        rotate_left
        · intro w'
          go_simp
          with_reducible rfl
        rotate_left
        · simp only [Act.put, List.setIfInBounds_toArray, List.set_cons_zero, List.set_cons_succ, i64_w, i32_w]
          rfl
        refine pure_ (i := 9) (N := some 37) (v := undef) (a' := ?_) #[true, true, true, true, true, true, true, true, true, true, false, false, false, false, false, false, false, false] rfl rfl (any_of HT_.out (by kernel_rfl)) (fun _ _ _ h => h) (Or.inr ⟨by rfl, rfl⟩) ?_ ?_
        rotate_left
        · simp only [Act.put, List.setIfInBounds_toArray, List.set_cons_zero, List.set_cons_succ, i64_w, i32_w]
          rfl
        refine pure_ (i := 10) (N := some 38) (v := undef) (a' := ?_) #[true, true, true, true, true, true, true, true, true, true, true, false, false, false, false, false, false, false] rfl rfl (any_of HT_.out (by kernel_rfl)) (fun _ _ _ h => h) (Or.inr ⟨by rfl, rfl⟩) ?_ ?_
        rotate_left
        · simp only [Act.put, List.setIfInBounds_toArray, List.set_cons_zero, List.set_cons_succ, i64_w, i32_w]
          rfl
        refine pure_ (i := 11) (N := some 39) (v := undef) (a' := ?_) #[true, true, true, true, true, true, true, true, true, true, true, true, false, false, false, false, false, false] rfl rfl (any_of HT_.out (by kernel_rfl)) (fun _ _ _ h => h) (Or.inr ⟨by rfl, rfl⟩) ?_ ?_
        rotate_left
        · simp only [Act.put, List.setIfInBounds_toArray, List.set_cons_zero, List.set_cons_succ, i64_w, i32_w]
          rfl
        refine pure_ (i := 12) (N := some 40) (v := undef) (a' := ?_) #[true, true, true, true, true, true, true, true, true, true, true, true, true, false, false, false, false, false] rfl rfl (any_of HT_.out (by kernel_rfl)) (fun _ _ _ h => h) (Or.inr ⟨by rfl, rfl⟩) ?_ ?_
        rotate_left
        · simp only [Act.put, List.setIfInBounds_toArray, List.set_cons_zero, List.set_cons_succ, i64_w, i32_w]
          rfl
        refine pure_ (i := 13) (N := some 41) (v := undef) (a' := ?_) #[true, true, true, true, true, true, true, true, true, true, true, true, true, true, false, false, false, false] rfl rfl (any_of HT_.out (by kernel_rfl)) (fun _ _ _ h => h) (Or.inr ⟨by rfl, rfl⟩) ?_ ?_
        rotate_left
        · simp only [Act.put, List.setIfInBounds_toArray, List.set_cons_zero, List.set_cons_succ, i64_w, i32_w]
          rfl
        refine pure_ (i := 14) (N := some 42) (v := undef) (a' := ?_) #[true, true, true, true, true, true, true, true, true, true, true, true, true, true, true, false, false, false] rfl rfl (any_of HT_.out (by kernel_rfl)) (fun _ _ _ h => h) (Or.inr ⟨by rfl, rfl⟩) ?_ ?_
        rotate_left
        · simp only [Act.put, List.setIfInBounds_toArray, List.set_cons_zero, List.set_cons_succ, i64_w, i32_w]
          rfl
        refine pure_ (i := 15) (N := some 43) (v := undef) (a' := ?_) #[true, true, true, true, true, true, true, true, true, true, true, true, true, true, true, true, false, false] rfl rfl (any_of HT_.out (by kernel_rfl)) (fun _ _ _ h => h) (Or.inr ⟨by rfl, rfl⟩) ?_ ?_
        rotate_left
        · simp only [Act.put, List.setIfInBounds_toArray, List.set_cons_zero, List.set_cons_succ, i64_w, i32_w]
          rfl
        refine pure_ (i := 16) (N := some 44) (v := ?_) (a' := ?_) #[true, true, true, true, true, true, true, true, true, true, true, true, true, true, true, true, true, false] rfl rfl (any_of HT_.out (by kernel_rfl)) (fun _ _ _ h => h) (Or.inl ⟨by rfl, ?_⟩) ?_ ?_
        rotate_left
        · intro w'
          go_simp
          with_reducible rfl
        rotate_left
        · simp only [Act.put, List.setIfInBounds_toArray, List.set_cons_zero, List.set_cons_succ, i64_w, i32_w]
          rfl
        refine pure_ (i := 17) (N := some 6) (v := ?_) (a' := ?_) #[true, true, true, true, true, true, true, true, true, true, true, true, true, true, true, true, true, true] rfl rfl (any_of HT_.out (by kernel_rfl)) (fun _ _ _ h => h) (Or.inl ⟨by rfl, ?_⟩) ?_ ?_
        rotate_left
        · intro w'
          go_simp
          with_reducible rfl
        rotate_left
        · simp only [Act.put, List.setIfInBounds_toArray, List.set_cons_zero, List.set_cons_succ, i64_w, i32_w]
          rfl
        refine done_ (done_of HT_.out (by kernel_rfl)) ?_
        try go_wp2
        go_ret
        exact ⟨by first | rfl | (simp [errW_none, errW_some] <;> rfl) | (simp [*, errW_none, errW_some] <;> rfl), by repeat (first | (with_reducible first | exact HB.out | apply below_alloc | apply pw_below_drewN | apply below_drew1 | refine below_set ?_ GE549.out) | exact HB.out)⟩
    · rw [if_neg c6] at H
      have c6b0 : (t548 == 0) = false := beq_eq_false_iff_ne.mpr c6
      have c6b1 : (t548 != 0) = true := bne_iff_ne.mpr c6
      by_cases c37 : t547 = 0
      · rw [if_pos c37] at H
        have c37b0 : (t547 == 0) = true := beq_iff_eq.mpr c37
        have c37b1 : (t547 != 0) = false := bne_eq_false_iff_eq.mpr c37
        clear c37
        replace H := Option.bind_eq_some_iff.mp H
        obtain ⟨t555, A380, H⟩ := H
        replace H : (some t555) = some r := H
        have A38 := Aside0.mk A380
        clear A380
        obtain rfl := Option.some.inj H
        go_enter Try.func20, Try.ntmps20
        go_wp2_with (first | ((with_reducible refine gate_callee (f := 42) rfl ?_); refine goesL_ (some 17) rfl rfl Try.func42 (by kernel_rfl) rfl #[.slice A0 l0.length c0, .int .i64 a1, .int .i64 a2] rfl (by (try simp only [List.map_toArray, List.map_cons, List.map_nil]); first | done | rfl | (simp only [List.length_drop, List.length_take]; rfl)) ?_; (with_reducible refine (event_Read.calls k _ _ l0 a1 a2 t535 t536 t537 t538 t539 t540 t541 t544 t547 t548 _ ?side1 ?side2 A5.out).mono ?_); (case side1 => repeat (first | exact HR0.out | (with_reducible refine Kd.C_alloc ?_ _) | (with_reducible refine Kd.C_drewN ?_ _) | (with_reducible refine Kd.C_drew ?_))); (case side2 => exact HC0.out); rintro e w39 ⟨v542, v545, rfl, ho0, ho1, hb⟩; refine ⟨_, rfl, ?_⟩; have n0_ := Aside0.mk (Kd.R_lower ho0 (below_size (by repeat (first | (with_reducible first | exact HB.out | apply below_alloc | apply pw_below_drewN | apply below_drew1) | exact HB.out)))); have n1_ := Aside0.mk (Kd.R_lower ho1 (below_size (by repeat (first | (with_reducible first | exact HB.out | apply below_alloc | apply pw_below_drewN | apply below_drew1) | exact HB.out)))); have n2_ := Aside0.mk (below_step (by repeat (first | (with_reducible first | exact HB.out | apply below_alloc | apply pw_below_drewN | apply below_drew1) | exact HB.out)) hb); clear HB; have HO543 := n0_; have HO546 := n1_; have HB := n2_; clear n0_ n1_ n2_; (try clear hb); (try clear hb2); (try clear hk); (try clear hi); (try clear ho0); (try clear ho1)) | ((with_reducible refine gate_dst (N := 7) rfl ?_); (try (refine gate_guard (by rfl) ?_; dsimp only)); refine box_event ?hg (N := 7) ?hd (cs := #[.int .i64 0, .int .i64 0, .int .i64 0, .int .i64 0, .int .i64 0, .int .i64 0, .slice none 0 0, .slice none 0 0]) (t := 35) ?hr ?_; (case hd => rfl); (case hg => rfl); (case hr => first | (go_simp; done) | (go_simp; rfl)); intro gb549 hg w40 hbox hb; have n0_ := Aside0.mk (Kd.R_below (by (with_reducible repeat (first | apply Kd.R_alloc | apply Kd.R_drewN | apply Kd.R_drew)); exact HO543.out) hb); have n1_ := Aside0.mk (Kd.R_below (by (with_reducible repeat (first | apply Kd.R_alloc | apply Kd.R_drewN | apply Kd.R_drew)); exact HO546.out) hb); have n2_ := Aside0.mk (below_step (by repeat (first | (with_reducible first | exact HB.out | apply below_alloc | apply pw_below_drewN | apply below_drew1) | exact HB.out)) hb); have n3_ := Aside0.mk (hbox); have n4_ := Aside0.mk ((by rw [hg]; exact (below_size (by repeat (first | (with_reducible first | exact HB.out | apply below_alloc | apply pw_below_drewN | apply below_drew1) | exact HB.out))) : w.heap.size ≤ gb549)); have n5_ := Aside0.mk ((by rw [hg]; exact (below_size (by repeat (first | (with_reducible first | exact HB.out | apply below_alloc | apply pw_below_drewN | apply below_drew1) | exact HB.out))) : w.heap.size ≤ gb549)); clear HO543; clear HO546; clear HB; have HO543 := n0_; have HO546 := n1_; have HB := n2_; have BK549 := n3_; have GW549 := n4_; have GE549 := n5_; clear n0_ n1_ n2_ n3_ n4_ n5_; clear hb hbox hg; have hcz41_0 : w40.cell? ⟨gb549, 0, none⟩ = some (.int .i64 0) := (blk_cell BK549.out 0).trans rfl; have hcz41_1 : w40.cell? ⟨gb549, 1, none⟩ = some (.int .i64 0) := (blk_cell BK549.out 1).trans rfl; have hcz41_2 : w40.cell? ⟨gb549, 2, none⟩ = some (.int .i64 0) := (blk_cell BK549.out 2).trans rfl; have hcz41_3 : w40.cell? ⟨gb549, 3, none⟩ = some (.int .i64 0) := (blk_cell BK549.out 3).trans rfl; have hcz41_4 : w40.cell? ⟨gb549, 4, none⟩ = some (.int .i64 0) := (blk_cell BK549.out 4).trans rfl; have hcz41_5 : w40.cell? ⟨gb549, 5, none⟩ = some (.int .i64 0) := (blk_cell BK549.out 5).trans rfl; have hcz41_6 : w40.cell? ⟨gb549, 6, none⟩ = some (.slice none 0 0) := (blk_cell BK549.out 6).trans rfl; have hcz41_7 : w40.cell? ⟨gb549, 7, none⟩ = some (.slice none 0 0) := (blk_cell BK549.out 7).trans rfl; have hfz41_0 := blk_frozen BK549.out 0; have hfz41_1 := blk_frozen BK549.out 1; have hfz41_2 := blk_frozen BK549.out 2; have hfz41_3 := blk_frozen BK549.out 3; have hfz41_4 := blk_frozen BK549.out 4; have hfz41_5 := blk_frozen BK549.out 5; have hfz41_6 := blk_frozen BK549.out 6; have hfz41_7 := blk_frozen BK549.out 7; obtain ⟨Ao42, co42, eo42⟩ := Kd.R_slice HO543.out; subst eo42; obtain ⟨Ao43, co43, eo43⟩ := Kd.R_slice HO546.out; subst eo43) | (go_at_call 35; (with_reducible refine (interleavelaw11_awake.calls k  t555 _ A38.out).mono ?_); rintro e w44 ⟨rfl, hb⟩; have n0_ := Aside0.mk (Kd.R_below (by (with_reducible repeat (first | apply Kd.R_alloc | apply Kd.R_drewN | apply Kd.R_drew)); exact (Kd.R_mono (Kd.R_far (p := ⟨gb549, 7, none⟩) (Kd.R_far (p := ⟨gb549, 6, none⟩) (Kd.R_far (p := ⟨gb549, 5, none⟩) (Kd.R_far (p := ⟨gb549, 4, none⟩) (Kd.R_far (p := ⟨gb549, 3, none⟩) (Kd.R_far (p := ⟨gb549, 2, none⟩) (Kd.R_far (p := ⟨gb549, 1, none⟩) (Kd.R_far (p := ⟨gb549, 0, none⟩) (Kd.R_types HO543.out BK549.out (by decide)) (fun _ hk => hk.2) (.int .i64 t535)) (fun _ hk => hk.2) (.int .i64 t536)) (fun _ hk => hk.2) (.int .i64 t537)) (fun _ hk => hk.2) (.int .i64 t538)) (fun _ hk => hk.2) (.int .i64 t539)) (fun _ hk => hk.2) (.int .i64 t540)) (fun _ hk => hk.2) (.slice Ao42 t541.length co42)) (fun _ hk => hk.2) (.slice Ao43 t544.length co43)) (fun _ h_ => h_.1))) hb); have n1_ := Aside0.mk (Kd.R_below (by (with_reducible repeat (first | apply Kd.R_alloc | apply Kd.R_drewN | apply Kd.R_drew)); exact (Kd.R_mono (Kd.R_far (p := ⟨gb549, 7, none⟩) (Kd.R_far (p := ⟨gb549, 6, none⟩) (Kd.R_far (p := ⟨gb549, 5, none⟩) (Kd.R_far (p := ⟨gb549, 4, none⟩) (Kd.R_far (p := ⟨gb549, 3, none⟩) (Kd.R_far (p := ⟨gb549, 2, none⟩) (Kd.R_far (p := ⟨gb549, 1, none⟩) (Kd.R_far (p := ⟨gb549, 0, none⟩) (Kd.R_types HO546.out BK549.out (by decide)) (fun _ hk => hk.2) (.int .i64 t535)) (fun _ hk => hk.2) (.int .i64 t536)) (fun _ hk => hk.2) (.int .i64 t537)) (fun _ hk => hk.2) (.int .i64 t538)) (fun _ hk => hk.2) (.int .i64 t539)) (fun _ hk => hk.2) (.int .i64 t540)) (fun _ hk => hk.2) (.slice Ao42 t541.length co42)) (fun _ hk => hk.2) (.slice Ao43 t544.length co43)) (fun _ h_ => h_.1))) hb); have n2_ := Aside0.mk (blk_below (g := gb549) (o := .cells #[.int .i64 t535, .int .i64 t536, .int .i64 t537, .int .i64 t538, .int .i64 t539, .int .i64 t540, .slice Ao42 t541.length co42, .slice Ao43 t544.length co43] 35 (0, 0)) (by (with_reducible repeat (first | refine blk_drewN ?_ _ | refine blk_drew ?_ | refine blk_alloc ?_ _)); refine blk_put (cs := #[.int .i64 t535, .int .i64 t536, .int .i64 t537, .int .i64 t538, .int .i64 t539, .int .i64 t540, .slice Ao42 t541.length co42, .slice none 0 0]) ?_ 7 _ rfl; (with_reducible repeat (first | refine blk_drewN ?_ _ | refine blk_drew ?_ | refine blk_alloc ?_ _)); refine blk_put (cs := #[.int .i64 t535, .int .i64 t536, .int .i64 t537, .int .i64 t538, .int .i64 t539, .int .i64 t540, .slice none 0 0, .slice none 0 0]) ?_ 6 _ rfl; (with_reducible repeat (first | refine blk_drewN ?_ _ | refine blk_drew ?_ | refine blk_alloc ?_ _)); refine blk_put (cs := #[.int .i64 t535, .int .i64 t536, .int .i64 t537, .int .i64 t538, .int .i64 t539, .int .i64 0, .slice none 0 0, .slice none 0 0]) ?_ 5 _ rfl; (with_reducible repeat (first | refine blk_drewN ?_ _ | refine blk_drew ?_ | refine blk_alloc ?_ _)); refine blk_put (cs := #[.int .i64 t535, .int .i64 t536, .int .i64 t537, .int .i64 t538, .int .i64 0, .int .i64 0, .slice none 0 0, .slice none 0 0]) ?_ 4 _ rfl; (with_reducible repeat (first | refine blk_drewN ?_ _ | refine blk_drew ?_ | refine blk_alloc ?_ _)); refine blk_put (cs := #[.int .i64 t535, .int .i64 t536, .int .i64 t537, .int .i64 0, .int .i64 0, .int .i64 0, .slice none 0 0, .slice none 0 0]) ?_ 3 _ rfl; (with_reducible repeat (first | refine blk_drewN ?_ _ | refine blk_drew ?_ | refine blk_alloc ?_ _)); refine blk_put (cs := #[.int .i64 t535, .int .i64 t536, .int .i64 0, .int .i64 0, .int .i64 0, .int .i64 0, .slice none 0 0, .slice none 0 0]) ?_ 2 _ rfl; (with_reducible repeat (first | refine blk_drewN ?_ _ | refine blk_drew ?_ | refine blk_alloc ?_ _)); refine blk_put (cs := #[.int .i64 t535, .int .i64 0, .int .i64 0, .int .i64 0, .int .i64 0, .int .i64 0, .slice none 0 0, .slice none 0 0]) ?_ 1 _ rfl; (with_reducible repeat (first | refine blk_drewN ?_ _ | refine blk_drew ?_ | refine blk_alloc ?_ _)); refine blk_put (cs := #[.int .i64 0, .int .i64 0, .int .i64 0, .int .i64 0, .int .i64 0, .int .i64 0, .slice none 0 0, .slice none 0 0]) ?_ 0 _ rfl; (with_reducible repeat (first | refine blk_drewN ?_ _ | refine blk_drew ?_ | refine blk_alloc ?_ _)); exact BK549.out) hb); have n3_ := Aside0.mk (below_step (by repeat (first | (with_reducible first | exact HB.out | apply below_alloc | apply pw_below_drewN | apply below_drew1 | refine below_set ?_ GE549.out) | exact HB.out)) hb); clear HO543; clear HO546; clear BK549; clear HB; have HO543 := n0_; have HO546 := n1_; have BK549 := n2_; have HB := n3_; clear n0_ n1_ n2_ n3_; (try clear hb); (try clear hb2); (try clear hk); (try clear hi)))
        go_ret
        exact ⟨by first | rfl | (simp [errW_none, errW_some] <;> rfl) | (simp [*, errW_none, errW_some] <;> rfl), by repeat (first | (with_reducible first | exact HB.out | apply below_alloc | apply pw_below_drewN | apply below_drew1 | refine below_set ?_ GE549.out) | exact HB.out)⟩
      · rw [if_neg c37] at H
        have c37b0 : (t547 == 0) = false := beq_eq_false_iff_ne.mpr c37
        have c37b1 : (t547 != 0) = true := bne_iff_ne.mpr c37
        obtain rfl := Option.some.inj H
        go_enter Try.func20, Try.ntmps20
        go_wp2_with (first | ((with_reducible refine gate_callee (f := 42) rfl ?_); refine goesL_ (some 17) rfl rfl Try.func42 (by kernel_rfl) rfl #[.slice A0 l0.length c0, .int .i64 a1, .int .i64 a2] rfl (by (try simp only [List.map_toArray, List.map_cons, List.map_nil]); first | done | rfl | (simp only [List.length_drop, List.length_take]; rfl)) ?_; (with_reducible refine (event_Read.calls k _ _ l0 a1 a2 t535 t536 t537 t538 t539 t540 t541 t544 t547 t548 _ ?side1 ?side2 A5.out).mono ?_); (case side1 => repeat (first | exact HR0.out | (with_reducible refine Kd.C_alloc ?_ _) | (with_reducible refine Kd.C_drewN ?_ _) | (with_reducible refine Kd.C_drew ?_))); (case side2 => exact HC0.out); rintro e w45 ⟨v542, v545, rfl, ho0, ho1, hb⟩; refine ⟨_, rfl, ?_⟩; have n0_ := Aside0.mk (Kd.R_lower ho0 (below_size (by repeat (first | (with_reducible first | exact HB.out | apply below_alloc | apply pw_below_drewN | apply below_drew1) | exact HB.out)))); have n1_ := Aside0.mk (Kd.R_lower ho1 (below_size (by repeat (first | (with_reducible first | exact HB.out | apply below_alloc | apply pw_below_drewN | apply below_drew1) | exact HB.out)))); have n2_ := Aside0.mk (below_step (by repeat (first | (with_reducible first | exact HB.out | apply below_alloc | apply pw_below_drewN | apply below_drew1) | exact HB.out)) hb); clear HB; have HO543 := n0_; have HO546 := n1_; have HB := n2_; clear n0_ n1_ n2_; (try clear hb); (try clear hb2); (try clear hk); (try clear hi); (try clear ho0); (try clear ho1)) | ((with_reducible refine gate_dst (N := 7) rfl ?_); (try (refine gate_guard (by rfl) ?_; dsimp only)); refine box_event ?hg (N := 7) ?hd (cs := #[.int .i64 0, .int .i64 0, .int .i64 0, .int .i64 0, .int .i64 0, .int .i64 0, .slice none 0 0, .slice none 0 0]) (t := 35) ?hr ?_; (case hd => rfl); (case hg => rfl); (case hr => first | (go_simp; done) | (go_simp; rfl)); intro gb549 hg w46 hbox hb; have n0_ := Aside0.mk (Kd.R_below (by (with_reducible repeat (first | apply Kd.R_alloc | apply Kd.R_drewN | apply Kd.R_drew)); exact HO543.out) hb); have n1_ := Aside0.mk (Kd.R_below (by (with_reducible repeat (first | apply Kd.R_alloc | apply Kd.R_drewN | apply Kd.R_drew)); exact HO546.out) hb); have n2_ := Aside0.mk (below_step (by repeat (first | (with_reducible first | exact HB.out | apply below_alloc | apply pw_below_drewN | apply below_drew1) | exact HB.out)) hb); have n3_ := Aside0.mk (hbox); have n4_ := Aside0.mk ((by rw [hg]; exact (below_size (by repeat (first | (with_reducible first | exact HB.out | apply below_alloc | apply pw_below_drewN | apply below_drew1) | exact HB.out))) : w.heap.size ≤ gb549)); have n5_ := Aside0.mk ((by rw [hg]; exact (below_size (by repeat (first | (with_reducible first | exact HB.out | apply below_alloc | apply pw_below_drewN | apply below_drew1) | exact HB.out))) : w.heap.size ≤ gb549)); clear HO543; clear HO546; clear HB; have HO543 := n0_; have HO546 := n1_; have HB := n2_; have BK549 := n3_; have GW549 := n4_; have GE549 := n5_; clear n0_ n1_ n2_ n3_ n4_ n5_; clear hb hbox hg; have hcz47_0 : w46.cell? ⟨gb549, 0, none⟩ = some (.int .i64 0) := (blk_cell BK549.out 0).trans rfl; have hcz47_1 : w46.cell? ⟨gb549, 1, none⟩ = some (.int .i64 0) := (blk_cell BK549.out 1).trans rfl; have hcz47_2 : w46.cell? ⟨gb549, 2, none⟩ = some (.int .i64 0) := (blk_cell BK549.out 2).trans rfl; have hcz47_3 : w46.cell? ⟨gb549, 3, none⟩ = some (.int .i64 0) := (blk_cell BK549.out 3).trans rfl; have hcz47_4 : w46.cell? ⟨gb549, 4, none⟩ = some (.int .i64 0) := (blk_cell BK549.out 4).trans rfl; have hcz47_5 : w46.cell? ⟨gb549, 5, none⟩ = some (.int .i64 0) := (blk_cell BK549.out 5).trans rfl; have hcz47_6 : w46.cell? ⟨gb549, 6, none⟩ = some (.slice none 0 0) := (blk_cell BK549.out 6).trans rfl; have hcz47_7 : w46.cell? ⟨gb549, 7, none⟩ = some (.slice none 0 0) := (blk_cell BK549.out 7).trans rfl; have hfz47_0 := blk_frozen BK549.out 0; have hfz47_1 := blk_frozen BK549.out 1; have hfz47_2 := blk_frozen BK549.out 2; have hfz47_3 := blk_frozen BK549.out 3; have hfz47_4 := blk_frozen BK549.out 4; have hfz47_5 := blk_frozen BK549.out 5; have hfz47_6 := blk_frozen BK549.out 6; have hfz47_7 := blk_frozen BK549.out 7; obtain ⟨Ao48, co48, eo48⟩ := Kd.R_slice HO543.out; subst eo48; obtain ⟨Ao49, co49, eo49⟩ := Kd.R_slice HO546.out; subst eo49))
        go_ret
        exact ⟨by first | rfl | (simp [errW_none, errW_some] <;> rfl) | (simp [*, errW_none, errW_some] <;> rfl), by repeat (first | (with_reducible first | exact HB.out | apply below_alloc | apply pw_below_drewN | apply below_drew1 | refine below_set ?_ GE549.out) | exact HB.out)⟩

/-- THE ONE PURE STATEMENT of interleavelaw11_EventOnce: yours. -/
def interleavelaw11_EventOnce.Pure : Prop := ∀ (l0 : List Int) (a1 : Int) (a2 : Int), l0.length ≤ maxLen → l0.length * 1 ≤ 140737488351232 → (∀ x ∈ l0, (Lit.int .u8 x).wf = true) → (Lit.int .i64 a1).wf = true → (Lit.int .i64 a2).wf = true → ∃ k, interleavelaw11_EventOnce.f k l0 a1 a2 = some true
theorem interleavelaw11_EventOnce.walk (P : interleavelaw11_EventOnce.Pure) (a0 : Option Addr) (len0 cap0 : Nat) (z0 : List Int) (a1 : Int) (a2 : Int) (w : World) (w0 : (a0 = none ∧ len0 = 0 ∧ cap0 = 0 ∧ z0 = []) ∨ ∃ x, a0 = some x ∧ len0 ≤ cap0 ∧ cap0 ≤ maxLen ∧ z0.length = cap0 ∧ (∀ i, i < z0.length → w.cell? (x.add i) = some (.int .u8 (z0.getD i 0))) ∧ ∀ n ∈ z0, (Lit.int .u8 n).wf = true) (y0 : len0 * 1 ≤ 140737488351232) (w1 : (Lit.int .i64 a1).wf = true) (w2 : (Lit.int .i64 a2).wf = true) :
    Calls Try.prog 20 #[.slice a0 len0 cap0, .int .i64 a1, .int .i64 a2] w fun e w' => e = .returned (.bool true) ∧ Below w.heap.size w w' := by
  obtain ⟨l0, rfl, hr0, hm0, hw0, hc0⟩ := ReadsInt.ofRowC w0
  obtain ⟨k, h⟩ := P l0 a1 a2 hm0 y0 hw0 w1 w2
  refine (interleavelaw11_EventOnce.calls k _ _ l0 a1 a2 true w (Kd.C_of_reads (d := (0 : Int)) (h1 := fun _ => rfl) hr0) hc0 h).mono ?_
  rintro e w' ⟨rfl, hd⟩
  exact ⟨rfl, hd⟩

end Go.Proofs.Ytkanlkgmiednfaa.A
