/- Made by a program of this session (drv.py) over the kit's printer: plain functions, and the proofs that the program's functions come to their answers. No condition. -/
import Derived.Test.YtkanlkgmiednfaaAx0
import Derived.Test.YtkanlkgmiednfaaAxeventPutInt
namespace Go.Proofs.Ytkanlkgmiednfaa.A
open Go.RowKit Go.Proofs.YtkanlkgmiednfaaW.PrintWords Go.Proofs.YtkanlkgmiednfaaW.PrintLast Go.Proofs.YtkanlkgmiednfaaW.PrintMore
attribute [local go_sem] max2_int min2_int max_two min_two max_three min_three max_four min_four   -- for this text's walks alone
set_option linter.unusedVariables false
set_option linter.unusedSimpArgs false

/-! ### interleavelaw11_awake: function 35 -/
def interleavelaw11_awake.f (k : Nat)  : Option (Bool) := (event_PutInt.f k ([] : List Int) 64).bind fun t182 => (if (t182.length : Int) = 2 then (if 0 < (t182.length : Int) then (if (rd t182 0) = 128 then (if 1 < (t182.length : Int) then (some ((rd t182 1) == 1)) else (none)) else (some false)) else (none)) else (some false))
theorem interleavelaw11_awake.mono : ∀ k, LeO (interleavelaw11_awake.f k ) (interleavelaw11_awake.f (k + 1) ) := by
  intro  k
  unfold interleavelaw11_awake.f
  repeat' first
      | (with_reducible exact event_PutInt.mono _ _ _)
      | (with_reducible exact LeO.refl _)
      | (with_reducible exact LeO.none _)
      | (with_reducible refine LeO.ite ?_ ?_)
      | (with_reducible refine LeO.bind ?_ (fun _ => ?_))
      | exact event_PutInt.mono _ _ _
      | exact LeO.none _
      | refine LeO.ite ?_ ?_
      | refine LeO.bind ?_ (fun _ => ?_)
set_option maxHeartbeats 8000000 in
set_option maxRecDepth 100000 in
theorem interleavelaw11_awake.calls (k : Nat)  (r : Bool) (w : World) (h : interleavelaw11_awake.f k  = some r) :
    Calls Try.prog 35 #[] w fun e w' => e = .returned (.bool r) ∧ Below w.heap.size w w' := by
  have HB := Aside0.mk (Below.refl w.heap.size w)
  have H : ((event_PutInt.f k ([] : List Int) 64).bind fun t182 => (if (t182.length : Int) = 2 then (if 0 < (t182.length : Int) then (if (rd t182 0) = 128 then (if 1 < (t182.length : Int) then (some ((rd t182 1) == 1)) else (none)) else (some false)) else (none)) else (some false))) = some r := h
  clear h
  replace H := Option.bind_eq_some_iff.mp H
  obtain ⟨t182, A10, H⟩ := H
  replace H : (if (t182.length : Int) = 2 then (if 0 < (t182.length : Int) then (if (rd t182 0) = 128 then (if 1 < (t182.length : Int) then (some ((rd t182 1) == 1)) else (none)) else (some false)) else (none)) else (some false)) = some r := H
  have A1 := Aside0.mk A10
  clear A10
  by_cases c2 : (t182.length : Int) = 2
  · rw [if_pos c2] at H
    have c2b0 : ((t182.length : Int) == 2) = true := beq_iff_eq.mpr c2
    have c2b1 : ((t182.length : Int) != 2) = false := bne_eq_false_iff_eq.mpr c2
    clear c2
    by_cases c3 : 0 < (t182.length : Int)
    · rw [if_pos c3] at H
      have c3b0 : decide (0 < (t182.length : Int)) = true := decide_eq_true c3
      have c3b1 : decide (0 < t182.length) = true := decide_eq_true (by omega)
      clear c3
      by_cases c4 : (rd t182 0) = 128
      · rw [if_pos c4] at H
        have c4b0 : ((rd t182 0) == 128) = true := beq_iff_eq.mpr c4
        have c4b1 : ((rd t182 0) != 128) = false := bne_eq_false_iff_eq.mpr c4
        clear c4
        by_cases c5 : 1 < (t182.length : Int)
        · rw [if_pos c5] at H
          have c5b0 : decide (1 < (t182.length : Int)) = true := decide_eq_true c5
          have c5b1 : decide (1 < t182.length) = true := decide_eq_true (by omega)
          clear c5
          obtain rfl := Option.some.inj H
          go_enter Try.func35, Try.ntmps35
          go_wp2_with (first | ((with_reducible refine gate_callee (f := 27) rfl ?_); refine goesL_ (some 2) rfl rfl Try.func27 (by kernel_rfl) rfl #[.slice none 0 0, .int .i64 64] rfl (by (try simp only [List.map_toArray, List.map_cons, List.map_nil]); first | done | rfl | (simp only [List.length_drop, List.length_take]; rfl)) ?_; (refine (event_PutInt.calls k _ _ ([] : List Int) 64 t182 _ ?side1 ?side2 A1.out).mono ?_); (case side1 => exact Kd.C_nil _ _); (case side2 => exact Nat.le_refl _); rintro e w6 ⟨v183, rfl, ho0, hb⟩; refine ⟨_, rfl, ?_⟩; have n0_ := Aside0.mk (Kd.R_lower ho0 (below_size (by repeat (first | (with_reducible first | exact HB.out | apply below_alloc | apply pw_below_drewN | apply below_drew1) | exact HB.out)))); have n1_ := Aside0.mk (below_step (by repeat (first | (with_reducible first | exact HB.out | apply below_alloc | apply pw_below_drewN | apply below_drew1) | exact HB.out)) hb); clear HB; have HO184 := n0_; have HB := n1_; clear n0_ n1_; (try clear hb); (try clear hb2); (try clear hk); (try clear hi); (try clear ho0); obtain ⟨Ao7, co7, eo7⟩ := Kd.R_slice HO184.out; subst eo7; have p185 : 0 ≤ (0 : Int) := (by omega); have q185 : 0 < (t182.length : Int) := of_decide_eq_true (by first | (with_reducible assumption) | assumption); obtain ⟨ad185, e185, hx185_0⟩ := Kd.at_int (Kd.R_reads' HO184.out).2.2 0 p185 q185; cases e185; have qi185 : (0 < t182.length) = True := eq_true (by omega); (try rw [show ((0 : Int)).toNat = 0 from rfl] at hx185_0); (try rw [Addr.add_zero'] at hx185_0); replace p185 := eq_true p185; replace q185 := eq_true q185; have p186 : 0 ≤ (1 : Int) := (by omega); have q186 : 1 < (t182.length : Int) := of_decide_eq_true (by first | (with_reducible assumption) | assumption); obtain ⟨ad186, e186, hx186_0⟩ := Kd.at_int (Kd.R_reads' HO184.out).2.2 1 p186 q186; obtain rfl : ad185 = ad186 := (by injection e186); (try simp only [show (1 : Int).toNat = 1 from rfl, Nat.reduceMul, Nat.reduceEqDiff, Go.Addr.add, ↓reduceIte] at hx186_0); have qi186 : (1 < t182.length) = True := eq_true (by omega); (try rw [show ((1 : Int)).toNat = 1 from rfl] at hx186_0); replace p186 := eq_true p186; replace q186 := eq_true q186))
          go_ret
          exact ⟨by first | rfl | (simp [errW_none, errW_some] <;> rfl) | (simp [*, errW_none, errW_some] <;> rfl), by repeat (first | (with_reducible first | exact HB.out | apply below_alloc | apply pw_below_drewN | apply below_drew1) | exact HB.out)⟩
        · rw [if_neg c5] at H
          exact absurd H (by simp)
      · rw [if_neg c4] at H
        have c4b0 : ((rd t182 0) == 128) = false := beq_eq_false_iff_ne.mpr c4
        have c4b1 : ((rd t182 0) != 128) = true := bne_iff_ne.mpr c4
        obtain rfl := Option.some.inj H
        go_enter Try.func35, Try.ntmps35
        go_wp2_with (first | ((with_reducible refine gate_callee (f := 27) rfl ?_); refine goesL_ (some 2) rfl rfl Try.func27 (by kernel_rfl) rfl #[.slice none 0 0, .int .i64 64] rfl (by (try simp only [List.map_toArray, List.map_cons, List.map_nil]); first | done | rfl | (simp only [List.length_drop, List.length_take]; rfl)) ?_; (refine (event_PutInt.calls k _ _ ([] : List Int) 64 t182 _ ?side1 ?side2 A1.out).mono ?_); (case side1 => exact Kd.C_nil _ _); (case side2 => exact Nat.le_refl _); rintro e w8 ⟨v183, rfl, ho0, hb⟩; refine ⟨_, rfl, ?_⟩; have n0_ := Aside0.mk (Kd.R_lower ho0 (below_size (by repeat (first | (with_reducible first | exact HB.out | apply below_alloc | apply pw_below_drewN | apply below_drew1) | exact HB.out)))); have n1_ := Aside0.mk (below_step (by repeat (first | (with_reducible first | exact HB.out | apply below_alloc | apply pw_below_drewN | apply below_drew1) | exact HB.out)) hb); clear HB; have HO184 := n0_; have HB := n1_; clear n0_ n1_; (try clear hb); (try clear hb2); (try clear hk); (try clear hi); (try clear ho0); obtain ⟨Ao9, co9, eo9⟩ := Kd.R_slice HO184.out; subst eo9; have p185 : 0 ≤ (0 : Int) := (by omega); have q185 : 0 < (t182.length : Int) := of_decide_eq_true (by first | (with_reducible assumption) | assumption); obtain ⟨ad185, e185, hx185_0⟩ := Kd.at_int (Kd.R_reads' HO184.out).2.2 0 p185 q185; cases e185; have qi185 : (0 < t182.length) = True := eq_true (by omega); (try rw [show ((0 : Int)).toNat = 0 from rfl] at hx185_0); (try rw [Addr.add_zero'] at hx185_0); replace p185 := eq_true p185; replace q185 := eq_true q185))
        go_ret
        exact ⟨by first | rfl | (simp [errW_none, errW_some] <;> rfl) | (simp [*, errW_none, errW_some] <;> rfl), by repeat (first | (with_reducible first | exact HB.out | apply below_alloc | apply pw_below_drewN | apply below_drew1) | exact HB.out)⟩
    · rw [if_neg c3] at H
      exact absurd H (by simp)
  · rw [if_neg c2] at H
    have c2b0 : ((t182.length : Int) == 2) = false := beq_eq_false_iff_ne.mpr c2
    have c2b1 : ((t182.length : Int) != 2) = true := bne_iff_ne.mpr c2
    obtain rfl := Option.some.inj H
    go_enter Try.func35, Try.ntmps35
    go_wp2_with (first | ((with_reducible refine gate_callee (f := 27) rfl ?_); refine goesL_ (some 2) rfl rfl Try.func27 (by kernel_rfl) rfl #[.slice none 0 0, .int .i64 64] rfl (by (try simp only [List.map_toArray, List.map_cons, List.map_nil]); first | done | rfl | (simp only [List.length_drop, List.length_take]; rfl)) ?_; (refine (event_PutInt.calls k _ _ ([] : List Int) 64 t182 _ ?side1 ?side2 A1.out).mono ?_); (case side1 => exact Kd.C_nil _ _); (case side2 => exact Nat.le_refl _); rintro e w10 ⟨v183, rfl, ho0, hb⟩; refine ⟨_, rfl, ?_⟩; have n0_ := Aside0.mk (Kd.R_lower ho0 (below_size (by repeat (first | (with_reducible first | exact HB.out | apply below_alloc | apply pw_below_drewN | apply below_drew1) | exact HB.out)))); have n1_ := Aside0.mk (below_step (by repeat (first | (with_reducible first | exact HB.out | apply below_alloc | apply pw_below_drewN | apply below_drew1) | exact HB.out)) hb); clear HB; have HO184 := n0_; have HB := n1_; clear n0_ n1_; (try clear hb); (try clear hb2); (try clear hk); (try clear hi); (try clear ho0); obtain ⟨Ao11, co11, eo11⟩ := Kd.R_slice HO184.out; subst eo11))
    go_ret
    exact ⟨by first | rfl | (simp [errW_none, errW_some] <;> rfl) | (simp [*, errW_none, errW_some] <;> rfl), by repeat (first | (with_reducible first | exact HB.out | apply below_alloc | apply pw_below_drewN | apply below_drew1) | exact HB.out)⟩

end Go.Proofs.Ytkanlkgmiednfaa.A
