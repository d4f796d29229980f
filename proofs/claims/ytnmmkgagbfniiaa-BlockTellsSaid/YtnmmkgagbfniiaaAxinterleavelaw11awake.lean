/- Made by a program of this session (drv.py) over the kit's printer: plain functions, and the proofs that the program's functions come to their answers. No condition. -/
import Derived.Test.YtnmmkgagbfniiaaAx0
import Derived.Test.YtnmmkgagbfniiaaAxeventPutInt
namespace Go.Proofs.Ytnmmkgagbfniiaa.A
open Go.RowKit Go.Proofs.YtnmmkgagbfniiaaW.PrintWords Go.Proofs.YtnmmkgagbfniiaaW.PrintLast Go.Proofs.YtnmmkgagbfniiaaW.PrintMore
attribute [local go_sem] max2_int min2_int max_two min_two max_three min_three max_four min_four   -- for this text's walks alone
set_option linter.unusedVariables false
set_option linter.unusedSimpArgs false

/-! ### interleavelaw11_awake: function 19 -/
def interleavelaw11_awake.f (k : Nat)  : Option (Bool) := (event_PutInt.f k ([] : List Int) 64).bind fun t246 => (if (t246.length : Int) = 2 then (if 0 < (t246.length : Int) then (if (rd t246 0) = 128 then (if 1 < (t246.length : Int) then (some ((rd t246 1) == 1)) else (none)) else (some false)) else (none)) else (some false))
theorem interleavelaw11_awake.mono : ∀ k, LeO (interleavelaw11_awake.f k ) (interleavelaw11_awake.f (k + 1) ) := by
  intro  k
  unfold interleavelaw11_awake.f
  repeat' first
      | (with_reducible exact event_PutInt.mono _ _ _)
      | (with_reducible exact LeO.refl _)
      | (with_reducible exact LeO.none _)
      | (with_reducible refine LeO.ite ?_ ?_)
      | (with_reducible refine LeO.bind ?_ (fun _ => ?_))
      | exact event_PutInt.mono _ _ _
      | exact LeO.none _
      | refine LeO.ite ?_ ?_
      | refine LeO.bind ?_ (fun _ => ?_)
set_option maxHeartbeats 8000000 in
set_option maxRecDepth 100000 in
theorem interleavelaw11_awake.calls (k : Nat)  (r : Bool) (w : World) (h : interleavelaw11_awake.f k  = some r) :
    Calls Try.prog 19 #[] w fun e w' => e = .returned (.bool r) ∧ Below w.heap.size w w' := by
  have HB := Aside0.mk (Below.refl w.heap.size w)
  have H : ((event_PutInt.f k ([] : List Int) 64).bind fun t246 => (if (t246.length : Int) = 2 then (if 0 < (t246.length : Int) then (if (rd t246 0) = 128 then (if 1 < (t246.length : Int) then (some ((rd t246 1) == 1)) else (none)) else (some false)) else (none)) else (some false))) = some r := h
  clear h
  replace H := Option.bind_eq_some_iff.mp H
  obtain ⟨t246, A10, H⟩ := H
  replace H : (if (t246.length : Int) = 2 then (if 0 < (t246.length : Int) then (if (rd t246 0) = 128 then (if 1 < (t246.length : Int) then (some ((rd t246 1) == 1)) else (none)) else (some false)) else (none)) else (some false)) = some r := H
  have A1 := Aside0.mk A10
  clear A10
  by_cases c2 : (t246.length : Int) = 2
  · rw [if_pos c2] at H
    have c2b0 : ((t246.length : Int) == 2) = true := beq_iff_eq.mpr c2
    have c2b1 : ((t246.length : Int) != 2) = false := bne_eq_false_iff_eq.mpr c2
    clear c2
    by_cases c3 : 0 < (t246.length : Int)
    · rw [if_pos c3] at H
      have c3b0 : decide (0 < (t246.length : Int)) = true := decide_eq_true c3
      have c3b1 : decide (0 < t246.length) = true := decide_eq_true (by omega)
      clear c3
      by_cases c4 : (rd t246 0) = 128
      · rw [if_pos c4] at H
        have c4b0 : ((rd t246 0) == 128) = true := beq_iff_eq.mpr c4
        have c4b1 : ((rd t246 0) != 128) = false := bne_eq_false_iff_eq.mpr c4
        clear c4
        by_cases c5 : 1 < (t246.length : Int)
        · rw [if_pos c5] at H
          have c5b0 : decide (1 < (t246.length : Int)) = true := decide_eq_true c5
          have c5b1 : decide (1 < t246.length) = true := decide_eq_true (by omega)
          clear c5
          obtain rfl := Option.some.inj H
          go_enter Try.func19, Try.ntmps19
          go_wp2_with (first | ((with_reducible refine gate_callee (f := 49) rfl ?_); refine goesL_ (some 2) rfl rfl Try.func49 (by kernel_rfl) rfl #[.slice none 0 0, .int .i64 64] rfl (by (try simp only [List.map_toArray, List.map_cons, List.map_nil]); first | done | rfl | (simp only [List.length_drop, List.length_take]; rfl)) ?_; (refine (event_PutInt.calls k _ _ ([] : List Int) 64 t246 _ ?side1 ?side2 A1.out).mono ?_); (case side1 => exact Kd.C_nil _ _); (case side2 => exact Nat.le_refl _); rintro e w6 ⟨v247, rfl, ho0, hb⟩; refine ⟨_, rfl, ?_⟩; have n0_ := Aside0.mk (Kd.R_lower ho0 (below_size (by repeat (first | (with_reducible first | exact HB.out | apply below_alloc | apply pw_below_drewN | apply below_drew1) | exact HB.out)))); have n1_ := Aside0.mk (below_step (by repeat (first | (with_reducible first | exact HB.out | apply below_alloc | apply pw_below_drewN | apply below_drew1) | exact HB.out)) hb); clear HB; have HO248 := n0_; have HB := n1_; clear n0_ n1_; (try clear hb); (try clear hb2); (try clear hk); (try clear hi); (try clear ho0); obtain ⟨Ao7, co7, eo7⟩ := Kd.R_slice HO248.out; subst eo7; have p249 : 0 ≤ (0 : Int) := (by omega); have q249 : 0 < (t246.length : Int) := of_decide_eq_true (by first | (with_reducible assumption) | assumption); obtain ⟨ad249, e249, hx249_0⟩ := Kd.at_int (Kd.R_reads' HO248.out).2.2 0 p249 q249; cases e249; have qi249 : (0 < t246.length) = True := eq_true (by omega); (try rw [show ((0 : Int)).toNat = 0 from rfl] at hx249_0); (try rw [Addr.add_zero'] at hx249_0); replace p249 := eq_true p249; replace q249 := eq_true q249; have p250 : 0 ≤ (1 : Int) := (by omega); have q250 : 1 < (t246.length : Int) := of_decide_eq_true (by first | (with_reducible assumption) | assumption); obtain ⟨ad250, e250, hx250_0⟩ := Kd.at_int (Kd.R_reads' HO248.out).2.2 1 p250 q250; obtain rfl : ad249 = ad250 := (by injection e250); (try simp only [show (1 : Int).toNat = 1 from rfl, Nat.reduceMul, Nat.reduceEqDiff, Go.Addr.add, ↓reduceIte] at hx250_0); have qi250 : (1 < t246.length) = True := eq_true (by omega); (try rw [show ((1 : Int)).toNat = 1 from rfl] at hx250_0); replace p250 := eq_true p250; replace q250 := eq_true q250))
          go_ret
          exact ⟨by first | rfl | (simp [errW_none, errW_some] <;> rfl) | (simp [*, errW_none, errW_some] <;> rfl), by repeat (first | (with_reducible first | exact HB.out | apply below_alloc | apply pw_below_drewN | apply below_drew1) | exact HB.out)⟩
        · rw [if_neg c5] at H
          exact absurd H (by simp)
      · rw [if_neg c4] at H
        have c4b0 : ((rd t246 0) == 128) = false := beq_eq_false_iff_ne.mpr c4
        have c4b1 : ((rd t246 0) != 128) = true := bne_iff_ne.mpr c4
        obtain rfl := Option.some.inj H
        go_enter Try.func19, Try.ntmps19
        go_wp2_with (first | ((with_reducible refine gate_callee (f := 49) rfl ?_); refine goesL_ (some 2) rfl rfl Try.func49 (by kernel_rfl) rfl #[.slice none 0 0, .int .i64 64] rfl (by (try simp only [List.map_toArray, List.map_cons, List.map_nil]); first | done | rfl | (simp only [List.length_drop, List.length_take]; rfl)) ?_; (refine (event_PutInt.calls k _ _ ([] : List Int) 64 t246 _ ?side1 ?side2 A1.out).mono ?_); (case side1 => exact Kd.C_nil _ _); (case side2 => exact Nat.le_refl _); rintro e w8 ⟨v247, rfl, ho0, hb⟩; refine ⟨_, rfl, ?_⟩; have n0_ := Aside0.mk (Kd.R_lower ho0 (below_size (by repeat (first | (with_reducible first | exact HB.out | apply below_alloc | apply pw_below_drewN | apply below_drew1) | exact HB.out)))); have n1_ := Aside0.mk (below_step (by repeat (first | (with_reducible first | exact HB.out | apply below_alloc | apply pw_below_drewN | apply below_drew1) | exact HB.out)) hb); clear HB; have HO248 := n0_; have HB := n1_; clear n0_ n1_; (try clear hb); (try clear hb2); (try clear hk); (try clear hi); (try clear ho0); obtain ⟨Ao9, co9, eo9⟩ := Kd.R_slice HO248.out; subst eo9; have p249 : 0 ≤ (0 : Int) := (by omega); have q249 : 0 < (t246.length : Int) := of_decide_eq_true (by first | (with_reducible assumption) | assumption); obtain ⟨ad249, e249, hx249_0⟩ := Kd.at_int (Kd.R_reads' HO248.out).2.2 0 p249 q249; cases e249; have qi249 : (0 < t246.length) = True := eq_true (by omega); (try rw [show ((0 : Int)).toNat = 0 from rfl] at hx249_0); (try rw [Addr.add_zero'] at hx249_0); replace p249 := eq_true p249; replace q249 := eq_true q249))
        go_ret
        exact ⟨by first | rfl | (simp [errW_none, errW_some] <;> rfl) | (simp [*, errW_none, errW_some] <;> rfl), by repeat (first | (with_reducible first | exact HB.out | apply below_alloc | apply pw_below_drewN | apply below_drew1) | exact HB.out)⟩
    · rw [if_neg c3] at H
      exact absurd H (by simp)
  · rw [if_neg c2] at H
    have c2b0 : ((t246.length : Int) == 2) = false := beq_eq_false_iff_ne.mpr c2
    have c2b1 : ((t246.length : Int) != 2) = true := bne_iff_ne.mpr c2
    obtain rfl := Option.some.inj H
    go_enter Try.func19, Try.ntmps19
    go_wp2_with (first | ((with_reducible refine gate_callee (f := 49) rfl ?_); refine goesL_ (some 2) rfl rfl Try.func49 (by kernel_rfl) rfl #[.slice none 0 0, .int .i64 64] rfl (by (try simp only [List.map_toArray, List.map_cons, List.map_nil]); first | done | rfl | (simp only [List.length_drop, List.length_take]; rfl)) ?_; (refine (event_PutInt.calls k _ _ ([] : List Int) 64 t246 _ ?side1 ?side2 A1.out).mono ?_); (case side1 => exact Kd.C_nil _ _); (case side2 => exact Nat.le_refl _); rintro e w10 ⟨v247, rfl, ho0, hb⟩; refine ⟨_, rfl, ?_⟩; have n0_ := Aside0.mk (Kd.R_lower ho0 (below_size (by repeat (first | (with_reducible first | exact HB.out | apply below_alloc | apply pw_below_drewN | apply below_drew1) | exact HB.out)))); have n1_ := Aside0.mk (below_step (by repeat (first | (with_reducible first | exact HB.out | apply below_alloc | apply pw_below_drewN | apply below_drew1) | exact HB.out)) hb); clear HB; have HO248 := n0_; have HB := n1_; clear n0_ n1_; (try clear hb); (try clear hb2); (try clear hk); (try clear hi); (try clear ho0); obtain ⟨Ao11, co11, eo11⟩ := Kd.R_slice HO248.out; subst eo11))
    go_ret
    exact ⟨by first | rfl | (simp [errW_none, errW_some] <;> rfl) | (simp [*, errW_none, errW_some] <;> rfl), by repeat (first | (with_reducible first | exact HB.out | apply below_alloc | apply pw_below_drewN | apply below_drew1) | exact HB.out)⟩

end Go.Proofs.Ytnmmkgagbfniiaa.A
