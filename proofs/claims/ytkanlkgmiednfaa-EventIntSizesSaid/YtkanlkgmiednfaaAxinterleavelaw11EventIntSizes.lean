/- Made by a program of this session (drv.py) over the kit's printer: plain functions, and the proofs that the program's functions come to their answers. No condition. -/
import Derived.Test.YtkanlkgmiednfaaAx0
import Derived.Test.YtkanlkgmiednfaaAxeventPutInt
namespace Go.Proofs.Ytkanlkgmiednfaa.A
open Go.RowKit Go.Proofs.YtkanlkgmiednfaaW.PrintWords Go.Proofs.YtkanlkgmiednfaaW.PrintLast Go.Proofs.YtkanlkgmiednfaaW.PrintMore
attribute [local go_sem] max2_int min2_int max_two min_two max_three min_three max_four min_four   -- for this text's walks alone
set_option linter.unusedVariables false
set_option linter.unusedSimpArgs false

/-! ### interleavelaw11_EventIntSizes: function 3 -/
def interleavelaw11_EventIntSizes.l0 : Nat → Int → Int → Int → Option (Bool)
  | 0, _, _, _ => none
  | k + 1, x0, x3, x4 => if x4 < 10 then (if 0 ≤ (IntKind.u64.wrap (wrap64 ((wrap64 (7 * x4)) - 1))) then (if x0 ≥ (shl .i64 1 (IntKind.u64.wrap (wrap64 ((wrap64 (7 * x4)) - 1)))) then (interleavelaw11_EventIntSizes.l0 k x0 x3 (wrap64 (x4 + 1))) else (if x0 < (shl .i64 (-1) (IntKind.u64.wrap (wrap64 ((wrap64 (7 * x4)) - 1)))) then (interleavelaw11_EventIntSizes.l0 k x0 x3 (wrap64 (x4 + 1))) else (some (x3 == x4)))) else (none)) else (some (x3 == x4))
def interleavelaw11_EventIntSizes.f (k : Nat) (a0 : Int) : Option (Bool) := (event_PutInt.f k ([] : List Int) a0).bind fun t107 => (interleavelaw11_EventIntSizes.l0 k a0 (t107.length : Int) 1)
theorem interleavelaw11_EventIntSizes.mono_l : ∀ k, (∀ y0 y1 y2, LeO (interleavelaw11_EventIntSizes.l0 k y0 y1 y2) (interleavelaw11_EventIntSizes.l0 (k + 1) y0 y1 y2))
  | 0 => fun _ _ _ r h => by simp [interleavelaw11_EventIntSizes.l0] at h
  | k + 1 => by
    have ih0 := interleavelaw11_EventIntSizes.mono_l k
    · intro y0 y1 y2
      unfold interleavelaw11_EventIntSizes.l0
      repeat' first
      | (with_reducible exact ih0 _ _ _)
      | (with_reducible exact event_PutInt.mono _ _ _)
      | (with_reducible exact LeO.refl _)
      | (with_reducible exact LeO.none _)
      | (with_reducible refine LeO.ite ?_ ?_)
      | (with_reducible refine LeO.bind ?_ (fun _ => ?_))
      | exact ih0 _ _ _
      | exact event_PutInt.mono _ _ _
      | exact LeO.none _
      | refine LeO.ite ?_ ?_
      | refine LeO.bind ?_ (fun _ => ?_)
theorem interleavelaw11_EventIntSizes.mono : ∀ a0 k, LeO (interleavelaw11_EventIntSizes.f k a0) (interleavelaw11_EventIntSizes.f (k + 1) a0) := by
  intro a0 k
  have ih0 := interleavelaw11_EventIntSizes.mono_l k
  unfold interleavelaw11_EventIntSizes.f
  repeat' first
      | (with_reducible exact ih0 _ _ _)
      | (with_reducible exact event_PutInt.mono _ _ _)
      | (with_reducible exact LeO.refl _)
      | (with_reducible exact LeO.none _)
      | (with_reducible refine LeO.ite ?_ ?_)
      | (with_reducible refine LeO.bind ?_ (fun _ => ?_))
      | exact ih0 _ _ _
      | exact event_PutInt.mono _ _ _
      | exact LeO.none _
      | refine LeO.ite ?_ ?_
      | refine LeO.bind ?_ (fun _ => ?_)
set_option maxHeartbeats 8000000 in
set_option maxRecDepth 100000 in
theorem interleavelaw11_EventIntSizes.calls (k : Nat) (a0 : Int) (r : Bool) (w : World) (h : interleavelaw11_EventIntSizes.f k a0 = some r) :
    Calls Try.prog 3 #[.int .i64 a0] w fun e w' => e = .returned (.bool r) ∧ Below w.heap.size w w' := by
  have HB := Aside0.mk (Below.refl w.heap.size w)
  have H : ((event_PutInt.f k ([] : List Int) a0).bind fun t107 => (interleavelaw11_EventIntSizes.l0 k a0 (t107.length : Int) 1)) = some r := h
  clear h
  replace H := Option.bind_eq_some_iff.mp H
  obtain ⟨t107, A20, H⟩ := H
  replace H : (interleavelaw11_EventIntSizes.l0 k a0 (t107.length : Int) 1) = some r := H
  have A2 := Aside0.mk A20
  clear A20
  have H' := Aside0.mk H
  clear H
  go_enter Try.func3, Try.ntmps3
  go_wp2_with (first | ((with_reducible refine gate_callee (f := 27) rfl ?_); refine goesL_ (some 6) rfl rfl Try.func27 (by kernel_rfl) rfl #[.slice none 0 0, .int .i64 a0] rfl (by (try simp only [List.map_toArray, List.map_cons, List.map_nil]); first | done | rfl | (simp only [List.length_drop, List.length_take]; rfl)) ?_; (refine (event_PutInt.calls k _ _ ([] : List Int) a0 t107 _ ?side1 ?side2 A2.out).mono ?_); (case side1 => exact Kd.C_nil _ _); (case side2 => exact Nat.le_refl _); rintro e w3 ⟨v108, rfl, ho0, hb⟩; refine ⟨_, rfl, ?_⟩; have n0_ := Aside0.mk (Kd.R_lower ho0 (below_size (by repeat (first | (with_reducible first | exact HB.out | apply below_alloc | apply pw_below_drewN | apply below_drew1) | exact HB.out)))); have n1_ := Aside0.mk (below_step (by repeat (first | (with_reducible first | exact HB.out | apply below_alloc | apply pw_below_drewN | apply below_drew1) | exact HB.out)) hb); clear HB; have HO109 := n0_; have HB := n1_; clear n0_ n1_; (try clear hb); (try clear hb2); (try clear hk); (try clear hi); (try clear ho0); obtain ⟨Ao4, co4, eo4⟩ := Kd.R_slice HO109.out; subst eo4))
  go_loopg [4] k (fun kq v4 w' => ∃ (x4_1 : Int), v4 = .int .i64 x4_1 ∧ Aside0 (interleavelaw11_EventIntSizes.l0 kq a0 (t107.length : Int) x4_1 = some r) ∧ Aside0 (kq ≤ k) ∧ Aside0 (Below w.heap.size w w'))
  case atStart => exact ⟨(1), (by first | rfl | (simp; done) | (simp [*]; done)), H', ⟨Nat.le_refl _⟩, ⟨by repeat (first | (with_reducible first | exact HB.out | apply below_alloc | apply pw_below_drewN | apply below_drew1) | exact HB.out)⟩⟩
  case round =>
    clear H'
    try clear c2
    try clear p2
    try clear c3
    obtain ⟨x4_1, rfl, HA, HK1, HB⟩ := hrel
    cases gk with
    | zero => exact absurd HA.out (by simp [interleavelaw11_EventIntSizes.l0])
    | succ k1 =>
      have H := HA.out
      clear HA
      simp only [interleavelaw11_EventIntSizes.l0] at H
      by_cases c5 : x4_1 < 10
      · rw [if_pos c5] at H
        have c5b0 : decide (x4_1 < 10) = true := decide_eq_true c5
        clear c5
        obtain ⟨ji6, hji6⟩ : ∃ j_ : Int, (IntKind.u64.wrap (wrap64 ((wrap64 (7 * x4_1)) - 1))) = j_ := ⟨_, rfl⟩
        replace H : (if 0 ≤ (ji6) then (if a0 ≥ (shl .i64 1 (ji6)) then (interleavelaw11_EventIntSizes.l0 k1 a0 (t107.length : Int) (wrap64 (x4_1 + 1))) else (if a0 < (shl .i64 (-1) (ji6)) then (interleavelaw11_EventIntSizes.l0 k1 a0 (t107.length : Int) (wrap64 (x4_1 + 1))) else (some ((t107.length : Int) == x4_1)))) else (none)) = some r := by first | (rw [hji6] at H; exact H) | (simp only [hji6] at H ⊢; exact H)
        by_cases c7 : 0 ≤ (ji6)
        · rw [if_pos c7] at H
          have c7b0 := eq_true c7
          have c7b1 : decide (0 ≤ (ji6)) = true := decide_eq_true c7
          clear c7
          obtain ⟨ji8, hji8⟩ : ∃ j_ : Int, (shl .i64 1 (ji6)) = j_ := ⟨_, rfl⟩
          replace H : (if a0 ≥ (ji8) then (interleavelaw11_EventIntSizes.l0 k1 a0 (t107.length : Int) (wrap64 (x4_1 + 1))) else (if a0 < (shl .i64 (-1) (ji6)) then (interleavelaw11_EventIntSizes.l0 k1 a0 (t107.length : Int) (wrap64 (x4_1 + 1))) else (some ((t107.length : Int) == x4_1)))) = some r := by first | (rw [hji8] at H; exact H) | (simp only [hji8] at H ⊢; exact H)
          have hji8_ : (IntKind.i64.wrap (1 * 2 ^ min (ji6).toNat 64)) = ji8 := hji8
          have hji8z : (ji6) ≤ 64 → (IntKind.i64.wrap (1 * 2 ^ (ji6).toNat)) = ji8 := shl_small hji8
          have hji8u : (IntKind.i64.wrap (2 ^ min (ji6).toNat 64)) = ji8 := by have h_ := hji8_; rw [Int.one_mul] at h_; exact h_
          have hji8v : (ji6) ≤ 64 → (IntKind.i64.wrap (2 ^ (ji6).toNat)) = ji8 := fun hle_ => by have h_ := hji8z hle_; rw [Int.one_mul] at h_; exact h_
          have hji8y : (wrap64 (1 * 2 ^ min (ji6).toNat 64)) = ji8 := (i64_w _).symm.trans hji8_
          have hji8x : (ji6) ≤ 64 → (wrap64 (1 * 2 ^ (ji6).toNat)) = ji8 := fun h_ => (i64_w _).symm.trans (hji8z h_)
          by_cases c9 : a0 ≥ (ji8)
          · rw [if_pos c9] at H
            have c9b0 : decide ((ji8) ≤ a0) = true := decide_eq_true c9
            clear c9
            have H' := Aside0.mk H
            clear H
            go_wp2
            go_roundg k1
            case measure => have := HK1.out; omega
            case rel => exact ⟨(wrap64 (x4_1 + 1)), (by first | rfl | (simp; done) | (simp [*]; done)), H', ⟨by have := HK1.out; omega⟩, ⟨by repeat (first | (with_reducible first | exact HB.out | apply below_alloc | apply pw_below_drewN | apply below_drew1) | exact HB.out)⟩⟩
          · rw [if_neg c9] at H
            have c9b0 : decide ((ji8) ≤ a0) = false := decide_eq_false c9
            clear c9
            have c10b0 := eq_true (of_decide_eq_true (by first | (with_reducible assumption) | assumption) : 0 ≤ (ji6))
            obtain ⟨ji11, hji11⟩ : ∃ j_ : Int, (shl .i64 (-1) (ji6)) = j_ := ⟨_, rfl⟩
            replace H : (if a0 < (ji11) then (interleavelaw11_EventIntSizes.l0 k1 a0 (t107.length : Int) (wrap64 (x4_1 + 1))) else (some ((t107.length : Int) == x4_1))) = some r := by first | (rw [hji11] at H; exact H) | (simp only [hji11] at H ⊢; exact H)
            have hji11_ : (IntKind.i64.wrap ((-1) * 2 ^ min (ji6).toNat 64)) = ji11 := hji11
            have hji11z : (ji6) ≤ 64 → (IntKind.i64.wrap ((-1) * 2 ^ (ji6).toNat)) = ji11 := shl_small hji11
            have hji11k : (wrap64 (-2 ^ min (ji6).toNat 64)) = ji11 := by have h_ := (i64_w _).symm.trans hji11_; rw [Int.neg_mul, Int.one_mul] at h_; exact h_
            have hji11y : (wrap64 ((-1) * 2 ^ min (ji6).toNat 64)) = ji11 := (i64_w _).symm.trans hji11_
            have hji11x : (ji6) ≤ 64 → (wrap64 ((-1) * 2 ^ (ji6).toNat)) = ji11 := fun h_ => (i64_w _).symm.trans (hji11z h_)
            by_cases c12 : a0 < (ji11)
            · rw [if_pos c12] at H
              have c12b0 : decide (a0 < (ji11)) = true := decide_eq_true c12
              clear c12
              have H' := Aside0.mk H
              clear H
              go_wp2
              go_roundg k1
              case measure => have := HK1.out; omega
              case rel => exact ⟨(wrap64 (x4_1 + 1)), (by first | rfl | (simp; done) | (simp [*]; done)), H', ⟨by have := HK1.out; omega⟩, ⟨by repeat (first | (with_reducible first | exact HB.out | apply below_alloc | apply pw_below_drewN | apply below_drew1) | exact HB.out)⟩⟩
            · rw [if_neg c12] at H
              have c12b0 : decide (a0 < (ji11)) = false := decide_eq_false c12
              clear c12
              obtain rfl := Option.some.inj H
              go_wp2
              go_ret
              exact ⟨by first | rfl | (simp [errW_none, errW_some] <;> rfl) | (simp only [← hji6, ← hji8, ← hji11]; first | rfl | (simp [errW_none, errW_some] <;> rfl)) | (simp [*, errW_none, errW_some] <;> rfl), by repeat (first | (with_reducible first | exact HB.out | apply below_alloc | apply pw_below_drewN | apply below_drew1) | exact HB.out)⟩
        · rw [if_neg c7] at H
          exact absurd H (by simp)
      · rw [if_neg c5] at H
        have c5b0 : decide (x4_1 < 10) = false := decide_eq_false c5
        clear c5
        obtain rfl := Option.some.inj H
        go_wp2
        go_ret
        exact ⟨by first | rfl | (simp [errW_none, errW_some] <;> rfl) | (simp [*, errW_none, errW_some] <;> rfl), by repeat (first | (with_reducible first | exact HB.out | apply below_alloc | apply pw_below_drewN | apply below_drew1) | exact HB.out)⟩

/-- THE ONE PURE STATEMENT of interleavelaw11_EventIntSizes: yours. -/
def interleavelaw11_EventIntSizes.Pure : Prop := ∀ (a0 : Int), (Lit.int .i64 a0).wf = true → ∃ k, interleavelaw11_EventIntSizes.f k a0 = some true
theorem interleavelaw11_EventIntSizes.walk (P : interleavelaw11_EventIntSizes.Pure) (a0 : Int) (w : World) (w0 : (Lit.int .i64 a0).wf = true) :
    Calls Try.prog 3 #[.int .i64 a0] w fun e w' => e = .returned (.bool true) ∧ Below w.heap.size w w' := by
  obtain ⟨k, h⟩ := P a0 w0
  refine (interleavelaw11_EventIntSizes.calls k a0 true w h).mono ?_
  rintro e w' ⟨rfl, hd⟩
  exact ⟨rfl, hd⟩

end Go.Proofs.Ytkanlkgmiednfaa.A
