/- MEventSpoilt10: texts of this session and of the kit's printer on the road to the statement EventSpoilt, laid into one and rid of what it doesn't need. No condition beyond what each fact names. -/
import Derived.Test.YtnmmkgagbfniiaaMEventSpoilt3
import Derived.Test.YtnmmkgagbfniiaaMEventSpoilt4
section
namespace Go.Proofs.Ytnmmkgagbfniiaa.A
open Go.RowKit Go.Proofs.YtnmmkgagbfniiaaW.PrintWords Go.Proofs.YtnmmkgagbfniiaaW.PrintLast Go.Proofs.YtnmmkgagbfniiaaW.PrintMore
attribute [local go_sem] max2_int min2_int max_two min_two max_three min_three max_four min_four
set_option linter.unusedVariables false
set_option linter.unusedSimpArgs false
def interleavescene_Spoil.f (a0 : ByteArray) (a1 : Int) (a2 : Int) (a3 : Int) : Option (ByteArray) := if a0.toList = ([] : List UInt8) then (some (strOfNums (([a3] : List Int)))) else (if (a0.size : Int) = 0 then (none) else (if (Int.tmod a2 6) = 0 then (if 0 ≤ (Int.tmod (wrap64 (a1)) (a0.size : Int)) then (if (Int.tmod (wrap64 (a1)) (a0.size : Int)) ≤ (a0.size : Int) then ((some (([a3] : List Int) : List Int)).bind fun y183 => (if (a0.extract 0 ((Int.tmod (wrap64 (a1)) (a0.size : Int)) : Int).toNat).size + (strOfNums y183).size ≤ 9223372036854775807 then (if 0 ≤ (wrap64 ((Int.tmod (wrap64 (a1)) (a0.size : Int)) + 1)) then (if (wrap64 ((Int.tmod (wrap64 (a1)) (a0.size : Int)) + 1)) ≤ (a0.size : Int) then (if ((a0.extract 0 ((Int.tmod (wrap64 (a1)) (a0.size : Int)) : Int).toNat) ++ (strOfNums y183)).size + (a0.extract ((wrap64 ((Int.tmod (wrap64 (a1)) (a0.size : Int)) + 1)) : Int).toNat a0.size).size ≤ 9223372036854775807 then (some (((a0.extract 0 ((Int.tmod (wrap64 (a1)) (a0.size : Int)) : Int).toNat) ++ (strOfNums y183)) ++ (a0.extract ((wrap64 ((Int.tmod (wrap64 (a1)) (a0.size : Int)) + 1)) : Int).toNat a0.size))) else (none)) else (none)) else (none)) else (none))) else (none)) else (none)) else (if (Int.tmod a2 6) = 1 then (if 0 ≤ (Int.tmod (wrap64 (a1)) (a0.size : Int)) then (if (Int.tmod (wrap64 (a1)) (a0.size : Int)) ≤ (a0.size : Int) then ((some (([a3] : List Int) : List Int)).bind fun y186 => (if (a0.extract 0 ((Int.tmod (wrap64 (a1)) (a0.size : Int)) : Int).toNat).size + (strOfNums y186).size ≤ 9223372036854775807 then (if ((a0.extract 0 ((Int.tmod (wrap64 (a1)) (a0.size : Int)) : Int).toNat) ++ (strOfNums y186)).size + (a0.extract ((Int.tmod (wrap64 (a1)) (a0.size : Int)) : Int).toNat a0.size).size ≤ 9223372036854775807 then (some (((a0.extract 0 ((Int.tmod (wrap64 (a1)) (a0.size : Int)) : Int).toNat) ++ (strOfNums y186)) ++ (a0.extract ((Int.tmod (wrap64 (a1)) (a0.size : Int)) : Int).toNat a0.size))) else (none)) else (none))) else (none)) else (none)) else (if (Int.tmod a2 6) = 2 then (if 0 ≤ (Int.tmod (wrap64 (a1)) (a0.size : Int)) then (if (Int.tmod (wrap64 (a1)) (a0.size : Int)) ≤ (a0.size : Int) then (if 0 ≤ (wrap64 ((Int.tmod (wrap64 (a1)) (a0.size : Int)) + 1)) then (if (wrap64 ((Int.tmod (wrap64 (a1)) (a0.size : Int)) + 1)) ≤ (a0.size : Int) then (if (a0.extract 0 ((Int.tmod (wrap64 (a1)) (a0.size : Int)) : Int).toNat).size + (a0.extract ((wrap64 ((Int.tmod (wrap64 (a1)) (a0.size : Int)) + 1)) : Int).toNat a0.size).size ≤ 9223372036854775807 then (some ((a0.extract 0 ((Int.tmod (wrap64 (a1)) (a0.size : Int)) : Int).toNat) ++ (a0.extract ((wrap64 ((Int.tmod (wrap64 (a1)) (a0.size : Int)) + 1)) : Int).toNat a0.size))) else (none)) else (none)) else (none)) else (none)) else (none)) else (if (Int.tmod a2 6) = 3 then (if 0 ≤ (Int.tmod (wrap64 (a1)) (a0.size : Int)) then (if (Int.tmod (wrap64 (a1)) (a0.size : Int)) ≤ (a0.size : Int) then (some (a0.extract 0 ((Int.tmod (wrap64 (a1)) (a0.size : Int)) : Int).toNat)) else (none)) else (none)) else (if (Int.tmod a2 6) = 4 then (if 0 ≤ (Int.tmod (wrap64 (a1)) (a0.size : Int)) then (if (Int.tmod (wrap64 (a1)) (a0.size : Int)) ≤ (a0.size : Int) then (if a0.size + (a0.extract ((Int.tmod (wrap64 (a1)) (a0.size : Int)) : Int).toNat a0.size).size ≤ 9223372036854775807 then (some (a0 ++ (a0.extract ((Int.tmod (wrap64 (a1)) (a0.size : Int)) : Int).toNat a0.size))) else (none)) else (none)) else (none)) else (some a0)))))))
def interleavescene_Spoil.T6 : Bool × List (List Nat × List Nat) := (true, [([], []), ([], []), ([0, 1], [0, 1]), ([], []), ([3], [3]), ([4], [4]), ([2, 5], [2, 5]), ([], []), ([], []), ([8], [8]), ([7, 9], [7, 9]), ([6, 10], [6, 10]), ([11, 0, 1, 2, 3, 4, 5, 6, 7, 8, 9, 10, 11], [11])])
def interleavescene_Spoil.B6 : List Nat := [0, 0, 3, 0, 8, 24, 63, 0, 0, 256, 896, 2047, 4095]
theorem interleavescene_Spoil.tab6 : rtab .any (opsOf Try.f15 6) = interleavescene_Spoil.T6 := by kernel_rfl
theorem interleavescene_Spoil.bits6 : waitsOk interleavescene_Spoil.T6.2 interleavescene_Spoil.B6 = true := by kernel_rfl
def interleavescene_Spoil.T8 : Bool × List (List Nat × List Nat) := (true, [([], []), ([], []), ([0, 1], [0, 1]), ([], []), ([3], [3]), ([4], [4]), ([2, 5], [2, 5]), ([], []), ([], []), ([7, 8], [7, 8]), ([6, 9], [6, 9]), ([10, 0, 1, 2, 3, 4, 5, 6, 7, 8, 9, 10], [10])])
def interleavescene_Spoil.B8 : List Nat := [0, 0, 3, 0, 8, 24, 63, 0, 0, 384, 1023, 2047]
theorem interleavescene_Spoil.tab8 : rtab .any (opsOf Try.f15 8) = interleavescene_Spoil.T8 := by kernel_rfl
theorem interleavescene_Spoil.bits8 : waitsOk interleavescene_Spoil.T8.2 interleavescene_Spoil.B8 = true := by kernel_rfl
def interleavescene_Spoil.T10 : Bool × List (List Nat × List Nat) := (true, [([], []), ([], []), ([0, 1], [0, 1]), ([], []), ([], []), ([4], [4]), ([3, 5], [3, 5]), ([2, 6], [2, 6]), ([7, 0, 1, 2, 3, 4, 5, 6, 7], [7])])
def interleavescene_Spoil.B10 : List Nat := [0, 0, 3, 0, 0, 16, 56, 127, 255]
theorem interleavescene_Spoil.tab10 : rtab .any (opsOf Try.f15 10) = interleavescene_Spoil.T10 := by kernel_rfl
theorem interleavescene_Spoil.bits10 : waitsOk interleavescene_Spoil.T10.2 interleavescene_Spoil.B10 = true := by kernel_rfl
set_option maxHeartbeats 8000000 in
set_option maxRecDepth 100000 in
theorem interleavescene_Spoil.calls (a0 : ByteArray) (a1 : Int) (a2 : Int) (a3 : Int) (r : ByteArray) (w : World) (h : interleavescene_Spoil.f a0 a1 a2 a3 = some r) :
    Calls Try.prog 15 #[.string a0, .int .u16 a1, .int .u16 a2, .int .u8 a3] w fun e w' => e = .returned (.string r) ∧ Below w.heap.size w w' := by
  have HB := Aside0.mk (Below.refl w.heap.size w)
  have H : (if a0.toList = ([] : List UInt8) then (some (strOfNums (([a3] : List Int)))) else (if (a0.size : Int) = 0 then (none) else (if (Int.tmod a2 6) = 0 then (if 0 ≤ (Int.tmod (wrap64 (a1)) (a0.size : Int)) then (if (Int.tmod (wrap64 (a1)) (a0.size : Int)) ≤ (a0.size : Int) then ((some (([a3] : List Int) : List Int)).bind fun y183 => (if (a0.extract 0 ((Int.tmod (wrap64 (a1)) (a0.size : Int)) : Int).toNat).size + (strOfNums y183).size ≤ 9223372036854775807 then (if 0 ≤ (wrap64 ((Int.tmod (wrap64 (a1)) (a0.size : Int)) + 1)) then (if (wrap64 ((Int.tmod (wrap64 (a1)) (a0.size : Int)) + 1)) ≤ (a0.size : Int) then (if ((a0.extract 0 ((Int.tmod (wrap64 (a1)) (a0.size : Int)) : Int).toNat) ++ (strOfNums y183)).size + (a0.extract ((wrap64 ((Int.tmod (wrap64 (a1)) (a0.size : Int)) + 1)) : Int).toNat a0.size).size ≤ 9223372036854775807 then (some (((a0.extract 0 ((Int.tmod (wrap64 (a1)) (a0.size : Int)) : Int).toNat) ++ (strOfNums y183)) ++ (a0.extract ((wrap64 ((Int.tmod (wrap64 (a1)) (a0.size : Int)) + 1)) : Int).toNat a0.size))) else (none)) else (none)) else (none)) else (none))) else (none)) else (none)) else (if (Int.tmod a2 6) = 1 then (if 0 ≤ (Int.tmod (wrap64 (a1)) (a0.size : Int)) then (if (Int.tmod (wrap64 (a1)) (a0.size : Int)) ≤ (a0.size : Int) then ((some (([a3] : List Int) : List Int)).bind fun y186 => (if (a0.extract 0 ((Int.tmod (wrap64 (a1)) (a0.size : Int)) : Int).toNat).size + (strOfNums y186).size ≤ 9223372036854775807 then (if ((a0.extract 0 ((Int.tmod (wrap64 (a1)) (a0.size : Int)) : Int).toNat) ++ (strOfNums y186)).size + (a0.extract ((Int.tmod (wrap64 (a1)) (a0.size : Int)) : Int).toNat a0.size).size ≤ 9223372036854775807 then (some (((a0.extract 0 ((Int.tmod (wrap64 (a1)) (a0.size : Int)) : Int).toNat) ++ (strOfNums y186)) ++ (a0.extract ((Int.tmod (wrap64 (a1)) (a0.size : Int)) : Int).toNat a0.size))) else (none)) else (none))) else (none)) else (none)) else (if (Int.tmod a2 6) = 2 then (if 0 ≤ (Int.tmod (wrap64 (a1)) (a0.size : Int)) then (if (Int.tmod (wrap64 (a1)) (a0.size : Int)) ≤ (a0.size : Int) then (if 0 ≤ (wrap64 ((Int.tmod (wrap64 (a1)) (a0.size : Int)) + 1)) then (if (wrap64 ((Int.tmod (wrap64 (a1)) (a0.size : Int)) + 1)) ≤ (a0.size : Int) then (if (a0.extract 0 ((Int.tmod (wrap64 (a1)) (a0.size : Int)) : Int).toNat).size + (a0.extract ((wrap64 ((Int.tmod (wrap64 (a1)) (a0.size : Int)) + 1)) : Int).toNat a0.size).size ≤ 9223372036854775807 then (some ((a0.extract 0 ((Int.tmod (wrap64 (a1)) (a0.size : Int)) : Int).toNat) ++ (a0.extract ((wrap64 ((Int.tmod (wrap64 (a1)) (a0.size : Int)) + 1)) : Int).toNat a0.size))) else (none)) else (none)) else (none)) else (none)) else (none)) else (if (Int.tmod a2 6) = 3 then (if 0 ≤ (Int.tmod (wrap64 (a1)) (a0.size : Int)) then (if (Int.tmod (wrap64 (a1)) (a0.size : Int)) ≤ (a0.size : Int) then (some (a0.extract 0 ((Int.tmod (wrap64 (a1)) (a0.size : Int)) : Int).toNat)) else (none)) else (none)) else (if (Int.tmod a2 6) = 4 then (if 0 ≤ (Int.tmod (wrap64 (a1)) (a0.size : Int)) then (if (Int.tmod (wrap64 (a1)) (a0.size : Int)) ≤ (a0.size : Int) then (if a0.size + (a0.extract ((Int.tmod (wrap64 (a1)) (a0.size : Int)) : Int).toNat a0.size).size ≤ 9223372036854775807 then (some (a0 ++ (a0.extract ((Int.tmod (wrap64 (a1)) (a0.size : Int)) : Int).toNat a0.size))) else (none)) else (none)) else (none)) else (some a0)))))))) = some r := h
  clear h
  by_cases c5 : a0.toList = ([] : List UInt8)
  · rw [if_pos c5] at H
    have c5b0 : (a0.toList == ([] : List UInt8)) = true := beq_iff_eq.mpr c5
    have c5b1 : (a0.toList != ([] : List UInt8)) = false := bne_eq_false_iff_eq.mpr c5
    clear c5
    obtain ⟨y180, hy180⟩ : ∃ y_ : List Int, y_ = (([a3] : List Int)) := ⟨_, rfl⟩
    replace H : (some (strOfNums y180)) = some r := by first | (rw [hy180]; with_reducible exact H) | (have H2_ := (Option.bind_some _ _).symm.trans H; rw [hy180]; with_reducible exact H2_) | (have H2_ := (Option.bind_some _ _).symm.trans H; with_reducible exact H2_) | with_reducible exact H | (rw [hy180]; exact H) | exact H
    have Ny180 := Aside0.mk hy180
    clear hy180
    obtain rfl := Option.some.inj H
    go_enter Try.func15, Try.ntmps15
    go_wp2_with (first | ((with_reducible refine gate_dst (N := 13) rfl ?_); refine Kd.R_lit (Kd.int .u8) _ 5 ?hg (N := 13) ?hd (xs := ([a3] : List Int)) (inner := [.int .u8 a3]) (ok := fun _ => True) (okp := fun _ => True) ?hr ?hp (fun _ hk => hk) trivial (Below.refl _ _) (Nat.le_refl _) (by simp) ?_; (case hd => rfl); (case hg => rfl); (case hr => first | (go_simp; done) | (go_simp; rfl)); (case hp => exact (Reps.one (show Kd.M (Kd.int .u8) _ _ _ a3 [.int .u8 a3] from rfl) (Reps.none _ _))); intro v181 w6 ho7 hb hg_ hnew_; clear hg_ hnew_; (first | rw [← Ny180.out] at ho7 | (simp only [Int.reduceToNat] at ho7; rw [← Ny180.out] at ho7)); have n0_ := Aside0.mk (Kd.R_lower ho7 (below_size (by repeat (first | (with_reducible first | exact HB.out | apply below_alloc | apply pw_below_drewN | apply below_drew1) | exact HB.out)))); have n1_ := Aside0.mk (below_step (by repeat (first | (with_reducible first | exact HB.out | apply below_alloc | apply pw_below_drewN | apply below_drew1) | exact HB.out)) hb); clear HB; have HO182 := n0_; have HB := n1_; clear n0_ n1_; clear hb ho7; have hcv8 := own_string (P := Try.prog) Try.underlying27 Try.underlying5 Try.underlying9 (Kd.own_of_R HO182.out)))
    go_ret
    exact ⟨by first | rfl | (simp [errW_none, errW_some] <;> rfl) | (simp [*, errW_none, errW_some] <;> rfl), by repeat (first | (with_reducible first | exact HB.out | apply below_alloc | apply pw_below_drewN | apply below_drew1) | exact HB.out)⟩
  · rw [if_neg c5] at H
    have c5b0 : (a0.toList == ([] : List UInt8)) = false := beq_eq_false_iff_ne.mpr c5
    have c5b1 : (a0.toList != ([] : List UInt8)) = true := bne_iff_ne.mpr c5
    by_cases c9 : (a0.size : Int) = 0
    · rw [if_pos c9] at H
      exact absurd H (by simp)
    · rw [if_neg c9] at H
      have c9b0 : ((a0.size : Int) == 0) = false := beq_eq_false_iff_ne.mpr c9
      have c9b1 : ((a0.size : Int) != 0) = true := bne_iff_ne.mpr c9
      by_cases c10 : (Int.tmod a2 6) = 0
      · rw [if_pos c10] at H
        have c10b0 : ((Int.tmod a2 6) == 0) = true := beq_iff_eq.mpr c10
        have c10b1 : ((Int.tmod a2 6) != 0) = false := bne_eq_false_iff_eq.mpr c10
        clear c10
        obtain ⟨ji11, hji11⟩ : ∃ j_ : Int, (Int.tmod (wrap64 (a1)) (a0.size : Int)) = j_ := ⟨_, rfl⟩
        replace H : (if 0 ≤ (ji11) then (if (ji11) ≤ (a0.size : Int) then ((some (([a3] : List Int) : List Int)).bind fun y183 => (if (a0.extract 0 ((ji11) : Int).toNat).size + (strOfNums y183).size ≤ 9223372036854775807 then (if 0 ≤ (wrap64 ((ji11) + 1)) then (if (wrap64 ((ji11) + 1)) ≤ (a0.size : Int) then (if ((a0.extract 0 ((ji11) : Int).toNat) ++ (strOfNums y183)).size + (a0.extract ((wrap64 ((ji11) + 1)) : Int).toNat a0.size).size ≤ 9223372036854775807 then (some (((a0.extract 0 ((ji11) : Int).toNat) ++ (strOfNums y183)) ++ (a0.extract ((wrap64 ((ji11) + 1)) : Int).toNat a0.size))) else (none)) else (none)) else (none)) else (none))) else (none)) else (none)) = some r := by first | (rw [hji11] at H; exact H) | (simp only [hji11] at H ⊢; exact H)
        by_cases c12 : 0 ≤ (ji11)
        · rw [if_pos c12] at H
          have c12b0 := eq_true c12
          have c12b1 : decide (0 ≤ (ji11)) = true := decide_eq_true c12
          clear c12
          by_cases c13 : (ji11) ≤ (a0.size : Int)
          · rw [if_pos c13] at H
            have c13b0 := eq_true c13
            have c13b1 : decide ((ji11) ≤ (a0.size : Int)) = true := decide_eq_true c13
            clear c13
            obtain ⟨y183, hy183⟩ : ∃ y_ : List Int, y_ = (([a3] : List Int)) := ⟨_, rfl⟩
            replace H : (if (a0.extract 0 ((ji11) : Int).toNat).size + (strOfNums y183).size ≤ 9223372036854775807 then (if 0 ≤ (wrap64 ((ji11) + 1)) then (if (wrap64 ((ji11) + 1)) ≤ (a0.size : Int) then (if ((a0.extract 0 ((ji11) : Int).toNat) ++ (strOfNums y183)).size + (a0.extract ((wrap64 ((ji11) + 1)) : Int).toNat a0.size).size ≤ 9223372036854775807 then (some (((a0.extract 0 ((ji11) : Int).toNat) ++ (strOfNums y183)) ++ (a0.extract ((wrap64 ((ji11) + 1)) : Int).toNat a0.size))) else (none)) else (none)) else (none)) else (none)) = some r := by first | (rw [hy183]; with_reducible exact H) | (have H2_ := (Option.bind_some _ _).symm.trans H; rw [hy183]; with_reducible exact H2_) | (have H2_ := (Option.bind_some _ _).symm.trans H; with_reducible exact H2_) | with_reducible exact H | (rw [hy183]; exact H) | exact H
            have Ny183 := Aside0.mk hy183
            clear hy183
            by_cases c14 : (a0.extract 0 ((ji11) : Int).toNat).size + (strOfNums y183).size ≤ 9223372036854775807
            · rw [if_pos c14] at H
              have c14b0 := eq_true c14
              have c14b1 : decide ((a0.extract 0 ((ji11) : Int).toNat).size + (strOfNums y183).size ≤ 9223372036854775807) = true := decide_eq_true c14
              try have c14b2 : (9223372036854775807 < (a0.extract 0 ((ji11) : Int).toNat).size + (strOfNums y183).size) = False := eq_false (Nat.not_lt.2 c14)
              have c14b3 : (9223372036854775807 < ji11.toNat + (strOfNums y183).size) = False := eq_false (by have h_ := of_eq_true c14b0; have hji11_ := of_eq_true c13b0; simp only [ByteArray.size_append, ByteArray.size_extract] at h_; omega)
              obtain ⟨ji15, hji15⟩ : ∃ j_ : Int, (wrap64 ((ji11) + 1)) = j_ := ⟨_, rfl⟩
              replace H : (if 0 ≤ (ji15) then (if (ji15) ≤ (a0.size : Int) then (if ((a0.extract 0 ((ji11) : Int).toNat) ++ (strOfNums y183)).size + (a0.extract ((ji15) : Int).toNat a0.size).size ≤ 9223372036854775807 then (some (((a0.extract 0 ((ji11) : Int).toNat) ++ (strOfNums y183)) ++ (a0.extract ((ji15) : Int).toNat a0.size))) else (none)) else (none)) else (none)) = some r := by first | (rw [hji15] at H; exact H) | (simp only [hji15] at H ⊢; exact H)
              have hji15w : (IntKind.i64.wrap ((ji11) + 1)) = ji15 := (i64_w _).trans hji15
              by_cases c16 : 0 ≤ (ji15)
              · rw [if_pos c16] at H
                have c16b0 := eq_true c16
                have c16b1 : decide (0 ≤ (ji15)) = true := decide_eq_true c16
                clear c16
                by_cases c17 : (ji15) ≤ (a0.size : Int)
                · rw [if_pos c17] at H
                  have c17b0 := eq_true c17
                  have c17b1 : decide ((ji15) ≤ (a0.size : Int)) = true := decide_eq_true c17
                  clear c17
                  by_cases c18 : ((a0.extract 0 ((ji11) : Int).toNat) ++ (strOfNums y183)).size + (a0.extract ((ji15) : Int).toNat a0.size).size ≤ 9223372036854775807
                  · rw [if_pos c18] at H
                    have c18b0 := eq_true c18
                    have c18b1 : decide (((a0.extract 0 ((ji11) : Int).toNat) ++ (strOfNums y183)).size + (a0.extract ((ji15) : Int).toNat a0.size).size ≤ 9223372036854775807) = true := decide_eq_true c18
                    try have c18b2 : (9223372036854775807 < ((a0.extract 0 ((ji11) : Int).toNat) ++ (strOfNums y183)).size + (a0.extract ((ji15) : Int).toNat a0.size).size) = False := eq_false (Nat.not_lt.2 c18)
                    have c18b3 : (9223372036854775807 < ji11.toNat + (strOfNums y183).size + (a0.size - ji15.toNat)) = False := eq_false (by have h_ := of_eq_true c18b0; have hji11_ := of_eq_true c13b0; have hji15_ := of_eq_true c17b0; simp only [ByteArray.size_append, ByteArray.size_extract] at h_; omega)
                    obtain rfl := Option.some.inj H
                    go_enter Try.func15, Try.ntmps15
                    try go_wp2
                    have n0_ := Aside0.mk (below_drew1 HB.out)
                    clear HB
                    have HB := n0_
                    clear n0_
                    refine start_ (n := 13) (S := fun w' => True) (ds := []) #[false, false, false, false, false, false, false, false, false, false, false, false, false] (by kernel_rfl) rfl rfl trivial (fun hHeld => ?_); refine with_tabW interleavescene_Spoil.tab6 interleavescene_Spoil.bits6 (fun HT_ HW_ => ?_)
                    generalize w.drew = w19 at HB hHeld ⊢
                    refine pure_ (i := 0) (N := some 24) (v := ?_) (a' := ?_) #[true, false, false, false, false, false, false, false, false, false, false, false, false] rfl rfl (any_of HT_.out (by kernel_rfl)) (fun _ _ _ h => h) (Or.inl ⟨by rfl, ?_⟩) ?_ ?_
                    rotate_left
                    · intro w'
                      go_simp
                      with_reducible rfl
                    rotate_left
                    · simp only [Act.put, List.setIfInBounds_toArray, List.set_cons_zero, List.set_cons_succ, i64_w, i32_w]
                      rfl
                    refine pure_ (i := 1) (N := some 25) (v := ?_) (a' := ?_) #[true, true, false, false, false, false, false, false, false, false, false, false, false] rfl rfl (any_of HT_.out (by kernel_rfl)) (fun _ _ _ h => h) (Or.inl ⟨by rfl, ?_⟩) ?_ ?_
                    rotate_left
                    · intro w'
                      go_simp
                      with_reducible rfl
                    rotate_left
                    · simp only [Act.put, List.setIfInBounds_toArray, List.set_cons_zero, List.set_cons_succ, i64_w, i32_w]
                      rfl
                    refine pure_ (i := 2) (N := some 26) (v := ?_) (a' := ?_) #[true, true, true, false, false, false, false, false, false, false, false, false, false] rfl rfl (any_of HT_.out (by kernel_rfl)) (fun _ _ _ h => h) (Or.inl ⟨by rfl, ?_⟩) ?_ ?_
                    rotate_left
                    · intro w'
                      go_simp
                      with_reducible rfl
                    rotate_left
                    · simp only [Act.put, List.setIfInBounds_toArray, List.set_cons_zero, List.set_cons_succ, i64_w, i32_w]
                      rfl
                    refine pure_ (i := 3) (N := some 27) (v := ?_) (a' := ?_) #[true, true, true, true, false, false, false, false, false, false, false, false, false] rfl rfl (any_of HT_.out (by kernel_rfl)) (fun _ _ _ h => h) (Or.inl ⟨by rfl, ?_⟩) ?_ ?_
                    rotate_left
                    · intro w'
                      go_simp
                      with_reducible rfl
                    rotate_left
                    · simp only [Act.put, List.setIfInBounds_toArray, List.set_cons_zero, List.set_cons_succ, i64_w, i32_w]
                      rfl
                    refine pure_ (i := 7) (N := some 31) (v := ?_) (a' := ?_) #[true, true, true, true, false, false, false, true, false, false, false, false, false] rfl rfl (any_of HT_.out (by kernel_rfl)) (fun _ _ _ h => h) (Or.inl ⟨by rfl, ?_⟩) ?_ ?_
                    rotate_left
                    · intro w'
                      go_simp
                      with_reducible rfl
                    rotate_left
                    · simp only [Act.put, List.setIfInBounds_toArray, List.set_cons_zero, List.set_cons_succ, i64_w, i32_w]
                      rfl
                    refine pure_ (i := 8) (N := some 32) (v := ?_) (a' := ?_) #[true, true, true, true, false, false, false, true, true, false, false, false, false] rfl rfl (any_of HT_.out (by kernel_rfl)) (fun _ _ _ h => h) (Or.inl ⟨by rfl, ?_⟩) ?_ ?_
                    rotate_left
                    · intro w'
                      go_simp
                      with_reducible rfl
                    rotate_left
                    · simp only [Act.put, List.setIfInBounds_toArray, List.set_cons_zero, List.set_cons_succ, i64_w, i32_w]
                      rfl
                    refine pure_ (i := 9) (N := some 33) (v := ?_) (a' := ?_) #[true, true, true, true, false, false, false, true, true, true, false, false, false] rfl rfl (any_of HT_.out (by kernel_rfl)) (fun _ _ _ h => h) (Or.inl ⟨by rfl, ?_⟩) ?_ ?_
                    rotate_left
                    · intro w'
                      go_simp
                      with_reducible rfl
                    rotate_left
                    · simp only [Act.put, List.setIfInBounds_toArray, List.set_cons_zero, List.set_cons_succ, i64_w, i32_w]
                      rfl
                    refine pure_ (i := 10) (N := some 34) (v := ?_) (a' := ?_) #[true, true, true, true, false, false, false, true, true, true, true, false, false] rfl rfl (any_of HT_.out (by kernel_rfl)) (fun _ _ _ h => h) (Or.inl ⟨by rfl, ?_⟩) ?_ ?_
                    rotate_left
                    · intro w'
                      go_simp
                      with_reducible rfl
                    rotate_left
                    · simp only [Act.put, List.setIfInBounds_toArray, List.set_cons_zero, List.set_cons_succ, i64_w, i32_w]
                      rfl
                    refine one_ (i := 4) (N := some 28) #[true, true, true, true, true, false, false, true, true, true, true, false, false] rfl rfl (one_of HT_.out (by kernel_rfl)) (by decide) (fun K hK => ?_)
                    refine Kd.R_lit_step (Kd.int .u8) _ 5 ?hg (N := 28) ?hd (xs := ([a3] : List Int)) (inner := [.int .u8 a3]) (ok := fun _ => True) (okp := fun _ => True) ?hr ?hp (fun _ hk => hk) trivial (Below.refl _ _) (Nat.le_refl _) (by simp) ?_; (case hd => rfl); (case hg => rfl); (case hr => first | (go_simp; done) | (go_simp; rfl)); (case hp => exact (Reps.one (show Kd.M (Kd.int .u8) _ _ _ a3 [.int .u8 a3] from rfl) (Reps.none _ _)))
                    intro v184 w20 ho21 hb hg_ hnew_
                    clear hg_ hnew_
                    (first | rw [← Ny183.out] at ho21 | (simp only [Int.reduceToNat] at ho21; rw [← Ny183.out] at ho21))
                    have n0_ := Aside0.mk (Kd.R_lower ho21 (below_size (by repeat (first | (with_reducible first | exact HB.out | apply below_alloc | apply pw_below_drewN | apply below_drew1) | exact HB.out))))
                    have n1_ := Aside0.mk (below_step (by repeat (first | (with_reducible first | exact HB.out | apply below_alloc | apply pw_below_drewN | apply below_drew1) | exact HB.out)) hb)
                    clear HB
                    have HO185 := n0_
                    have HB := n1_
                    clear n0_ n1_
                    clear hb ho21
                    refine hK.out _ _ trivial (fun hHeld => ?_)
                    clear hK K
                    refine norm_ (a' := ?_) ?_ ?_
                    rotate_left
                    · show Act.put _ (some 28) _ = _
                      simp only [Act.put, List.setIfInBounds_toArray, List.set_cons_zero, List.set_cons_succ, i64_w, i32_w]
                      rfl
                    refine one_ (i := 5) (N := some 29) #[true, true, true, true, true, true, false, true, true, true, true, false, false] rfl rfl (one_of HT_.out (by kernel_rfl)) (by decide) (fun K hK => ?_)
                    have hcv22 := own_string (P := Try.prog) Try.underlying27 Try.underlying5 Try.underlying9 (Kd.own_of_R HO185.out)
                    refine value_ (w1 := ?_) (v := ?_) (by rfl) rfl ?_ ?_
                    rotate_left 2
                    · go_simp
                      constructor
                      · rfl
                      · rfl
                    clear hcv22
                    refine hK.out _ _ trivial (fun hHeld => ?_)
                    clear hK K
                    refine norm_ (a' := ?_) ?_ ?_
                    rotate_left
                    · show Act.put _ (some 29) _ = _
                      simp only [Act.put, List.setIfInBounds_toArray, List.set_cons_zero, List.set_cons_succ, i64_w, i32_w]
                      rfl
                    refine pure_ (i := 6) (N := some 30) (v := ?_) (a' := ?_) #[true, true, true, true, true, true, true, true, true, true, true, false, false] rfl rfl (any_of HT_.out (by kernel_rfl)) (fun _ _ _ h => h) (Or.inl ⟨by rfl, ?_⟩) ?_ ?_
                    rotate_left
                    · intro w'
                      go_simp
                      with_reducible rfl
                    rotate_left
                    · simp only [Act.put, List.setIfInBounds_toArray, List.set_cons_zero, List.set_cons_succ, i64_w, i32_w]
                      rfl
                    refine pure_ (i := 11) (N := some 35) (v := ?_) (a' := ?_) #[true, true, true, true, true, true, true, true, true, true, true, true, false] rfl rfl (any_of HT_.out (by kernel_rfl)) (fun _ _ _ h => h) (Or.inl ⟨by rfl, ?_⟩) ?_ ?_
                    rotate_left
                    · intro w'
                      go_simp
                      with_reducible rfl
                    rotate_left
                    · simp only [Act.put, List.setIfInBounds_toArray, List.set_cons_zero, List.set_cons_succ, i64_w, i32_w]
                      rfl
                    refine pure_ (i := 12) (N := some 8) (v := ?_) (a' := ?_) #[true, true, true, true, true, true, true, true, true, true, true, true, true] rfl rfl (any_of HT_.out (by kernel_rfl)) (fun _ _ _ h => h) (Or.inl ⟨by rfl, ?_⟩) ?_ ?_
                    rotate_left
                    · intro w'
                      go_simp
                      with_reducible rfl
                    rotate_left
                    · simp only [Act.put, List.setIfInBounds_toArray, List.set_cons_zero, List.set_cons_succ, i64_w, i32_w]
                      rfl
                    refine done_ (done_of HT_.out (by kernel_rfl)) ?_
                    try go_wp2
                    go_ret
                    exact ⟨by first | rfl | (simp [errW_none, errW_some] <;> rfl) | (simp only [← hji11, ← hji15]; first | rfl | (simp [errW_none, errW_some] <;> rfl)) | (simp [*, errW_none, errW_some] <;> rfl), by repeat (first | (with_reducible first | exact HB.out | apply below_alloc | apply pw_below_drewN | apply below_drew1) | exact HB.out)⟩
                  · rw [if_neg c18] at H
                    exact absurd H (by simp)
                · rw [if_neg c17] at H
                  exact absurd H (by simp)
              · rw [if_neg c16] at H
                exact absurd H (by simp)
            · rw [if_neg c14] at H
              exact absurd H (by simp)
          · rw [if_neg c13] at H
            exact absurd H (by simp)
        · rw [if_neg c12] at H
          exact absurd H (by simp)
      · rw [if_neg c10] at H
        have c10b0 : ((Int.tmod a2 6) == 0) = false := beq_eq_false_iff_ne.mpr c10
        have c10b1 : ((Int.tmod a2 6) != 0) = true := bne_iff_ne.mpr c10
        by_cases c23 : (Int.tmod a2 6) = 1
        · rw [if_pos c23] at H
          have c23b0 : ((Int.tmod a2 6) == 1) = true := beq_iff_eq.mpr c23
          have c23b1 : ((Int.tmod a2 6) != 1) = false := bne_eq_false_iff_eq.mpr c23
          clear c23
          obtain ⟨ji24, hji24⟩ : ∃ j_ : Int, (Int.tmod (wrap64 (a1)) (a0.size : Int)) = j_ := ⟨_, rfl⟩
          replace H : (if 0 ≤ (ji24) then (if (ji24) ≤ (a0.size : Int) then ((some (([a3] : List Int) : List Int)).bind fun y186 => (if (a0.extract 0 ((ji24) : Int).toNat).size + (strOfNums y186).size ≤ 9223372036854775807 then (if ((a0.extract 0 ((ji24) : Int).toNat) ++ (strOfNums y186)).size + (a0.extract ((ji24) : Int).toNat a0.size).size ≤ 9223372036854775807 then (some (((a0.extract 0 ((ji24) : Int).toNat) ++ (strOfNums y186)) ++ (a0.extract ((ji24) : Int).toNat a0.size))) else (none)) else (none))) else (none)) else (none)) = some r := by first | (rw [hji24] at H; exact H) | (simp only [hji24] at H ⊢; exact H)
          by_cases c25 : 0 ≤ (ji24)
          · rw [if_pos c25] at H
            have c25b0 := eq_true c25
            have c25b1 : decide (0 ≤ (ji24)) = true := decide_eq_true c25
            clear c25
            by_cases c26 : (ji24) ≤ (a0.size : Int)
            · rw [if_pos c26] at H
              have c26b0 := eq_true c26
              have c26b1 : decide ((ji24) ≤ (a0.size : Int)) = true := decide_eq_true c26
              clear c26
              obtain ⟨y186, hy186⟩ : ∃ y_ : List Int, y_ = (([a3] : List Int)) := ⟨_, rfl⟩
              replace H : (if (a0.extract 0 ((ji24) : Int).toNat).size + (strOfNums y186).size ≤ 9223372036854775807 then (if ((a0.extract 0 ((ji24) : Int).toNat) ++ (strOfNums y186)).size + (a0.extract ((ji24) : Int).toNat a0.size).size ≤ 9223372036854775807 then (some (((a0.extract 0 ((ji24) : Int).toNat) ++ (strOfNums y186)) ++ (a0.extract ((ji24) : Int).toNat a0.size))) else (none)) else (none)) = some r := by first | (rw [hy186]; with_reducible exact H) | (have H2_ := (Option.bind_some _ _).symm.trans H; rw [hy186]; with_reducible exact H2_) | (have H2_ := (Option.bind_some _ _).symm.trans H; with_reducible exact H2_) | with_reducible exact H | (rw [hy186]; exact H) | exact H
              have Ny186 := Aside0.mk hy186
              clear hy186
              by_cases c27 : (a0.extract 0 ((ji24) : Int).toNat).size + (strOfNums y186).size ≤ 9223372036854775807
              · rw [if_pos c27] at H
                have c27b0 := eq_true c27
                have c27b1 : decide ((a0.extract 0 ((ji24) : Int).toNat).size + (strOfNums y186).size ≤ 9223372036854775807) = true := decide_eq_true c27
                try have c27b2 : (9223372036854775807 < (a0.extract 0 ((ji24) : Int).toNat).size + (strOfNums y186).size) = False := eq_false (Nat.not_lt.2 c27)
                have c27b3 : (9223372036854775807 < ji24.toNat + (strOfNums y186).size) = False := eq_false (by have h_ := of_eq_true c27b0; have hji24_ := of_eq_true c26b0; simp only [ByteArray.size_append, ByteArray.size_extract] at h_; omega)
                have c28b0 := eq_true (of_decide_eq_true (by first | (with_reducible assumption) | assumption) : 0 ≤ (ji24))
                have c29b0 := eq_true (of_decide_eq_true (by first | (with_reducible assumption) | assumption) : (ji24) ≤ (a0.size : Int))
                by_cases c30 : ((a0.extract 0 ((ji24) : Int).toNat) ++ (strOfNums y186)).size + (a0.extract ((ji24) : Int).toNat a0.size).size ≤ 9223372036854775807
                · rw [if_pos c30] at H
                  have c30b0 := eq_true c30
                  have c30b1 : decide (((a0.extract 0 ((ji24) : Int).toNat) ++ (strOfNums y186)).size + (a0.extract ((ji24) : Int).toNat a0.size).size ≤ 9223372036854775807) = true := decide_eq_true c30
                  try have c30b2 : (9223372036854775807 < ((a0.extract 0 ((ji24) : Int).toNat) ++ (strOfNums y186)).size + (a0.extract ((ji24) : Int).toNat a0.size).size) = False := eq_false (Nat.not_lt.2 c30)
                  have c30b3 : (9223372036854775807 < ji24.toNat + (strOfNums y186).size + (a0.size - ji24.toNat)) = False := eq_false (by have h_ := of_eq_true c30b0; have hji24_ := of_eq_true c26b0; simp only [ByteArray.size_append, ByteArray.size_extract] at h_; omega)
                  obtain rfl := Option.some.inj H
                  go_enter Try.func15, Try.ntmps15
                  try go_wp2
                  have n0_ := Aside0.mk (below_drew1 HB.out)
                  clear HB
                  have HB := n0_
                  clear n0_
                  refine start_ (n := 12) (S := fun w' => True) (ds := []) #[false, false, false, false, false, false, false, false, false, false, false, false] (by kernel_rfl) rfl rfl trivial (fun hHeld => ?_); refine with_tabW interleavescene_Spoil.tab8 interleavescene_Spoil.bits8 (fun HT_ HW_ => ?_)
                  generalize w.drew = w31 at HB hHeld ⊢
                  refine pure_ (i := 0) (N := some 38) (v := ?_) (a' := ?_) #[true, false, false, false, false, false, false, false, false, false, false, false] rfl rfl (any_of HT_.out (by kernel_rfl)) (fun _ _ _ h => h) (Or.inl ⟨by rfl, ?_⟩) ?_ ?_
                  rotate_left
                  · intro w'
                    go_simp
                    with_reducible rfl
                  rotate_left
                  · simp only [Act.put, List.setIfInBounds_toArray, List.set_cons_zero, List.set_cons_succ, i64_w, i32_w]
                    rfl
                  refine pure_ (i := 1) (N := some 39) (v := ?_) (a' := ?_) #[true, true, false, false, false, false, false, false, false, false, false, false] rfl rfl (any_of HT_.out (by kernel_rfl)) (fun _ _ _ h => h) (Or.inl ⟨by rfl, ?_⟩) ?_ ?_
                  rotate_left
                  · intro w'
                    go_simp
                    with_reducible rfl
                  rotate_left
                  · simp only [Act.put, List.setIfInBounds_toArray, List.set_cons_zero, List.set_cons_succ, i64_w, i32_w]
                    rfl
                  refine pure_ (i := 2) (N := some 40) (v := ?_) (a' := ?_) #[true, true, true, false, false, false, false, false, false, false, false, false] rfl rfl (any_of HT_.out (by kernel_rfl)) (fun _ _ _ h => h) (Or.inl ⟨by rfl, ?_⟩) ?_ ?_
                  rotate_left
                  · intro w'
                    go_simp
                    with_reducible rfl
                  rotate_left
                  · simp only [Act.put, List.setIfInBounds_toArray, List.set_cons_zero, List.set_cons_succ, i64_w, i32_w]
                    rfl
                  refine pure_ (i := 3) (N := some 41) (v := ?_) (a' := ?_) #[true, true, true, true, false, false, false, false, false, false, false, false] rfl rfl (any_of HT_.out (by kernel_rfl)) (fun _ _ _ h => h) (Or.inl ⟨by rfl, ?_⟩) ?_ ?_
                  rotate_left
                  · intro w'
                    go_simp
                    with_reducible rfl
                  rotate_left
                  · simp only [Act.put, List.setIfInBounds_toArray, List.set_cons_zero, List.set_cons_succ, i64_w, i32_w]
                    rfl
                  refine pure_ (i := 7) (N := some 45) (v := ?_) (a' := ?_) #[true, true, true, true, false, false, false, true, false, false, false, false] rfl rfl (any_of HT_.out (by kernel_rfl)) (fun _ _ _ h => h) (Or.inl ⟨by rfl, ?_⟩) ?_ ?_
                  rotate_left
                  · intro w'
                    go_simp
                    with_reducible rfl
                  rotate_left
                  · simp only [Act.put, List.setIfInBounds_toArray, List.set_cons_zero, List.set_cons_succ, i64_w, i32_w]
                    rfl
                  refine pure_ (i := 8) (N := some 46) (v := ?_) (a' := ?_) #[true, true, true, true, false, false, false, true, true, false, false, false] rfl rfl (any_of HT_.out (by kernel_rfl)) (fun _ _ _ h => h) (Or.inl ⟨by rfl, ?_⟩) ?_ ?_
                  rotate_left
                  · intro w'
                    go_simp
                    with_reducible rfl
                  rotate_left
                  · simp only [Act.put, List.setIfInBounds_toArray, List.set_cons_zero, List.set_cons_succ, i64_w, i32_w]
                    rfl
                  refine pure_ (i := 9) (N := some 47) (v := ?_) (a' := ?_) #[true, true, true, true, false, false, false, true, true, true, false, false] rfl rfl (any_of HT_.out (by kernel_rfl)) (fun _ _ _ h => h) (Or.inl ⟨by rfl, ?_⟩) ?_ ?_
                  rotate_left
                  · intro w'
                    go_simp
                    with_reducible rfl
                  rotate_left
                  · simp only [Act.put, List.setIfInBounds_toArray, List.set_cons_zero, List.set_cons_succ, i64_w, i32_w]
                    rfl
                  refine one_ (i := 4) (N := some 42) #[true, true, true, true, true, false, false, true, true, true, false, false] rfl rfl (one_of HT_.out (by kernel_rfl)) (by decide) (fun K hK => ?_)
                  refine Kd.R_lit_step (Kd.int .u8) _ 5 ?hg (N := 42) ?hd (xs := ([a3] : List Int)) (inner := [.int .u8 a3]) (ok := fun _ => True) (okp := fun _ => True) ?hr ?hp (fun _ hk => hk) trivial (Below.refl _ _) (Nat.le_refl _) (by simp) ?_; (case hd => rfl); (case hg => rfl); (case hr => first | (go_simp; done) | (go_simp; rfl)); (case hp => exact (Reps.one (show Kd.M (Kd.int .u8) _ _ _ a3 [.int .u8 a3] from rfl) (Reps.none _ _)))
                  intro v187 w32 ho33 hb hg_ hnew_
                  clear hg_ hnew_
                  (first | rw [← Ny186.out] at ho33 | (simp only [Int.reduceToNat] at ho33; rw [← Ny186.out] at ho33))
                  have n0_ := Aside0.mk (Kd.R_lower ho33 (below_size (by repeat (first | (with_reducible first | exact HB.out | apply below_alloc | apply pw_below_drewN | apply below_drew1) | exact HB.out))))
                  have n1_ := Aside0.mk (below_step (by repeat (first | (with_reducible first | exact HB.out | apply below_alloc | apply pw_below_drewN | apply below_drew1) | exact HB.out)) hb)
                  clear HB
                  have HO188 := n0_
                  have HB := n1_
                  clear n0_ n1_
                  clear hb ho33
                  refine hK.out _ _ trivial (fun hHeld => ?_)
                  clear hK K
                  refine norm_ (a' := ?_) ?_ ?_
                  rotate_left
                  · show Act.put _ (some 42) _ = _
                    simp only [Act.put, List.setIfInBounds_toArray, List.set_cons_zero, List.set_cons_succ, i64_w, i32_w]
                    rfl
                  refine one_ (i := 5) (N := some 43) #[true, true, true, true, true, true, false, true, true, true, false, false] rfl rfl (one_of HT_.out (by kernel_rfl)) (by decide) (fun K hK => ?_)
                  have hcv34 := own_string (P := Try.prog) Try.underlying27 Try.underlying5 Try.underlying9 (Kd.own_of_R HO188.out)
                  refine value_ (w1 := ?_) (v := ?_) (by rfl) rfl ?_ ?_
                  rotate_left 2
                  · go_simp
                    constructor
                    · rfl
                    · rfl
                  clear hcv34
                  refine hK.out _ _ trivial (fun hHeld => ?_)
                  clear hK K
                  refine norm_ (a' := ?_) ?_ ?_
                  rotate_left
                  · show Act.put _ (some 43) _ = _
                    simp only [Act.put, List.setIfInBounds_toArray, List.set_cons_zero, List.set_cons_succ, i64_w, i32_w]
                    rfl
                  refine pure_ (i := 6) (N := some 44) (v := ?_) (a' := ?_) #[true, true, true, true, true, true, true, true, true, true, false, false] rfl rfl (any_of HT_.out (by kernel_rfl)) (fun _ _ _ h => h) (Or.inl ⟨by rfl, ?_⟩) ?_ ?_
                  rotate_left
                  · intro w'
                    go_simp
                    with_reducible rfl
                  rotate_left
                  · simp only [Act.put, List.setIfInBounds_toArray, List.set_cons_zero, List.set_cons_succ, i64_w, i32_w]
                    rfl
                  refine pure_ (i := 10) (N := some 48) (v := ?_) (a' := ?_) #[true, true, true, true, true, true, true, true, true, true, true, false] rfl rfl (any_of HT_.out (by kernel_rfl)) (fun _ _ _ h => h) (Or.inl ⟨by rfl, ?_⟩) ?_ ?_
                  rotate_left
                  · intro w'
                    go_simp
                    with_reducible rfl
                  rotate_left
                  · simp only [Act.put, List.setIfInBounds_toArray, List.set_cons_zero, List.set_cons_succ, i64_w, i32_w]
                    rfl
                  refine pure_ (i := 11) (N := some 8) (v := ?_) (a' := ?_) #[true, true, true, true, true, true, true, true, true, true, true, true] rfl rfl (any_of HT_.out (by kernel_rfl)) (fun _ _ _ h => h) (Or.inl ⟨by rfl, ?_⟩) ?_ ?_
                  rotate_left
                  · intro w'
                    go_simp
                    with_reducible rfl
                  rotate_left
                  · simp only [Act.put, List.setIfInBounds_toArray, List.set_cons_zero, List.set_cons_succ, i64_w, i32_w]
                    rfl
                  refine done_ (done_of HT_.out (by kernel_rfl)) ?_
                  try go_wp2
                  go_ret
                  exact ⟨by first | rfl | (simp [errW_none, errW_some] <;> rfl) | (simp only [← hji24]; first | rfl | (simp [errW_none, errW_some] <;> rfl)) | (simp [*, errW_none, errW_some] <;> rfl), by repeat (first | (with_reducible first | exact HB.out | apply below_alloc | apply pw_below_drewN | apply below_drew1) | exact HB.out)⟩
                · rw [if_neg c30] at H
                  exact absurd H (by simp)
              · rw [if_neg c27] at H
                exact absurd H (by simp)
            · rw [if_neg c26] at H
              exact absurd H (by simp)
          · rw [if_neg c25] at H
            exact absurd H (by simp)
        · rw [if_neg c23] at H
          have c23b0 : ((Int.tmod a2 6) == 1) = false := beq_eq_false_iff_ne.mpr c23
          have c23b1 : ((Int.tmod a2 6) != 1) = true := bne_iff_ne.mpr c23
          by_cases c35 : (Int.tmod a2 6) = 2
          · rw [if_pos c35] at H
            have c35b0 : ((Int.tmod a2 6) == 2) = true := beq_iff_eq.mpr c35
            have c35b1 : ((Int.tmod a2 6) != 2) = false := bne_eq_false_iff_eq.mpr c35
            clear c35
            obtain ⟨ji36, hji36⟩ : ∃ j_ : Int, (Int.tmod (wrap64 (a1)) (a0.size : Int)) = j_ := ⟨_, rfl⟩
            replace H : (if 0 ≤ (ji36) then (if (ji36) ≤ (a0.size : Int) then (if 0 ≤ (wrap64 ((ji36) + 1)) then (if (wrap64 ((ji36) + 1)) ≤ (a0.size : Int) then (if (a0.extract 0 ((ji36) : Int).toNat).size + (a0.extract ((wrap64 ((ji36) + 1)) : Int).toNat a0.size).size ≤ 9223372036854775807 then (some ((a0.extract 0 ((ji36) : Int).toNat) ++ (a0.extract ((wrap64 ((ji36) + 1)) : Int).toNat a0.size))) else (none)) else (none)) else (none)) else (none)) else (none)) = some r := by first | (rw [hji36] at H; exact H) | (simp only [hji36] at H ⊢; exact H)
            by_cases c37 : 0 ≤ (ji36)
            · rw [if_pos c37] at H
              have c37b0 := eq_true c37
              have c37b1 : decide (0 ≤ (ji36)) = true := decide_eq_true c37
              clear c37
              by_cases c38 : (ji36) ≤ (a0.size : Int)
              · rw [if_pos c38] at H
                have c38b0 := eq_true c38
                have c38b1 : decide ((ji36) ≤ (a0.size : Int)) = true := decide_eq_true c38
                clear c38
                obtain ⟨ji39, hji39⟩ : ∃ j_ : Int, (wrap64 ((ji36) + 1)) = j_ := ⟨_, rfl⟩
                replace H : (if 0 ≤ (ji39) then (if (ji39) ≤ (a0.size : Int) then (if (a0.extract 0 ((ji36) : Int).toNat).size + (a0.extract ((ji39) : Int).toNat a0.size).size ≤ 9223372036854775807 then (some ((a0.extract 0 ((ji36) : Int).toNat) ++ (a0.extract ((ji39) : Int).toNat a0.size))) else (none)) else (none)) else (none)) = some r := by first | (rw [hji39] at H; exact H) | (simp only [hji39] at H ⊢; exact H)
                have hji39w : (IntKind.i64.wrap ((ji36) + 1)) = ji39 := (i64_w _).trans hji39
                by_cases c40 : 0 ≤ (ji39)
                · rw [if_pos c40] at H
                  have c40b0 := eq_true c40
                  have c40b1 : decide (0 ≤ (ji39)) = true := decide_eq_true c40
                  clear c40
                  by_cases c41 : (ji39) ≤ (a0.size : Int)
                  · rw [if_pos c41] at H
                    have c41b0 := eq_true c41
                    have c41b1 : decide ((ji39) ≤ (a0.size : Int)) = true := decide_eq_true c41
                    clear c41
                    by_cases c42 : (a0.extract 0 ((ji36) : Int).toNat).size + (a0.extract ((ji39) : Int).toNat a0.size).size ≤ 9223372036854775807
                    · rw [if_pos c42] at H
                      have c42b0 := eq_true c42
                      have c42b1 : decide ((a0.extract 0 ((ji36) : Int).toNat).size + (a0.extract ((ji39) : Int).toNat a0.size).size ≤ 9223372036854775807) = true := decide_eq_true c42
                      try have c42b2 : (9223372036854775807 < (a0.extract 0 ((ji36) : Int).toNat).size + (a0.extract ((ji39) : Int).toNat a0.size).size) = False := eq_false (Nat.not_lt.2 c42)
                      have c42b3 : (9223372036854775807 < ji36.toNat + (a0.size - ji39.toNat)) = False := eq_false (by have h_ := of_eq_true c42b0; have hji36_ := of_eq_true c38b0; have hji39_ := of_eq_true c41b0; simp only [ByteArray.size_append, ByteArray.size_extract] at h_; omega)
                      obtain rfl := Option.some.inj H
                      go_enter Try.func15, Try.ntmps15
                      try go_wp2
                      have n0_ := Aside0.mk (below_drew1 HB.out)
                      clear HB
                      have HB := n0_
                      clear n0_
                      refine start_ (n := 9) (S := fun w' => True) (ds := []) #[false, false, false, false, false, false, false, false, false] (by kernel_rfl) rfl rfl trivial (fun hHeld => ?_); refine with_tabW interleavescene_Spoil.tab10 interleavescene_Spoil.bits10 (fun HT_ HW_ => ?_)
                      generalize w.drew = w43 at HB hHeld ⊢
                      refine pure_ (i := 0) (N := some 51) (v := ?_) (a' := ?_) #[true, false, false, false, false, false, false, false, false] rfl rfl (any_of HT_.out (by kernel_rfl)) (fun _ _ _ h => h) (Or.inl ⟨by rfl, ?_⟩) ?_ ?_
                      rotate_left
                      · intro w'
                        go_simp
                        with_reducible rfl
                      rotate_left
                      · simp only [Act.put, List.setIfInBounds_toArray, List.set_cons_zero, List.set_cons_succ, i64_w, i32_w]
                        rfl
                      refine pure_ (i := 1) (N := some 52) (v := ?_) (a' := ?_) #[true, true, false, false, false, false, false, false, false] rfl rfl (any_of HT_.out (by kernel_rfl)) (fun _ _ _ h => h) (Or.inl ⟨by rfl, ?_⟩) ?_ ?_
                      rotate_left
                      · intro w'
                        go_simp
                        with_reducible rfl
                      rotate_left
                      · simp only [Act.put, List.setIfInBounds_toArray, List.set_cons_zero, List.set_cons_succ, i64_w, i32_w]
                        rfl
                      refine pure_ (i := 2) (N := some 53) (v := ?_) (a' := ?_) #[true, true, true, false, false, false, false, false, false] rfl rfl (any_of HT_.out (by kernel_rfl)) (fun _ _ _ h => h) (Or.inl ⟨by rfl, ?_⟩) ?_ ?_
                      rotate_left
                      · intro w'
                        go_simp
                        with_reducible rfl
                      rotate_left
                      · simp only [Act.put, List.setIfInBounds_toArray, List.set_cons_zero, List.set_cons_succ, i64_w, i32_w]
                        rfl
                      refine pure_ (i := 3) (N := some 54) (v := ?_) (a' := ?_) #[true, true, true, true, false, false, false, false, false] rfl rfl (any_of HT_.out (by kernel_rfl)) (fun _ _ _ h => h) (Or.inl ⟨by rfl, ?_⟩) ?_ ?_
                      rotate_left
                      · intro w'
                        go_simp
                        with_reducible rfl
                      rotate_left
                      · simp only [Act.put, List.setIfInBounds_toArray, List.set_cons_zero, List.set_cons_succ, i64_w, i32_w]
                        rfl
                      refine pure_ (i := 4) (N := some 55) (v := ?_) (a' := ?_) #[true, true, true, true, true, false, false, false, false] rfl rfl (any_of HT_.out (by kernel_rfl)) (fun _ _ _ h => h) (Or.inl ⟨by rfl, ?_⟩) ?_ ?_
                      rotate_left
                      · intro w'
                        go_simp
                        with_reducible rfl
                      rotate_left
                      · simp only [Act.put, List.setIfInBounds_toArray, List.set_cons_zero, List.set_cons_succ, i64_w, i32_w]
                        rfl
                      refine pure_ (i := 5) (N := some 56) (v := ?_) (a' := ?_) #[true, true, true, true, true, true, false, false, false] rfl rfl (any_of HT_.out (by kernel_rfl)) (fun _ _ _ h => h) (Or.inl ⟨by rfl, ?_⟩) ?_ ?_
                      rotate_left
                      · intro w'
                        go_simp
                        with_reducible rfl
                      rotate_left
                      · simp only [Act.put, List.setIfInBounds_toArray, List.set_cons_zero, List.set_cons_succ, i64_w, i32_w]
                        rfl
                      refine pure_ (i := 6) (N := some 57) (v := ?_) (a' := ?_) #[true, true, true, true, true, true, true, false, false] rfl rfl (any_of HT_.out (by kernel_rfl)) (fun _ _ _ h => h) (Or.inl ⟨by rfl, ?_⟩) ?_ ?_
                      rotate_left
                      · intro w'
                        go_simp
                        with_reducible rfl
                      rotate_left
                      · simp only [Act.put, List.setIfInBounds_toArray, List.set_cons_zero, List.set_cons_succ, i64_w, i32_w]
                        rfl
                      refine pure_ (i := 7) (N := some 58) (v := ?_) (a' := ?_) #[true, true, true, true, true, true, true, true, false] rfl rfl (any_of HT_.out (by kernel_rfl)) (fun _ _ _ h => h) (Or.inl ⟨by rfl, ?_⟩) ?_ ?_
                      rotate_left
                      · intro w'
                        go_simp
                        with_reducible rfl
                      rotate_left
                      · simp only [Act.put, List.setIfInBounds_toArray, List.set_cons_zero, List.set_cons_succ, i64_w, i32_w]
                        rfl
                      refine pure_ (i := 8) (N := some 8) (v := ?_) (a' := ?_) #[true, true, true, true, true, true, true, true, true] rfl rfl (any_of HT_.out (by kernel_rfl)) (fun _ _ _ h => h) (Or.inl ⟨by rfl, ?_⟩) ?_ ?_
                      rotate_left
                      · intro w'
                        go_simp
                        with_reducible rfl
                      rotate_left
                      · simp only [Act.put, List.setIfInBounds_toArray, List.set_cons_zero, List.set_cons_succ, i64_w, i32_w]
                        rfl
                      refine done_ (done_of HT_.out (by kernel_rfl)) ?_
                      try go_wp2
                      go_ret
                      exact ⟨by first | rfl | (simp [errW_none, errW_some] <;> rfl) | (simp only [← hji36, ← hji39]; first | rfl | (simp [errW_none, errW_some] <;> rfl)) | (simp [*, errW_none, errW_some] <;> rfl), by repeat (first | (with_reducible first | exact HB.out | apply below_alloc | apply pw_below_drewN | apply below_drew1) | exact HB.out)⟩
                    · rw [if_neg c42] at H
                      exact absurd H (by simp)
                  · rw [if_neg c41] at H
                    exact absurd H (by simp)
                · rw [if_neg c40] at H
                  exact absurd H (by simp)
              · rw [if_neg c38] at H
                exact absurd H (by simp)
            · rw [if_neg c37] at H
              exact absurd H (by simp)
          · rw [if_neg c35] at H
            have c35b0 : ((Int.tmod a2 6) == 2) = false := beq_eq_false_iff_ne.mpr c35
            have c35b1 : ((Int.tmod a2 6) != 2) = true := bne_iff_ne.mpr c35
            by_cases c44 : (Int.tmod a2 6) = 3
            · rw [if_pos c44] at H
              have c44b0 : ((Int.tmod a2 6) == 3) = true := beq_iff_eq.mpr c44
              have c44b1 : ((Int.tmod a2 6) != 3) = false := bne_eq_false_iff_eq.mpr c44
              clear c44
              obtain ⟨ji45, hji45⟩ : ∃ j_ : Int, (Int.tmod (wrap64 (a1)) (a0.size : Int)) = j_ := ⟨_, rfl⟩
              replace H : (if 0 ≤ (ji45) then (if (ji45) ≤ (a0.size : Int) then (some (a0.extract 0 ((ji45) : Int).toNat)) else (none)) else (none)) = some r := by first | (rw [hji45] at H; exact H) | (simp only [hji45] at H ⊢; exact H)
              by_cases c46 : 0 ≤ (ji45)
              · rw [if_pos c46] at H
                have c46b0 := eq_true c46
                have c46b1 : decide (0 ≤ (ji45)) = true := decide_eq_true c46
                clear c46
                by_cases c47 : (ji45) ≤ (a0.size : Int)
                · rw [if_pos c47] at H
                  have c47b0 := eq_true c47
                  have c47b1 : decide ((ji45) ≤ (a0.size : Int)) = true := decide_eq_true c47
                  clear c47
                  obtain rfl := Option.some.inj H
                  go_enter Try.func15, Try.ntmps15
                  go_wp2
                  go_ret
                  exact ⟨by first | rfl | (simp [errW_none, errW_some] <;> rfl) | (simp only [← hji45]; first | rfl | (simp [errW_none, errW_some] <;> rfl)) | (simp [*, errW_none, errW_some] <;> rfl), by repeat (first | (with_reducible first | exact HB.out | apply below_alloc | apply pw_below_drewN | apply below_drew1) | exact HB.out)⟩
                · rw [if_neg c47] at H
                  exact absurd H (by simp)
              · rw [if_neg c46] at H
                exact absurd H (by simp)
            · rw [if_neg c44] at H
              have c44b0 : ((Int.tmod a2 6) == 3) = false := beq_eq_false_iff_ne.mpr c44
              have c44b1 : ((Int.tmod a2 6) != 3) = true := bne_iff_ne.mpr c44
              by_cases c48 : (Int.tmod a2 6) = 4
              · rw [if_pos c48] at H
                have c48b0 : ((Int.tmod a2 6) == 4) = true := beq_iff_eq.mpr c48
                have c48b1 : ((Int.tmod a2 6) != 4) = false := bne_eq_false_iff_eq.mpr c48
                clear c48
                obtain ⟨ji49, hji49⟩ : ∃ j_ : Int, (Int.tmod (wrap64 (a1)) (a0.size : Int)) = j_ := ⟨_, rfl⟩
                replace H : (if 0 ≤ (ji49) then (if (ji49) ≤ (a0.size : Int) then (if a0.size + (a0.extract ((ji49) : Int).toNat a0.size).size ≤ 9223372036854775807 then (some (a0 ++ (a0.extract ((ji49) : Int).toNat a0.size))) else (none)) else (none)) else (none)) = some r := by first | (rw [hji49] at H; exact H) | (simp only [hji49] at H ⊢; exact H)
                by_cases c50 : 0 ≤ (ji49)
                · rw [if_pos c50] at H
                  have c50b0 := eq_true c50
                  have c50b1 : decide (0 ≤ (ji49)) = true := decide_eq_true c50
                  clear c50
                  by_cases c51 : (ji49) ≤ (a0.size : Int)
                  · rw [if_pos c51] at H
                    have c51b0 := eq_true c51
                    have c51b1 : decide ((ji49) ≤ (a0.size : Int)) = true := decide_eq_true c51
                    clear c51
                    by_cases c52 : a0.size + (a0.extract ((ji49) : Int).toNat a0.size).size ≤ 9223372036854775807
                    · rw [if_pos c52] at H
                      have c52b0 := eq_true c52
                      have c52b1 : decide (a0.size + (a0.extract ((ji49) : Int).toNat a0.size).size ≤ 9223372036854775807) = true := decide_eq_true c52
                      try have c52b2 : (9223372036854775807 < a0.size + (a0.extract ((ji49) : Int).toNat a0.size).size) = False := eq_false (Nat.not_lt.2 c52)
                      have c52b3 : (9223372036854775807 < a0.size + (a0.size - ji49.toNat)) = False := eq_false (by have h_ := of_eq_true c52b0; have hji49_ := of_eq_true c51b0; simp only [ByteArray.size_append, ByteArray.size_extract] at h_; omega)
                      obtain rfl := Option.some.inj H
                      go_enter Try.func15, Try.ntmps15
                      go_wp2
                      go_ret
                      exact ⟨by first | rfl | (simp [errW_none, errW_some] <;> rfl) | (simp only [← hji49]; first | rfl | (simp [errW_none, errW_some] <;> rfl)) | (simp [*, errW_none, errW_some] <;> rfl), by repeat (first | (with_reducible first | exact HB.out | apply below_alloc | apply pw_below_drewN | apply below_drew1) | exact HB.out)⟩
                    · rw [if_neg c52] at H
                      exact absurd H (by simp)
                  · rw [if_neg c51] at H
                    exact absurd H (by simp)
                · rw [if_neg c50] at H
                  exact absurd H (by simp)
              · rw [if_neg c48] at H
                have c48b0 : ((Int.tmod a2 6) == 4) = false := beq_eq_false_iff_ne.mpr c48
                have c48b1 : ((Int.tmod a2 6) != 4) = true := bne_iff_ne.mpr c48
                obtain rfl := Option.some.inj H
                go_enter Try.func15, Try.ntmps15
                go_wp2
                go_ret
                exact ⟨by first | rfl | (simp [errW_none, errW_some] <;> rfl) | (simp [*, errW_none, errW_some] <;> rfl), by repeat (first | (with_reducible first | exact HB.out | apply below_alloc | apply pw_below_drewN | apply below_drew1) | exact HB.out)⟩
end Go.Proofs.Ytnmmkgagbfniiaa.A
end
section
namespace Go.Proofs.Ytnmmkgagbfniiaa.Pl
open Go.RowKit Go.Proofs.YtnmmkgagbfniiaaW.PrintWords Go.Proofs.YtnmmkgagbfniiaaW.PrintMore Go.Proofs.Ytnmmkgagbfniiaa.A
set_option linter.unusedVariables false
theorem size_of_toList {s : ByteArray} (h : ¬ s.toList = []) : 0 < s.size := by
  rcases Nat.eq_zero_or_pos s.size with h0 | h0
  · refine absurd ?_ h
    unfold ByteArray.toList
    unfold ByteArray.toList.loop
    rw [if_neg (by omega)]
    rfl
  · exact h0
theorem bytesOf_bytes (s : ByteArray) : ∀ c ∈ bytesOf s, 0 ≤ c ∧ c < 256 := by
  intro c hc
  unfold bytesOf at hc
  obtain ⟨b, _, rfl⟩ := List.mem_map.1 hc
  have := b.toNat_lt
  omega
theorem spoil_f (s : ByteArray) (hs : s.size ≤ 1000000) {a1 : Int} (h0 : 0 ≤ a1) (h1 : a1 < 65536) (a2 a3 : Int) : ∃ t, interleavescene_Spoil.f s a1 a2 a3 = some t ∧ t.size ≤ 2 * s.size + 1 := by
  unfold interleavescene_Spoil.f
  by_cases c : s.toList = []
  · rw [if_pos c]
    exact ⟨_, rfl, by rw [strOfNums_size]; simp⟩
  · have hp := size_of_toList c
    rw [if_neg c, if_neg (by omega), wrap64_id (x := a1) (by omega) (by omega)]
    obtain ⟨j, hj⟩ : ∃ j : Nat, (Int.tmod a1 (s.size : Int)) = (j : Int) ∧ j < s.size := by
      have e : Int.tmod a1 (s.size : Int) = a1 % (s.size : Int) := Int.tmod_eq_emod_of_nonneg h0
      have l1 := Int.emod_nonneg a1 (show (s.size : Int) ≠ 0 by omega)
      have l2 := Int.emod_lt_of_pos a1 (show (0 : Int) < (s.size : Int) by omega)
      exact ⟨(a1 % (s.size : Int)).toNat, by rw [e]; omega, by omega⟩
    rw [hj.1, wrap64_id (x := (j : Int) + 1) (by omega) (by omega)]
    have hj := hj.2
    have e1 : ((j : Int) + 1).toNat = j + 1 := by omega
    have x1 : (s.extract 0 j).size = j := by rw [ByteArray.size_extract]; omega
    have x2 : (s.extract (j + 1) s.size).size = s.size - (j + 1) := by rw [ByteArray.size_extract]; omega
    have x3 : (s.extract j s.size).size = s.size - j := by rw [ByteArray.size_extract]; omega
    have x4 : (strOfNums [a3]).size = 1 := by rw [strOfNums_size]; rfl
    simp only [Option.bind_some, Int.toNat_natCast, e1]
    by_cases q0 : Int.tmod a2 6 = 0
    · rw [if_pos q0, if_pos (by omega), if_pos (by omega), if_pos (by omega), if_pos (by omega), if_pos (by omega), if_pos (by rw [ByteArray.size_append]; omega)]
      exact ⟨_, rfl, by simp only [ByteArray.size_append]; omega⟩
    · rw [if_neg q0]
      by_cases q1 : Int.tmod a2 6 = 1
      · rw [if_pos q1, if_pos (by omega), if_pos (by omega), if_pos (by omega), if_pos (by rw [ByteArray.size_append]; omega)]
        exact ⟨_, rfl, by simp only [ByteArray.size_append]; omega⟩
      · rw [if_neg q1]
        by_cases q2 : Int.tmod a2 6 = 2
        · rw [if_pos q2, if_pos (by omega), if_pos (by omega), if_pos (by omega), if_pos (by omega), if_pos (by omega)]
          exact ⟨_, rfl, by simp only [ByteArray.size_append]; omega⟩
        · rw [if_neg q2]
          by_cases q3 : Int.tmod a2 6 = 3
          · rw [if_pos q3, if_pos (by omega), if_pos (by omega)]
            exact ⟨_, rfl, by omega⟩
          · rw [if_neg q3]
            by_cases q4 : Int.tmod a2 6 = 4
            · rw [if_pos q4, if_pos (by omega), if_pos (by omega), if_pos (by omega)]
              exact ⟨_, rfl, by simp only [ByteArray.size_append]; omega⟩
            · rw [if_neg q4]
              exact ⟨_, rfl, by omega⟩
end Go.Proofs.Ytnmmkgagbfniiaa.Pl
end
