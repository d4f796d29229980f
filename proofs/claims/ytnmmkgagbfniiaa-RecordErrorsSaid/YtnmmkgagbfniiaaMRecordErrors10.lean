/- MRecordErrors10: texts of this session and of the kit's printer on the road to the statement RecordErrors, laid into one and rid of what it doesn't need. No condition beyond what each fact names. -/
import Derived.Test.YtnmmkgagbfniiaaMRecordErrors3
import Derived.Test.YtnmmkgagbfniiaaMRecordErrors2
import Derived.Test.YtnmmkgagbfniiaaMRecordErrors9
section
namespace Go.Proofs.Ytnmmkgagbfniiaa.A
open Go.RowKit Go.Proofs.YtnmmkgagbfniiaaW.PrintWords Go.Proofs.YtnmmkgagbfniiaaW.PrintLast Go.Proofs.YtnmmkgagbfniiaaW.PrintMore
attribute [local go_sem] max2_int min2_int max_two min_two max_three min_three max_four min_four
set_option linter.unusedVariables false
set_option linter.unusedSimpArgs false
def l14_awake.f (k : Nat)  : Option (Bool) := (record_Files.f k (([(⟨0, 2, 0, 0, 0, ([] : List Int), ([] : List Int)⟩ : S24)] : List (S24))) 1 1 ([] : List (S57)) 1 ([] : List Int)).bind fun bt482 => (if bt482.2 = 0 then (if (bt482.1.length : Int) = 1 then (if 0 < (bt482.1.length : Int) then (some (decide (((rd_L5 bt482.1 0).length : Int) > 10))) else (none)) else (some false)) else (some false))
theorem l14_awake.mono : ∀ k, LeO (l14_awake.f k ) (l14_awake.f (k + 1) ) := by
 intro  k
 unfold l14_awake.f
 exact zM
set_option maxHeartbeats 8000000 in
set_option maxRecDepth 100000 in
theorem l14_awake.calls (k : Nat)  (r : Bool) (w : World) (h : l14_awake.f k  = some r) :
  Calls Try.prog 28 #[] w fun e w' => e = .returned (.bool r) ∧ Below w.heap.size w w' := by
 have hu24 := Try.underlying24
 have hu49 := Try.underlying49
 have HB := am (Below.refl w.heap.size w)
 have H : ((record_Files.f k (([(⟨0, 2, 0, 0, 0, ([] : List Int), ([] : List Int)⟩ : S24)] : List (S24))) 1 1 ([] : List (S57)) 1 ([] : List Int)).bind fun bt482 => (if bt482.2 = 0 then (if (bt482.1.length : Int) = 1 then (if 0 < (bt482.1.length : Int) then (some (decide (((rd_L5 bt482.1 0).length : Int) > 10))) else (none)) else (some false)) else (some false))) = some r := h
 clear h
 obtain ⟨y479, hy479⟩ : ∃ y_ : List (S24), y_ = (([(⟨0, 2, 0, 0, 0, ([] : List Int), ([] : List Int)⟩ : S24)] : List (S24))) := ⟨_, rfl⟩
 replace H : ((record_Files.f k y479 1 1 ([] : List (S57)) 1 ([] : List Int)).bind fun bt482 => (if bt482.2 = 0 then (if (bt482.1.length : Int) = 1 then (if 0 < (bt482.1.length : Int) then (some (decide (((rd_L5 bt482.1 0).length : Int) > 10))) else (none)) else (some false)) else (some false))) = some r := by first | (rw [hy479]; with_reducible exact H) | (have H2_ := (Option.bind_some _ _).symm.trans H; rw [hy479]; with_reducible exact H2_) | (have H2_ := (Option.bind_some _ _).symm.trans H; with_reducible exact H2_) | with_reducible exact H | (rw [hy479]; exact H) | exact H
 have Ny479 := am hy479
 clear hy479
 replace H := Option.bind_eq_some_iff.mp H
 obtain ⟨⟨t482, t485⟩, A10, H⟩ := H
 (try dsimp only at H)
 have A1 := am A10
 clear A10
 by_cases c2 : t485 = 0
 ·
  rw [if_pos c2] at H
  obtain ⟨c2b0, c2b1⟩ := zt c2
  clear c2
  by_cases c3 : (t482.length : Int) = 1
  ·
   rw [if_pos c3] at H
   obtain ⟨c3b0, c3b1⟩ := zt c3
   clear c3
   by_cases c4 : 0 < (t482.length : Int)
   ·
    rw [if_pos c4] at H
    have c4b0 := decide_eq_true c4
    have c4b1 : decide (0 < t482.length) = true := decide_eq_true (by omega)
    clear c4
    obtain rfl := Option.some.inj H
    go_enter Try.func28, Try.ntmps28
    go_wp2_with (first | ((with_reducible refine gate_dst (N := 5) rfl ?_); (try (refine gate_guard (by rfl) ?_; dsimp only)); refine Kd.S_lit k24 _ 24 ?hg (N := 5) ?hd (xs := ([(⟨0, 2, 0, 0, 0, ([] : List Int), ([] : List Int)⟩ : S24)] : List (S24))) (inner := [.int .i64 0, .int .i64 2, .int .i64 0, .int .i64 0, .int .i64 0, .slice none 0 0, .slice none 0 0]) (ok := fun _ => True) (okp := fun _ => True) ?hr ?hp (fun _ hk => hk) trivial (Below.refl _ _) (Nat.le_refl _) (by simp) ?_; (case hd => rfl); (case hg => rfl); (case hr => exact y6); (case hp => exact y11); intro v480 w5 ho6 hb hg_ hnew_; clear hg_ hnew_; (first | rw [← Ny479.out] at ho6 | (simp only [Int.reduceToNat] at ho6; rw [← Ny479.out] at ho6)); have HO481 := am (Kd.S_lower ho6 (below_size (zb HB))); replace HB := am (below_step (zb HB) hb); clear hb ho6; obtain ⟨Ao7, co7, eo7⟩ := Kd.S_slice HO481.out; subst eo7) | ((with_reducible refine gate_callee (f := 25) rfl ?_); refine goesL_ (some 7) rfl rfl Try.func25 (by kernel_rfl) rfl #[.slice Ao7 y479.length co7, .int .i64 1, .agg #[.int .i64 1, .slice none 0 0, .int .i64 1, .slice none 0 0]] rfl zg ?_; (refine (record_Files.calls k _ _ y479 1 1 _ _ ([] : List (S57)) 1 _ _ ([] : List Int) t482 t485 _ ?side1 ?side2 ?side3 ?side4 ?side5 ?side6 A1.out).mono ?_); (case side1 => exact zC ((Kd.S_reads' HO481.out).2.2)); (case side2 => exact (Kd.S_reads' HO481.out).2.1); (case side3 => exact Kd.C_nil _ _); (case side4 => exact Nat.le_refl _); (case side5 => exact Kd.C_nil _ _); (case side6 => exact Nat.le_refl _); rintro e w8 ⟨v483, rfl, ho0, hb⟩; refine ⟨_, rfl, ?_⟩; replace HO481 := am (Kd.S_below (zS HO481.out) hb); have HO484 := am (Kd.S_lower ho0 (below_size (zb HB))); replace HB := am (below_step (zb HB) hb); clear hb ho0; obtain ⟨Ao9, co9, eo9⟩ := Kd.S_slice HO484.out; subst eo9; have p486 : 0 ≤ (0 : Int) := (by omega); have q486 : 0 < (t482.length : Int) := zo; obtain ⟨ad486, A486_0, c486_0, e486, hx486_0, hl486_0, hi486_0⟩ := at_L5 (Kd.S_reads' HO484.out).2.2 0 p486 q486; cases e486; obtain ⟨ce486, hce486, hMe486, hcc486⟩ := Kd.S_get HO484.out [] 0 p486 (by first | exact q486 | exact zo | (have e_ := (Kd.S_reads' HO484.out).1; omega)); obtain ⟨ve486_0, rfl, ge486_0⟩ := hMe486; have hv486_0 := hcc486 0 _ rfl; rw [Nat.add_zero, show ((Kd.slice 5 (Kd.int .u8))).sz = 1 from rfl, Nat.mul_one] at hv486_0; replace hv486_0 := Option.some.inj (hv486_0.symm.trans hx486_0); rw [hv486_0] at ge486_0; have HL486_0 := am (show Kd.R (Kd.int .u8) 5 _ _ _ _ (rd_L5 t482 0) from ge486_0); clear hv486_0 ge486_0; clear hcc486 hce486; have qi486 : (0 < t482.length) = True := eq_true (by omega); (try rw [show ((0 : Int)).toNat = 0 from rfl] at hx486_0); (try rw [Addr.add_zero'] at hx486_0); have HR486_0 := am hi486_0; have HC486_0 := am hl486_0; clear hi486_0 hl486_0; replace p486 := eq_true p486; replace q486 := eq_true q486))
    go_ret
    exact ⟨ze, zb HB⟩
   ·
    rw [if_neg c4] at H
    exact absurd H (by simp)
  ·
   rw [if_neg c3] at H
   obtain ⟨c3b0, c3b1⟩ := zs c3
   obtain rfl := Option.some.inj H
   go_enter Try.func28, Try.ntmps28
   go_wp2_with (first | ((with_reducible refine gate_dst (N := 5) rfl ?_); (try (refine gate_guard (by rfl) ?_; dsimp only)); refine Kd.S_lit k24 _ 24 ?hg (N := 5) ?hd (xs := ([(⟨0, 2, 0, 0, 0, ([] : List Int), ([] : List Int)⟩ : S24)] : List (S24))) (inner := [.int .i64 0, .int .i64 2, .int .i64 0, .int .i64 0, .int .i64 0, .slice none 0 0, .slice none 0 0]) (ok := fun _ => True) (okp := fun _ => True) ?hr ?hp (fun _ hk => hk) trivial (Below.refl _ _) (Nat.le_refl _) (by simp) ?_; (case hd => rfl); (case hg => rfl); (case hr => exact y6); (case hp => exact y11); intro v480 w10 ho11 hb hg_ hnew_; clear hg_ hnew_; (first | rw [← Ny479.out] at ho11 | (simp only [Int.reduceToNat] at ho11; rw [← Ny479.out] at ho11)); have HO481 := am (Kd.S_lower ho11 (below_size (zb HB))); replace HB := am (below_step (zb HB) hb); clear hb ho11; obtain ⟨Ao12, co12, eo12⟩ := Kd.S_slice HO481.out; subst eo12) | ((with_reducible refine gate_callee (f := 25) rfl ?_); refine goesL_ (some 7) rfl rfl Try.func25 (by kernel_rfl) rfl #[.slice Ao12 y479.length co12, .int .i64 1, .agg #[.int .i64 1, .slice none 0 0, .int .i64 1, .slice none 0 0]] rfl zg ?_; (refine (record_Files.calls k _ _ y479 1 1 _ _ ([] : List (S57)) 1 _ _ ([] : List Int) t482 t485 _ ?side1 ?side2 ?side3 ?side4 ?side5 ?side6 A1.out).mono ?_); (case side1 => exact zC ((Kd.S_reads' HO481.out).2.2)); (case side2 => exact (Kd.S_reads' HO481.out).2.1); (case side3 => exact Kd.C_nil _ _); (case side4 => exact Nat.le_refl _); (case side5 => exact Kd.C_nil _ _); (case side6 => exact Nat.le_refl _); rintro e w13 ⟨v483, rfl, ho0, hb⟩; refine ⟨_, rfl, ?_⟩; replace HO481 := am (Kd.S_below (zS HO481.out) hb); have HO484 := am (Kd.S_lower ho0 (below_size (zb HB))); replace HB := am (below_step (zb HB) hb); clear hb ho0; obtain ⟨Ao14, co14, eo14⟩ := Kd.S_slice HO484.out; subst eo14))
   go_ret
   exact ⟨ze, zb HB⟩
 ·
  rw [if_neg c2] at H
  obtain ⟨c2b0, c2b1⟩ := zs c2
  obtain rfl := Option.some.inj H
  go_enter Try.func28, Try.ntmps28
  go_wp2_with (first | ((with_reducible refine gate_dst (N := 5) rfl ?_); (try (refine gate_guard (by rfl) ?_; dsimp only)); refine Kd.S_lit k24 _ 24 ?hg (N := 5) ?hd (xs := ([(⟨0, 2, 0, 0, 0, ([] : List Int), ([] : List Int)⟩ : S24)] : List (S24))) (inner := [.int .i64 0, .int .i64 2, .int .i64 0, .int .i64 0, .int .i64 0, .slice none 0 0, .slice none 0 0]) (ok := fun _ => True) (okp := fun _ => True) ?hr ?hp (fun _ hk => hk) trivial (Below.refl _ _) (Nat.le_refl _) (by simp) ?_; (case hd => rfl); (case hg => rfl); (case hr => exact y6); (case hp => exact y11); intro v480 w15 ho16 hb hg_ hnew_; clear hg_ hnew_; (first | rw [← Ny479.out] at ho16 | (simp only [Int.reduceToNat] at ho16; rw [← Ny479.out] at ho16)); have HO481 := am (Kd.S_lower ho16 (below_size (zb HB))); replace HB := am (below_step (zb HB) hb); clear hb ho16; obtain ⟨Ao17, co17, eo17⟩ := Kd.S_slice HO481.out; subst eo17) | ((with_reducible refine gate_callee (f := 25) rfl ?_); refine goesL_ (some 7) rfl rfl Try.func25 (by kernel_rfl) rfl #[.slice Ao17 y479.length co17, .int .i64 1, .agg #[.int .i64 1, .slice none 0 0, .int .i64 1, .slice none 0 0]] rfl zg ?_; (refine (record_Files.calls k _ _ y479 1 1 _ _ ([] : List (S57)) 1 _ _ ([] : List Int) t482 t485 _ ?side1 ?side2 ?side3 ?side4 ?side5 ?side6 A1.out).mono ?_); (case side1 => exact zC ((Kd.S_reads' HO481.out).2.2)); (case side2 => exact (Kd.S_reads' HO481.out).2.1); (case side3 => exact Kd.C_nil _ _); (case side4 => exact Nat.le_refl _); (case side5 => exact Kd.C_nil _ _); (case side6 => exact Nat.le_refl _); rintro e w18 ⟨v483, rfl, ho0, hb⟩; refine ⟨_, rfl, ?_⟩; replace HO481 := am (Kd.S_below (zS HO481.out) hb); have HO484 := am (Kd.S_lower ho0 (below_size (zb HB))); replace HB := am (below_step (zb HB) hb); clear hb ho0))
  go_ret
  exact ⟨ze, zb HB⟩
end Go.Proofs.Ytnmmkgagbfniiaa.A
end
