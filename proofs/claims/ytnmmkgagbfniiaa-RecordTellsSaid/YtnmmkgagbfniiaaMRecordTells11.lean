/- MRecordTells11: texts of this session and of the kit's printer on the road to the statement RecordTells, laid into one and rid of what it doesn't need. No condition beyond what each fact names. -/
import Derived.Test.YtnmmkgagbfniiaaMRecordTells4
import Derived.Test.YtnmmkgagbfniiaaMRecordTells3
import Derived.Test.YtnmmkgagbfniiaaMRecordTells10
import Derived.Test.YtnmmkgagbfniiaaMRecordTells7
import Derived.Test.YtnmmkgagbfniiaaMRecordTells8
import Derived.Test.YtnmmkgagbfniiaaMRecordTells9
section
namespace Go.Proofs.Ytnmmkgagbfniiaa.A
open Go.RowKit Go.Proofs.YtnmmkgagbfniiaaW.PrintWords Go.Proofs.YtnmmkgagbfniiaaW.PrintLast Go.Proofs.YtnmmkgagbfniiaaW.PrintMore
attribute [local go_sem] max2_int min2_int max_two min_two max_three min_three max_four min_four
set_option linter.unusedVariables false
set_option linter.unusedSimpArgs false
def j11_Encode.f (k : Nat) (a0_0 : Int) (a0_1 : Int) (l0_2 : List (S26)) : Option (List Int × Int) := (j11_Fits.f k a0_0 a0_1 l0_2).bind fun t385 => (if t385 = 0 then ((j11_Payload.f k a0_0 a0_1 l0_2).bind fun t386 => ((j11_Pack.f k t386).bind fun t389 => ((j11_PutInt.f k (([84, (a0_0) % 256] : List Int)) a0_1).bind fun t395 => ((j11_PutInt.f k t395 (l0_2.length : Int)).bind fun t398 => ((j11_PutInt.f k t398 (t386.length : Int)).bind fun t401 => ((j11_PutInt.f k t401 (t389.length : Int)).bind fun t404 => (if t404.length + t389.length < 140737488355328 then ((some (t404 ++ t389 : List Int)).bind fun y407 => ((j11_Sum.f k y407).bind fun t410 => ((some (([(t410 / 16777216) % 256, (t410 / 65536) % 256, (t410 / 256) % 256, (t410) % 256] : List Int) : List Int)).bind fun y411 => (if y407.length + y411.length < 140737488355328 then (some ((y407 ++ y411), 0)) else (none))))) else (none)))))))) else (some (([] : List Int), t385)))
theorem j11_Encode.mono : ∀ a0 a1 a2 k, LeO (j11_Encode.f k a0 a1 a2) (j11_Encode.f (k + 1) a0 a1 a2) := by
 intro a0 a1 a2 k
 unfold j11_Encode.f
 exact zM
set_option maxHeartbeats 8000000 in
set_option maxRecDepth 100000 in
theorem j11_Encode.calls (k : Nat) (a0_0 : Int) (a0_1 : Int) (A0_2 : Option Addr) (c0_2 : Nat) (l0_2 : List (S26)) (r1 : List Int) (r2 : Int) (w : World) (hr0_2 : Kd.C k26 w A0_2 l0_2.length l0_2) (hc0_2 : l0_2.length ≤ c0_2) (h : j11_Encode.f k a0_0 a0_1 l0_2 = some (r1, r2)) :
  Calls Try.prog 22 #[.agg #[.int .i64 a0_0, .int .i64 a0_1, .slice A0_2 l0_2.length c0_2]] w fun e w' => ∃ v0_ : Value, e = .returned (.tuple #[v0_, .int .i64 r2]) ∧ Kd.R (Kd.int .u8) 5 w' w.heap.size (fun _ => True) v0_ r1 ∧ Below w.heap.size w w' := by
 have hu42 := Try.underlying42
 have HR0_2 := am hr0_2
 have HC0_2 := am hc0_2
 clear hr0_2 hc0_2
 have HB := am (Below.refl w.heap.size w)
 have H : ((j11_Fits.f k a0_0 a0_1 l0_2).bind fun t385 => (if t385 = 0 then ((j11_Payload.f k a0_0 a0_1 l0_2).bind fun t386 => ((j11_Pack.f k t386).bind fun t389 => ((j11_PutInt.f k (([84, (a0_0) % 256] : List Int)) a0_1).bind fun t395 => ((j11_PutInt.f k t395 (l0_2.length : Int)).bind fun t398 => ((j11_PutInt.f k t398 (t386.length : Int)).bind fun t401 => ((j11_PutInt.f k t401 (t389.length : Int)).bind fun t404 => (if t404.length + t389.length < 140737488355328 then ((some (t404 ++ t389 : List Int)).bind fun y407 => ((j11_Sum.f k y407).bind fun t410 => ((some (([(t410 / 16777216) % 256, (t410 / 65536) % 256, (t410 / 256) % 256, (t410) % 256] : List Int) : List Int)).bind fun y411 => (if y407.length + y411.length < 140737488355328 then (some ((y407 ++ y411), 0)) else (none))))) else (none)))))))) else (some (([] : List Int), t385)))) = some (r1, r2) := h
 clear h
 replace H := Option.bind_eq_some_iff.mp H
 obtain ⟨t385, A20, H⟩ := H
 (try dsimp only at H)
 have A2 := am A20
 clear A20
 by_cases c3 : t385 = 0
 ·
  rw [if_pos c3] at H
  obtain ⟨c3b0, c3b1⟩ := zt c3
  clear c3
  replace H := Option.bind_eq_some_iff.mp H
  obtain ⟨t386, A40, H⟩ := H
  (try dsimp only at H)
  have A4 := am A40
  clear A40
  replace H := Option.bind_eq_some_iff.mp H
  obtain ⟨t389, A50, H⟩ := H
  (try dsimp only at H)
  have A5 := am A50
  clear A50
  obtain ⟨y392, hy392⟩ : ∃ y_ : List Int, y_ = (([84, (a0_0) % 256] : List Int)) := ⟨_, rfl⟩
  replace H : ((j11_PutInt.f k y392 a0_1).bind fun t395 => ((j11_PutInt.f k t395 (l0_2.length : Int)).bind fun t398 => ((j11_PutInt.f k t398 (t386.length : Int)).bind fun t401 => ((j11_PutInt.f k t401 (t389.length : Int)).bind fun t404 => (if t404.length + t389.length < 140737488355328 then ((some (t404 ++ t389 : List Int)).bind fun y407 => ((j11_Sum.f k y407).bind fun t410 => ((some (([(t410 / 16777216) % 256, (t410 / 65536) % 256, (t410 / 256) % 256, (t410) % 256] : List Int) : List Int)).bind fun y411 => (if y407.length + y411.length < 140737488355328 then (some ((y407 ++ y411), 0)) else (none))))) else (none)))))) = some (r1, r2) := by first | (rw [hy392]; with_reducible exact H) | (have H2_ := (Option.bind_some _ _).symm.trans H; rw [hy392]; with_reducible exact H2_) | (have H2_ := (Option.bind_some _ _).symm.trans H; with_reducible exact H2_) | with_reducible exact H | (rw [hy392]; exact H) | exact H
  have Ny392 := am hy392
  clear hy392
  replace H := Option.bind_eq_some_iff.mp H
  obtain ⟨t395, A60, H⟩ := H
  (try dsimp only at H)
  have A6 := am A60
  clear A60
  replace H := Option.bind_eq_some_iff.mp H
  obtain ⟨t398, A70, H⟩ := H
  (try dsimp only at H)
  have A7 := am A70
  clear A70
  replace H := Option.bind_eq_some_iff.mp H
  obtain ⟨t401, A80, H⟩ := H
  (try dsimp only at H)
  have A8 := am A80
  clear A80
  replace H := Option.bind_eq_some_iff.mp H
  obtain ⟨t404, A90, H⟩ := H
  (try dsimp only at H)
  have A9 := am A90
  clear A90
  by_cases c10 : t404.length + t389.length < 140737488355328
  ·
   rw [if_pos c10] at H
   have LMc10 := am c10
   clear c10
   obtain ⟨y407, hy407⟩ : ∃ y_ : List Int, y_ = (t404 ++ t389) := ⟨_, rfl⟩
   replace H : ((j11_Sum.f k y407).bind fun t410 => ((some (([(t410 / 16777216) % 256, (t410 / 65536) % 256, (t410 / 256) % 256, (t410) % 256] : List Int) : List Int)).bind fun y411 => (if y407.length + y411.length < 140737488355328 then (some ((y407 ++ y411), 0)) else (none)))) = some (r1, r2) := by first | (rw [hy407]; with_reducible exact H) | (have H2_ := (Option.bind_some _ _).symm.trans H; rw [hy407]; with_reducible exact H2_) | (have H2_ := (Option.bind_some _ _).symm.trans H; with_reducible exact H2_) | with_reducible exact H | (rw [hy407]; exact H) | exact H
   have Ny407 := am hy407
   clear hy407
   replace H := Option.bind_eq_some_iff.mp H
   obtain ⟨t410, A110, H⟩ := H
   (try dsimp only at H)
   have A11 := am A110
   clear A110
   obtain ⟨y411, hy411⟩ : ∃ y_ : List Int, y_ = (([(t410 / 16777216) % 256, (t410 / 65536) % 256, (t410 / 256) % 256, (t410) % 256] : List Int)) := ⟨_, rfl⟩
   replace H : (if y407.length + y411.length < 140737488355328 then (some ((y407 ++ y411), 0)) else (none)) = some (r1, r2) := by first | (rw [hy411]; with_reducible exact H) | (have H2_ := (Option.bind_some _ _).symm.trans H; rw [hy411]; with_reducible exact H2_) | (have H2_ := (Option.bind_some _ _).symm.trans H; with_reducible exact H2_) | with_reducible exact H | (rw [hy411]; exact H) | exact H
   have Ny411 := am hy411
   clear hy411
   by_cases c12 : y407.length + y411.length < 140737488355328
   ·
    rw [if_pos c12] at H
    have LMc12 := am c12
    clear c12
    obtain ⟨y414, hy414⟩ : ∃ y_ : List Int, y_ = (y407 ++ y411) := ⟨_, rfl⟩
    replace H : (some (y414, 0)) = some (r1, r2) := by first | (rw [hy414]; with_reducible exact H) | (have H2_ := (Option.bind_some _ _).symm.trans H; rw [hy414]; with_reducible exact H2_) | (have H2_ := (Option.bind_some _ _).symm.trans H; with_reducible exact H2_) | with_reducible exact H | (rw [hy414]; exact H) | exact H
    have Ny414 := am hy414
    clear hy414
    simp only [Option.some.injEq, Prod.mk.injEq] at H
    obtain ⟨rfl, rfl⟩ := H
    go_enter Try.func22, Try.ntmps22
    go_wp2_with (first | ((with_reducible refine gate_dst (N := 1) rfl ?_); refine zB 1 #[.int .i64 a0_0, .int .i64 a0_1, .slice A0_2 l0_2.length c0_2] 42 ?_; intro gb384 hg w13 hbox hb; have BK384 := am (hbox); have GE384 := zG hg (zb HB); replace HB := am (below_step (zb HB) hb); clear hb hbox hg; obtain ⟨_, _, _, _, _, _⟩ := zq3 BK384) | ((with_reducible refine gate_callee (f := 53) rfl ?_); refine goesL_ (some 10) rfl rfl Try.func53 (by kernel_rfl) rfl #[.agg #[.int .i64 a0_0, .int .i64 a0_1, .slice A0_2 l0_2.length c0_2]] rfl zg ?_; (with_reducible refine (j11_Fits.calls k a0_0 a0_1 _ _ l0_2 t385 _ ?side1 ?side2 A2.out).mono ?_); (case side1 => exact y37); (case side2 => exact HC0_2.out); rintro e w15 ⟨rfl, hb⟩; refine ⟨_, rfl, ?_⟩; replace BK384 := zk BK384 hb; replace HB := am (below_step (zb HB) hb); clear hb; obtain ⟨_, _, _, _, _, _⟩ := zq3 BK384) | ((with_reducible refine gate_callee (f := 54) rfl ?_); refine goesL_ (some 15) rfl rfl Try.func54 (by kernel_rfl) rfl #[.agg #[.int .i64 a0_0, .int .i64 a0_1, .slice A0_2 l0_2.length c0_2]] rfl zg ?_; (with_reducible refine (j11_Payload.calls k a0_0 a0_1 _ _ l0_2 t386 _ ?side1 ?side2 A4.out).mono ?_); (case side1 => exact y37); (case side2 => exact HC0_2.out); rintro e w17 ⟨v387, rfl, ho0, hb⟩; refine ⟨_, rfl, ?_⟩; have HO388 := am (Kd.R_lower ho0 (below_size (zb HB))); replace BK384 := zk BK384 hb; replace HB := am (below_step (zb HB) hb); clear hb ho0; obtain ⟨Ao18, co18, eo18⟩ := Kd.R_slice HO388.out; subst eo18) | ((with_reducible refine gate_callee (f := 55) rfl ?_); refine goesL_ (some 17) rfl rfl Try.func55 (by kernel_rfl) rfl #[.slice Ao18 t386.length co18] rfl zg ?_; (with_reducible refine (j11_Pack.calls k _ _ t386 t389 _ ?side1 ?side2 A5.out).mono ?_); (case side1 => exact zC ((Kd.R_reads' HO388.out).2.2)); (case side2 => exact (Kd.R_reads' HO388.out).2.1); rintro e w19 ⟨v390, rfl, ho0, hb⟩; refine ⟨_, rfl, ?_⟩; have HO391 := am (Kd.R_lower (Kd.R_new' ho0 (Kd.R_lt (zR HO388.out))) (below_size (zb HB))); replace HO388 := am (Kd.R_elder' (zR HO388.out) (Kd.R_base ho0) hb); replace BK384 := zk BK384 hb; replace HB := am (below_step (zb HB) hb); clear hb ho0; obtain ⟨_, _, _, _, _, _⟩ := zq3 BK384) | ((with_reducible refine gate_dst (N := 21) rfl ?_); refine Kd.R_lit (Kd.int .u8) _ 5 ?hg (N := 21) ?hd (xs := ([84, (a0_0) % 256] : List Int)) (inner := [.int .u8 84, .int .u8 ((a0_0) % 256)]) (ok := fun _ => True) (okp := fun _ => True) ?hr ?hp (fun _ hk => hk) trivial (Below.refl _ _) (Nat.le_refl _) (by simp) ?_; (case hd => rfl); (case hg => rfl); (case hr => exact y21); (case hp => exact y26); intro v393 w21 ho22 hb hg_ hnew_; clear hg_ hnew_; (first | rw [← Ny392.out] at ho22 | (simp only [Int.reduceToNat] at ho22; rw [← Ny392.out] at ho22)); have HO394 := am (Kd.R_lower (Kd.R_new' (Kd.R_new' ho22 (Kd.R_lt (zR HO388.out))) (Kd.R_lt (zR HO391.out))) (below_size (zb HB))); replace HO388 := am (Kd.R_elder' (zR HO388.out) (Kd.R_base ho22) hb); replace HO391 := am (Kd.R_elder' (zR HO391.out) (Kd.R_base ho22) hb); replace BK384 := zk BK384 hb; replace HB := am (below_step (zb HB) hb); clear hb ho22; obtain ⟨_, _, _, _, _, _⟩ := zq3 BK384; obtain ⟨Ao24, co24, eo24⟩ := Kd.R_slice HO394.out; subst eo24) | ((with_reducible refine gate_callee (f := 45) rfl ?_); refine goesL_ (some 25) rfl rfl Try.func45 (by kernel_rfl) rfl #[.slice Ao24 y392.length co24, .int .i64 a0_1] rfl zg ?_; (with_reducible refine (j11_PutInt.calls k _ _ y392 a0_1 t395 _ ?side1 ?side2 A6.out).mono ?_); (case side1 => exact zC ((Kd.R_reads' HO394.out).2.2)); (case side2 => exact (Kd.R_reads' HO394.out).2.1); rintro e w25 ⟨v396, rfl, ho0, hb⟩; refine ⟨_, rfl, ?_⟩; have HO397 := am (Kd.R_lower (Kd.R_new' (Kd.R_new' (Kd.R_new' ho0 (Kd.R_lt (zR HO388.out))) (Kd.R_lt (zR HO391.out))) (Kd.R_lt (zR HO394.out))) (below_size (zb HB))); replace HO388 := am (Kd.R_elder' (zR HO388.out) (Kd.R_base ho0) hb); replace HO391 := am (Kd.R_elder' (zR HO391.out) (Kd.R_base ho0) hb); replace HO394 := am (Kd.R_elder' (zR HO394.out) (Kd.R_base ho0) hb); replace BK384 := zk BK384 hb; replace HB := am (below_step (zb HB) hb); clear hb ho0; obtain ⟨_, _, _, _, _, _⟩ := zq3 BK384; obtain ⟨Ao27, co27, eo27⟩ := Kd.R_slice HO397.out; subst eo27) | ((with_reducible refine gate_callee (f := 45) rfl ?_); refine goesL_ (some 30) rfl rfl Try.func45 (by kernel_rfl) rfl #[.slice Ao27 t395.length co27, .int .i64 (l0_2.length : Int)] rfl zg ?_; (with_reducible refine (j11_PutInt.calls k _ _ t395 (l0_2.length : Int) t398 _ ?side1 ?side2 A7.out).mono ?_); (case side1 => exact zC ((Kd.R_reads' HO397.out).2.2)); (case side2 => exact (Kd.R_reads' HO397.out).2.1); rintro e w28 ⟨v399, rfl, ho0, hb⟩; refine ⟨_, rfl, ?_⟩; have HO400 := am (Kd.R_lower (Kd.R_new' (Kd.R_new' (Kd.R_new' (Kd.R_new' ho0 (Kd.R_lt (zR HO388.out))) (Kd.R_lt (zR HO391.out))) (Kd.R_lt (zR HO394.out))) (Kd.R_lt (zR HO397.out))) (below_size (zb HB))); replace HO388 := am (Kd.R_elder' (zR HO388.out) (Kd.R_base ho0) hb); replace HO391 := am (Kd.R_elder' (zR HO391.out) (Kd.R_base ho0) hb); replace HO394 := am (Kd.R_elder' (zR HO394.out) (Kd.R_base ho0) hb); replace HO397 := am (Kd.R_elder' (zR HO397.out) (Kd.R_base ho0) hb); replace BK384 := zk BK384 hb; replace HB := am (below_step (zb HB) hb); clear hb ho0; obtain ⟨Ao29, co29, eo29⟩ := Kd.R_slice HO400.out; subst eo29) | ((with_reducible refine gate_callee (f := 45) rfl ?_); refine goesL_ (some 34) rfl rfl Try.func45 (by kernel_rfl) rfl #[.slice Ao29 t398.length co29, .int .i64 (t386.length : Int)] rfl zg ?_; (with_reducible refine (j11_PutInt.calls k _ _ t398 (t386.length : Int) t401 _ ?side1 ?side2 A8.out).mono ?_); (case side1 => exact zC ((Kd.R_reads' HO400.out).2.2)); (case side2 => exact (Kd.R_reads' HO400.out).2.1); rintro e w30 ⟨v402, rfl, ho0, hb⟩; refine ⟨_, rfl, ?_⟩; have HO403 := am (Kd.R_lower (Kd.R_new' (Kd.R_new' (Kd.R_new' (Kd.R_new' (Kd.R_new' ho0 (Kd.R_lt (zR HO388.out))) (Kd.R_lt (zR HO391.out))) (Kd.R_lt (zR HO394.out))) (Kd.R_lt (zR HO397.out))) (Kd.R_lt (zR HO400.out))) (below_size (zb HB))); replace HO388 := am (Kd.R_elder' (zR HO388.out) (Kd.R_base ho0) hb); replace HO391 := am (Kd.R_elder' (zR HO391.out) (Kd.R_base ho0) hb); replace HO394 := am (Kd.R_elder' (zR HO394.out) (Kd.R_base ho0) hb); replace HO397 := am (Kd.R_elder' (zR HO397.out) (Kd.R_base ho0) hb); replace HO400 := am (Kd.R_elder' (zR HO400.out) (Kd.R_base ho0) hb); replace BK384 := zk BK384 hb; replace HB := am (below_step (zb HB) hb); clear hb ho0; obtain ⟨Ao31, co31, eo31⟩ := Kd.R_slice HO391.out; subst eo31; obtain ⟨Ao32, co32, eo32⟩ := Kd.R_slice HO403.out; subst eo32) | ((with_reducible refine gate_callee (f := 45) rfl ?_); refine goesL_ (some 38) rfl rfl Try.func45 (by kernel_rfl) rfl #[.slice Ao32 t401.length co32, .int .i64 (t389.length : Int)] rfl zg ?_; (with_reducible refine (j11_PutInt.calls k _ _ t401 (t389.length : Int) t404 _ ?side1 ?side2 A9.out).mono ?_); (case side1 => exact zC ((Kd.R_reads' HO403.out).2.2)); (case side2 => exact (Kd.R_reads' HO403.out).2.1); rintro e w33 ⟨v405, rfl, ho0, hb⟩; refine ⟨_, rfl, ?_⟩; have HO406 := am (Kd.R_lower (Kd.R_new' (Kd.R_new' (Kd.R_new' (Kd.R_new' (Kd.R_new' (Kd.R_new' ho0 (Kd.R_lt (zR HO388.out))) (Kd.R_lt (zR HO391.out))) (Kd.R_lt (zR HO394.out))) (Kd.R_lt (zR HO397.out))) (Kd.R_lt (zR HO400.out))) (Kd.R_lt (zR HO403.out))) (below_size (zb HB))); replace HO388 := am (Kd.R_elder' (zR HO388.out) (Kd.R_base ho0) hb); replace HO391 := am (Kd.R_elder' (zR HO391.out) (Kd.R_base ho0) hb); replace HO394 := am (Kd.R_elder' (zR HO394.out) (Kd.R_base ho0) hb); replace HO397 := am (Kd.R_elder' (zR HO397.out) (Kd.R_base ho0) hb); replace HO400 := am (Kd.R_elder' (zR HO400.out) (Kd.R_base ho0) hb); replace HO403 := am (Kd.R_elder' (zR HO403.out) (Kd.R_base ho0) hb); replace BK384 := zk BK384 hb; replace HB := am (below_step (zb HB) hb); clear hb ho0) | ((with_reducible refine gate_builtin (b := .append) (xs := #[.tmp 39, .tmp 40]) rfl ?_); at_builtin; refine Kd.R_append_rows (Kd.int .u8) (w0 := w) w.heap.size rfl (.tmp 39) (.tmp 40) 27 5 (.int .u8 0) 1 rfl Try.underlying27 info5 rfl (by decide) (by omega) v405 t404 t389 _ _ _ (fun k_ => some k_ ≠ (.slice Ao18 t386.length co18 : Value).ownBlock ∧ some k_ ≠ (.slice Ao31 t389.length co31 : Value).ownBlock ∧ some k_ ≠ (.slice Ao24 y392.length co24 : Value).ownBlock ∧ some k_ ≠ (.slice Ao27 t395.length co27 : Value).ownBlock ∧ some k_ ≠ (.slice Ao29 t398.length co29 : Value).ownBlock ∧ some k_ ≠ (.slice Ao32 t401.length co32 : Value).ownBlock) (fun _ => False) rfl rfl ?aO ?aR (fun _ _ h => h) (fun _ h => h.elim) ?aF ?aB ?aS ?aL ?_; (case aR => repeat (first | exact (Kd.R_reads' HO391.out).2.2 | (with_reducible refine Kd.C_alloc ?_ _) | (with_reducible refine Kd.C_drewN ?_ _) | (with_reducible refine Kd.C_drew ?_))); (case aB => exact (zb HB)); (case aF => exact (fun k_ hk => ⟨Kd.fresh' (Kd.R_lt (zR HO388.out)) k_ hk, Kd.fresh' (Kd.R_lt (zR HO391.out)) k_ hk, Kd.fresh' (Kd.R_lt (zR HO394.out)) k_ hk, Kd.fresh' (Kd.R_lt (zR HO397.out)) k_ hk, Kd.fresh' (Kd.R_lt (zR HO400.out)) k_ hk, Kd.fresh' (Kd.R_lt (zR HO403.out)) k_ hk⟩)); (case aO => exact (by (with_reducible repeat (first | apply Kd.R_alloc | apply Kd.R_drewN | apply Kd.R_drew)); exact Kd.R_mono HO406.out (fun _ hk => ⟨hk.1.1.1.1.1.2, ⟨hk.1.1.1.1.2, ⟨hk.1.1.1.2, ⟨hk.1.1.2, ⟨hk.1.2, hk.2⟩⟩⟩⟩⟩))); (case aS => exact y24); (case aL => have := LMc10.out; omega); intro v408 w34 ho hb hg hat; rw [← Ny407.out] at ho; have n0_ := am (blk_grown (g := gb384) (o := .cells #[.int .i64 a0_0, .int .i64 a0_1, .slice A0_2 l0_2.length c0_2] 42 (0, 0)) (zu BK384.out) hg (Kd.R_ne HO406.out BK384.out (by decide))); have n1_ := am (Kd.R_after (ok := (fun k_ => some k_ ≠ (.slice Ao31 t389.length co31 : Value).ownBlock ∧ some k_ ≠ (.slice Ao24 y392.length co24 : Value).ownBlock ∧ some k_ ≠ (.slice Ao27 t395.length co27 : Value).ownBlock ∧ some k_ ≠ (.slice Ao29 t398.length co29 : Value).ownBlock ∧ some k_ ≠ (.slice Ao32 t401.length co32 : Value).ownBlock)) (by (with_reducible repeat (first | apply Kd.R_alloc | apply Kd.R_drewN | apply Kd.R_drew)); exact Kd.R_mono HO388.out (fun _ hk => ⟨⟨hk.1.1.1.1.1.2, ⟨hk.1.1.1.1.2, ⟨hk.1.1.1.2, ⟨hk.1.1.2, hk.1.2⟩⟩⟩⟩, hk.2⟩)) hg hat); have n2_ := am (Kd.R_after (ok := (fun k_ => some k_ ≠ (.slice Ao18 t386.length co18 : Value).ownBlock ∧ some k_ ≠ (.slice Ao24 y392.length co24 : Value).ownBlock ∧ some k_ ≠ (.slice Ao27 t395.length co27 : Value).ownBlock ∧ some k_ ≠ (.slice Ao29 t398.length co29 : Value).ownBlock ∧ some k_ ≠ (.slice Ao32 t401.length co32 : Value).ownBlock)) (by (with_reducible repeat (first | apply Kd.R_alloc | apply Kd.R_drewN | apply Kd.R_drew)); exact Kd.R_mono HO391.out (fun _ hk => ⟨⟨hk.1.1.1.1.1.2, ⟨hk.1.1.1.1.2, ⟨hk.1.1.1.2, ⟨hk.1.1.2, hk.1.2⟩⟩⟩⟩, hk.2⟩)) hg hat); have n3_ := am (Kd.R_after (ok := (fun k_ => some k_ ≠ (.slice Ao18 t386.length co18 : Value).ownBlock ∧ some k_ ≠ (.slice Ao31 t389.length co31 : Value).ownBlock ∧ some k_ ≠ (.slice Ao27 t395.length co27 : Value).ownBlock ∧ some k_ ≠ (.slice Ao29 t398.length co29 : Value).ownBlock ∧ some k_ ≠ (.slice Ao32 t401.length co32 : Value).ownBlock)) (by (with_reducible repeat (first | apply Kd.R_alloc | apply Kd.R_drewN | apply Kd.R_drew)); exact Kd.R_mono HO394.out (fun _ hk => ⟨⟨hk.1.1.1.1.1.2, ⟨hk.1.1.1.1.2, ⟨hk.1.1.1.2, ⟨hk.1.1.2, hk.1.2⟩⟩⟩⟩, hk.2⟩)) hg hat); have n4_ := am (Kd.R_after (ok := (fun k_ => some k_ ≠ (.slice Ao18 t386.length co18 : Value).ownBlock ∧ some k_ ≠ (.slice Ao31 t389.length co31 : Value).ownBlock ∧ some k_ ≠ (.slice Ao24 y392.length co24 : Value).ownBlock ∧ some k_ ≠ (.slice Ao29 t398.length co29 : Value).ownBlock ∧ some k_ ≠ (.slice Ao32 t401.length co32 : Value).ownBlock)) (by (with_reducible repeat (first | apply Kd.R_alloc | apply Kd.R_drewN | apply Kd.R_drew)); exact Kd.R_mono HO397.out (fun _ hk => ⟨⟨hk.1.1.1.1.1.2, ⟨hk.1.1.1.1.2, ⟨hk.1.1.1.2, ⟨hk.1.1.2, hk.1.2⟩⟩⟩⟩, hk.2⟩)) hg hat); have n5_ := am (Kd.R_after (ok := (fun k_ => some k_ ≠ (.slice Ao18 t386.length co18 : Value).ownBlock ∧ some k_ ≠ (.slice Ao31 t389.length co31 : Value).ownBlock ∧ some k_ ≠ (.slice Ao24 y392.length co24 : Value).ownBlock ∧ some k_ ≠ (.slice Ao27 t395.length co27 : Value).ownBlock ∧ some k_ ≠ (.slice Ao32 t401.length co32 : Value).ownBlock)) (by (with_reducible repeat (first | apply Kd.R_alloc | apply Kd.R_drewN | apply Kd.R_drew)); exact Kd.R_mono HO400.out (fun _ hk => ⟨⟨hk.1.1.1.1.1.2, ⟨hk.1.1.1.1.2, ⟨hk.1.1.1.2, ⟨hk.1.1.2, hk.1.2⟩⟩⟩⟩, hk.2⟩)) hg hat); have n6_ := am (Kd.R_after (ok := (fun k_ => some k_ ≠ (.slice Ao18 t386.length co18 : Value).ownBlock ∧ some k_ ≠ (.slice Ao31 t389.length co31 : Value).ownBlock ∧ some k_ ≠ (.slice Ao24 y392.length co24 : Value).ownBlock ∧ some k_ ≠ (.slice Ao27 t395.length co27 : Value).ownBlock ∧ some k_ ≠ (.slice Ao29 t398.length co29 : Value).ownBlock)) (by (with_reducible repeat (first | apply Kd.R_alloc | apply Kd.R_drewN | apply Kd.R_drew)); exact Kd.R_mono HO403.out (fun _ hk => ⟨⟨hk.1.1.1.1.1.2, ⟨hk.1.1.1.1.2, ⟨hk.1.1.1.2, ⟨hk.1.1.2, hk.1.2⟩⟩⟩⟩, hk.2⟩)) hg hat); have n7_ := am (hb); have n8_ := am (ho); clear BK384; clear HO388; clear HO391; clear HO394; clear HO397; clear HO400; clear HO403; clear HB; clear HO406; have BK384 := n0_; have HO388 := n1_; have HO391 := n2_; have HO394 := n3_; have HO397 := n4_; have HO400 := n5_; have HO403 := n6_; have HB := n7_; have HO409 := n8_; clear n0_ n1_ n2_ n3_ n4_ n5_ n6_ n7_ n8_; clear ho hb hg hat; obtain ⟨Ao35, co35, eo35⟩ := Kd.R_slice HO409.out; subst eo35) | ((with_reducible refine gate_callee (f := 56) rfl ?_); refine goesL_ (some 43) rfl rfl Try.func56 (by kernel_rfl) rfl #[.slice Ao35 y407.length co35] rfl zg ?_; (with_reducible refine (j11_Sum.calls k _ _ y407 t410 _ ?side1 ?side2 A11.out).mono ?_); (case side1 => exact zC ((Kd.R_reads' HO409.out).2.2)); (case side2 => exact (Kd.R_reads' HO409.out).2.1); rintro e w' ⟨rfl, ⟨nd, rfl⟩⟩; refine ⟨_, rfl, ?_⟩) | ((with_reducible refine gate_dst (N := 56) rfl ?_); refine Kd.R_lit (Kd.int .u8) _ 5 ?hg (N := 56) ?hd (xs := ([(t410 / 16777216) % 256, (t410 / 65536) % 256, (t410 / 256) % 256, (t410) % 256] : List Int)) (inner := [.int .u8 ((t410 / 16777216) % 256), .int .u8 ((t410 / 65536) % 256), .int .u8 ((t410 / 256) % 256), .int .u8 ((t410) % 256)]) (ok := fun _ => True) (okp := fun _ => True) ?hr ?hp (fun _ hk => hk) trivial (Below.refl _ _) (Nat.le_refl _) (by simp) ?_; (case hd => rfl); (case hg => rfl); (case hr => exact y21); (case hp => exact (Reps.one (show Kd.M (Kd.int .u8) _ _ _ ((t410 / 16777216) % 256) [.int .u8 ((t410 / 16777216) % 256)] from rfl) (Reps.one (show Kd.M (Kd.int .u8) _ _ _ ((t410 / 65536) % 256) [.int .u8 ((t410 / 65536) % 256)] from rfl) (Reps.one (show Kd.M (Kd.int .u8) _ _ _ ((t410 / 256) % 256) [.int .u8 ((t410 / 256) % 256)] from rfl) (Reps.one (show Kd.M (Kd.int .u8) _ _ _ ((t410) % 256) [.int .u8 ((t410) % 256)] from rfl) (Reps.none _ _)))))); intro v412 w36 ho37 hb hg_ hnew_; clear hg_ hnew_; (first | rw [← Ny411.out] at ho37 | (simp only [Int.reduceToNat] at ho37; rw [← Ny411.out] at ho37)); have HO413 := am (Kd.R_lower (Kd.R_new' (Kd.R_new' (Kd.R_new' (Kd.R_new' (Kd.R_new' (Kd.R_new' (Kd.R_new' ho37 (Kd.R_lt (zR HO388.out))) (Kd.R_lt (zR HO391.out))) (Kd.R_lt (zR HO394.out))) (Kd.R_lt (zR HO397.out))) (Kd.R_lt (zR HO400.out))) (Kd.R_lt (zR HO403.out))) (Kd.R_lt (zR HO409.out))) (below_size (zb HB))); replace HO388 := am (Kd.R_elder' (zR HO388.out) (Kd.R_base ho37) hb); replace HO391 := am (Kd.R_elder' (zR HO391.out) (Kd.R_base ho37) hb); replace HO394 := am (Kd.R_elder' (zR HO394.out) (Kd.R_base ho37) hb); replace HO397 := am (Kd.R_elder' (zR HO397.out) (Kd.R_base ho37) hb); replace HO400 := am (Kd.R_elder' (zR HO400.out) (Kd.R_base ho37) hb); replace HO403 := am (Kd.R_elder' (zR HO403.out) (Kd.R_base ho37) hb); replace HO409 := am (Kd.R_elder' (zR HO409.out) (Kd.R_base ho37) hb); replace BK384 := zk BK384 hb; replace HB := am (below_step (zb HB) hb); clear hb ho37; obtain ⟨Ao39, co39, eo39⟩ := Kd.R_slice HO413.out; subst eo39) | ((with_reducible refine gate_builtin (b := .append) (xs := #[.tmp 44, .tmp 56]) rfl ?_); at_builtin; refine Kd.R_append_rows (Kd.int .u8) (w0 := w) w.heap.size rfl (.tmp 44) (.tmp 56) 27 5 (.int .u8 0) 1 rfl Try.underlying27 info5 rfl (by decide) (by omega) (.slice Ao35 y407.length co35) y407 y411 _ _ _ (fun k_ => some k_ ≠ (.slice Ao18 t386.length co18 : Value).ownBlock ∧ some k_ ≠ (.slice Ao31 t389.length co31 : Value).ownBlock ∧ some k_ ≠ (.slice Ao24 y392.length co24 : Value).ownBlock ∧ some k_ ≠ (.slice Ao27 t395.length co27 : Value).ownBlock ∧ some k_ ≠ (.slice Ao29 t398.length co29 : Value).ownBlock ∧ some k_ ≠ (.slice Ao32 t401.length co32 : Value).ownBlock ∧ some k_ ≠ (.slice Ao39 y411.length co39 : Value).ownBlock) (fun _ => False) rfl rfl ?aO ?aR (fun _ _ h => h) (fun _ h => h.elim) ?aF ?aB ?aS ?aL ?_; (case aR => repeat (first | exact (Kd.R_reads' HO413.out).2.2 | (with_reducible refine Kd.C_alloc ?_ _) | (with_reducible refine Kd.C_drewN ?_ _) | (with_reducible refine Kd.C_drew ?_))); (case aB => exact (zb HB)); (case aF => exact (fun k_ hk => ⟨Kd.fresh' (Kd.R_lt (zR HO388.out)) k_ hk, Kd.fresh' (Kd.R_lt (zR HO391.out)) k_ hk, Kd.fresh' (Kd.R_lt (zR HO394.out)) k_ hk, Kd.fresh' (Kd.R_lt (zR HO397.out)) k_ hk, Kd.fresh' (Kd.R_lt (zR HO400.out)) k_ hk, Kd.fresh' (Kd.R_lt (zR HO403.out)) k_ hk, Kd.fresh' (Kd.R_lt (zR HO413.out)) k_ hk⟩)); (case aO => exact (by (with_reducible repeat (first | apply Kd.R_alloc | apply Kd.R_drewN | apply Kd.R_drew)); exact Kd.R_mono HO409.out (fun _ hk => ⟨hk.1.1, ⟨hk.1.2.1, ⟨hk.1.2.2.1, ⟨hk.1.2.2.2.1, ⟨hk.1.2.2.2.2.1, ⟨hk.1.2.2.2.2.2, hk.2⟩⟩⟩⟩⟩⟩))); (case aS => exact y24); (case aL => have := LMc12.out; omega); intro v415 w38 ho hb hg hat; rw [← Ny414.out] at ho; have n0_ := am (blk_grown (g := gb384) (o := .cells #[.int .i64 a0_0, .int .i64 a0_1, .slice A0_2 l0_2.length c0_2] 42 (0, 0)) (zu BK384.out) hg (Kd.R_ne HO409.out BK384.out (by decide))); have n1_ := am (Kd.R_after (ok := (fun k_ => some k_ ≠ (.slice Ao31 t389.length co31 : Value).ownBlock ∧ some k_ ≠ (.slice Ao24 y392.length co24 : Value).ownBlock ∧ some k_ ≠ (.slice Ao27 t395.length co27 : Value).ownBlock ∧ some k_ ≠ (.slice Ao29 t398.length co29 : Value).ownBlock ∧ some k_ ≠ (.slice Ao32 t401.length co32 : Value).ownBlock ∧ some k_ ≠ (.slice Ao39 y411.length co39 : Value).ownBlock)) (by (with_reducible repeat (first | apply Kd.R_alloc | apply Kd.R_drewN | apply Kd.R_drew)); exact Kd.R_mono HO388.out (fun _ hk => ⟨⟨hk.1.1.1, ⟨hk.1.1.2.1, ⟨hk.1.1.2.2.1, ⟨hk.1.1.2.2.2.1, ⟨hk.1.1.2.2.2.2, hk.2⟩⟩⟩⟩⟩, hk.1.2⟩)) hg hat); have n2_ := am (Kd.R_after (ok := (fun k_ => some k_ ≠ (.slice Ao18 t386.length co18 : Value).ownBlock ∧ some k_ ≠ (.slice Ao24 y392.length co24 : Value).ownBlock ∧ some k_ ≠ (.slice Ao27 t395.length co27 : Value).ownBlock ∧ some k_ ≠ (.slice Ao29 t398.length co29 : Value).ownBlock ∧ some k_ ≠ (.slice Ao32 t401.length co32 : Value).ownBlock ∧ some k_ ≠ (.slice Ao39 y411.length co39 : Value).ownBlock)) (by (with_reducible repeat (first | apply Kd.R_alloc | apply Kd.R_drewN | apply Kd.R_drew)); exact Kd.R_mono HO391.out (fun _ hk => ⟨⟨hk.1.1.1, ⟨hk.1.1.2.1, ⟨hk.1.1.2.2.1, ⟨hk.1.1.2.2.2.1, ⟨hk.1.1.2.2.2.2, hk.2⟩⟩⟩⟩⟩, hk.1.2⟩)) hg hat); have n3_ := am (Kd.R_after (ok := (fun k_ => some k_ ≠ (.slice Ao18 t386.length co18 : Value).ownBlock ∧ some k_ ≠ (.slice Ao31 t389.length co31 : Value).ownBlock ∧ some k_ ≠ (.slice Ao27 t395.length co27 : Value).ownBlock ∧ some k_ ≠ (.slice Ao29 t398.length co29 : Value).ownBlock ∧ some k_ ≠ (.slice Ao32 t401.length co32 : Value).ownBlock ∧ some k_ ≠ (.slice Ao39 y411.length co39 : Value).ownBlock)) (by (with_reducible repeat (first | apply Kd.R_alloc | apply Kd.R_drewN | apply Kd.R_drew)); exact Kd.R_mono HO394.out (fun _ hk => ⟨⟨hk.1.1.1, ⟨hk.1.1.2.1, ⟨hk.1.1.2.2.1, ⟨hk.1.1.2.2.2.1, ⟨hk.1.1.2.2.2.2, hk.2⟩⟩⟩⟩⟩, hk.1.2⟩)) hg hat); have n4_ := am (Kd.R_after (ok := (fun k_ => some k_ ≠ (.slice Ao18 t386.length co18 : Value).ownBlock ∧ some k_ ≠ (.slice Ao31 t389.length co31 : Value).ownBlock ∧ some k_ ≠ (.slice Ao24 y392.length co24 : Value).ownBlock ∧ some k_ ≠ (.slice Ao29 t398.length co29 : Value).ownBlock ∧ some k_ ≠ (.slice Ao32 t401.length co32 : Value).ownBlock ∧ some k_ ≠ (.slice Ao39 y411.length co39 : Value).ownBlock)) (by (with_reducible repeat (first | apply Kd.R_alloc | apply Kd.R_drewN | apply Kd.R_drew)); exact Kd.R_mono HO397.out (fun _ hk => ⟨⟨hk.1.1.1, ⟨hk.1.1.2.1, ⟨hk.1.1.2.2.1, ⟨hk.1.1.2.2.2.1, ⟨hk.1.1.2.2.2.2, hk.2⟩⟩⟩⟩⟩, hk.1.2⟩)) hg hat); have n5_ := am (Kd.R_after (ok := (fun k_ => some k_ ≠ (.slice Ao18 t386.length co18 : Value).ownBlock ∧ some k_ ≠ (.slice Ao31 t389.length co31 : Value).ownBlock ∧ some k_ ≠ (.slice Ao24 y392.length co24 : Value).ownBlock ∧ some k_ ≠ (.slice Ao27 t395.length co27 : Value).ownBlock ∧ some k_ ≠ (.slice Ao32 t401.length co32 : Value).ownBlock ∧ some k_ ≠ (.slice Ao39 y411.length co39 : Value).ownBlock)) (by (with_reducible repeat (first | apply Kd.R_alloc | apply Kd.R_drewN | apply Kd.R_drew)); exact Kd.R_mono HO400.out (fun _ hk => ⟨⟨hk.1.1.1, ⟨hk.1.1.2.1, ⟨hk.1.1.2.2.1, ⟨hk.1.1.2.2.2.1, ⟨hk.1.1.2.2.2.2, hk.2⟩⟩⟩⟩⟩, hk.1.2⟩)) hg hat); have n6_ := am (Kd.R_after (ok := (fun k_ => some k_ ≠ (.slice Ao18 t386.length co18 : Value).ownBlock ∧ some k_ ≠ (.slice Ao31 t389.length co31 : Value).ownBlock ∧ some k_ ≠ (.slice Ao24 y392.length co24 : Value).ownBlock ∧ some k_ ≠ (.slice Ao27 t395.length co27 : Value).ownBlock ∧ some k_ ≠ (.slice Ao29 t398.length co29 : Value).ownBlock ∧ some k_ ≠ (.slice Ao39 y411.length co39 : Value).ownBlock)) (by (with_reducible repeat (first | apply Kd.R_alloc | apply Kd.R_drewN | apply Kd.R_drew)); exact Kd.R_mono HO403.out (fun _ hk => ⟨⟨hk.1.1.1, ⟨hk.1.1.2.1, ⟨hk.1.1.2.2.1, ⟨hk.1.1.2.2.2.1, ⟨hk.1.1.2.2.2.2, hk.2⟩⟩⟩⟩⟩, hk.1.2⟩)) hg hat); have n7_ := am (Kd.R_after (ok := (fun k_ => some k_ ≠ (.slice Ao18 t386.length co18 : Value).ownBlock ∧ some k_ ≠ (.slice Ao31 t389.length co31 : Value).ownBlock ∧ some k_ ≠ (.slice Ao24 y392.length co24 : Value).ownBlock ∧ some k_ ≠ (.slice Ao27 t395.length co27 : Value).ownBlock ∧ some k_ ≠ (.slice Ao29 t398.length co29 : Value).ownBlock ∧ some k_ ≠ (.slice Ao32 t401.length co32 : Value).ownBlock)) (by (with_reducible repeat (first | apply Kd.R_alloc | apply Kd.R_drewN | apply Kd.R_drew)); exact Kd.R_mono HO413.out (fun _ hk => ⟨⟨hk.1.1.1.1.1.1.2, ⟨hk.1.1.1.1.1.2, ⟨hk.1.1.1.1.2, ⟨hk.1.1.1.2, ⟨hk.1.1.2, hk.1.2⟩⟩⟩⟩⟩, hk.2⟩)) hg hat); have n8_ := am (hb); have n9_ := am (ho); clear BK384; clear HO388; clear HO391; clear HO394; clear HO397; clear HO400; clear HO403; clear HO413; clear HB; clear HO409; have BK384 := n0_; have HO388 := n1_; have HO391 := n2_; have HO394 := n3_; have HO397 := n4_; have HO400 := n5_; have HO403 := n6_; have HO413 := n7_; have HB := n8_; have HO416 := n9_; clear n0_ n1_ n2_ n3_ n4_ n5_ n6_ n7_ n8_ n9_; clear ho hb hg hat))
    go_ret2
    exact ⟨_, ze, by (with_reducible repeat (first | apply Kd.R_alloc | apply Kd.R_drewN | apply Kd.R_drew)); exact Kd.R_mono HO416.out (fun _ hk => trivial), zb HB⟩
   ·
    rw [if_neg c12] at H
    exact absurd H (by simp)
  ·
   rw [if_neg c10] at H
   exact absurd H (by simp)
 ·
  rw [if_neg c3] at H
  obtain ⟨c3b0, c3b1⟩ := zs c3
  simp only [Option.some.injEq, Prod.mk.injEq] at H
  obtain ⟨rfl, rfl⟩ := H
  go_enter Try.func22, Try.ntmps22
  go_wp2_with (first | ((with_reducible refine gate_dst (N := 1) rfl ?_); refine zB 1 #[.int .i64 a0_0, .int .i64 a0_1, .slice A0_2 l0_2.length c0_2] 42 ?_; intro gb384 hg w40 hbox hb; have BK384 := am (hbox); have GE384 := zG hg (zb HB); replace HB := am (below_step (zb HB) hb); clear hb hbox hg; obtain ⟨_, _, _, _, _, _⟩ := zq3 BK384) | ((with_reducible refine gate_callee (f := 53) rfl ?_); refine goesL_ (some 10) rfl rfl Try.func53 (by kernel_rfl) rfl #[.agg #[.int .i64 a0_0, .int .i64 a0_1, .slice A0_2 l0_2.length c0_2]] rfl zg ?_; (with_reducible refine (j11_Fits.calls k a0_0 a0_1 _ _ l0_2 t385 _ ?side1 ?side2 A2.out).mono ?_); (case side1 => exact y37); (case side2 => exact HC0_2.out); rintro e w42 ⟨rfl, hb⟩; refine ⟨_, rfl, ?_⟩; replace BK384 := zk BK384 hb; replace HB := am (below_step (zb HB) hb); clear hb))
  go_ret2
  exact y30
end Go.Proofs.Ytnmmkgagbfniiaa.A
end
section
namespace Go.Proofs.Ytnmmkgagbfniiaa.Pl
open Go.RowKit Go.Proofs.YtnmmkgagbfniiaaW.PrintWords Go.Proofs.YtnmmkgagbfniiaaW.PrintMore Go.Proofs.Ytnmmkgagbfniiaa.A
set_option linter.unusedVariables false
theorem rdT {l : List S26} {i : Nat} (h : i < l.length) : rd_T26 l (i : Int) = l[i] := by simp [rd_T26, List.getD_eq_getElem?_getD, List.getElem?_eq_getElem h]
def recB (r : S26) (q : Int) : List Int := encR (wrap64 (r.f0 - q)) r.f1.f1 r.f1.f2 r.f1.f3 r.f1.f4 r.f1.f5 r.f1.f6
def payS : Int → List S26 → List Int
 | _, [] => []
 | q, r :: rs => recB r q ++ payS r.f0 rs
def fit (th : Int) : Int → List S26 → Bool
 | _, [] => true
 | last, r :: rs => decide (r.f1.f0 = th ∧ last < r.f0 ∧ r.f1.f5.length ≤ 400 ∧ r.f1.f6.length ≤ 400) && fit th r.f0 rs
def chk (th first : Int) (l : List S26) : Int :=
 if 64 < l.length then 2 else if l.length = 0 ∨ th < 0 ∨ 4 ≤ th ∨ first < 0 ∨ 400 < first then 1 else if fit th (-1) l then 0 else 1
def RecOk (r : S26) : Prop := I64 r.f0 ∧ I64 r.f1.f1 ∧ I64 r.f1.f2 ∧ I64 r.f1.f3 ∧ I64 r.f1.f4
theorem check_loop (th first : Int) (l : List S26) (hl : l.length ≤ 140737488355328) : ∀ (d i : Nat) (last : Int), i + d = l.length →
  Ev (fun k => block_check.l0 k last l (l.length : Int) (i : Int) th first l) (if fit th last (l.drop i) then 0 else 1) := by
 intro d
 induction d with
 | zero =>
  intro i last hi
  refine Ev.step (f := fun _ => some _) (fun k => ?_) (Ev.now _)
  simp only [block_check.l0]
  rw [if_neg (by omega), List.drop_of_length_le (by omega)]
  rfl
 | succ d ih =>
  intro i last hi
  have hlt : i < l.length := by omega
  have hw : wrap64 ((i : Int) + 1) = ((i + 1 : Nat) : Int) := by rw [wrap64_id (by omega) (by omega)]; omega
  rw [List.drop_eq_getElem_cons hlt, fit]
  by_cases c : (l[i].f1.f0 = th ∧ last < l[i].f0 ∧ l[i].f1.f5.length ≤ 400 ∧ l[i].f1.f6.length ≤ 400)
  ·
   rw [decide_eq_true c, Bool.true_and]
   obtain ⟨c1, c2, c3, c4⟩ := c
   refine Ev.step (fun k => ?_) (ih (i + 1) l[i].f0 (by omega))
   simp only [block_check.l0]
   rw [if_pos (by omega), if_pos (by omega), if_pos (by omega), rdT hlt, if_pos c1, if_neg (by omega), if_neg (by omega), if_neg (by omega), hw]
  ·
   simp only [decide_eq_false c, Bool.false_and, Bool.false_eq_true, if_false]
   refine Ev.step (f := fun _ => some 1) (fun k => ?_) (Ev.now _)
   simp only [block_check.l0]
   rw [if_pos (by omega), if_pos (by omega), if_pos (by omega), rdT hlt]
   by_cases c1 : l[i].f1.f0 = th
   ·
    rw [if_pos c1]
    by_cases c2 : l[i].f0 ≤ last
    ·
     rw [if_pos c2]
    ·
     rw [if_neg c2]
     by_cases c3 : (l[i].f1.f5.length : Int) > 400
     ·
      rw [if_pos c3]
     ·
      rw [if_neg c3, if_pos (Decidable.byContradiction fun c4 => c ⟨c1, by omega, by omega, by omega⟩)]
   ·
    rw [if_neg c1]
theorem check_f (th first : Int) (l : List S26) : Ev (fun k => block_check.f k th first l) (chk th first l) := by
 unfold chk
 by_cases c0 : 64 < l.length
 ·
  rw [if_pos c0]
  refine Ev.congr (f := fun _ => some 2) (fun k => ?_) (Ev.now _)
  unfold block_check.f
  rw [if_pos (by omega)]
 ·
  rw [if_neg c0]
  have hb : Ev (fun k => block_check.j0 k true th first l) 1 := Ev.step (f := fun _ => some 1) (fun k => by simp only [block_check.j0]; exact if_pos trivial) (Ev.now _)
  by_cases c : l.length = 0 ∨ th < 0 ∨ 4 ≤ th ∨ first < 0 ∨ 400 < first
  ·
   rw [if_pos c]
   refine Ev.congr (fun k => ?_) hb
   unfold block_check.f
   rw [if_neg (by omega)]
   by_cases a1 : (l.length : Int) = 0
   ·
    rw [if_pos a1]
   ·
    rw [if_neg a1]
    by_cases a2 : th < 0
    ·
     rw [if_pos a2]
    ·
     rw [if_neg a2]
     by_cases a3 : th ≥ 4
     ·
      rw [if_pos a3]
     ·
      rw [if_neg a3]
      by_cases a4 : first < 0
      ·
       rw [if_pos a4]
      ·
       rw [if_neg a4, decide_eq_true (by omega)]
  ·
   rw [if_neg c]
   have := check_loop th first l (by omega) l.length 0 (-1) (by omega)
   rw [List.drop_zero] at this
   refine Ev.congr (f := fun k => block_check.j0 k false th first l) (fun k => ?_) (Ev.step (fun k => ?_) this)
   ·
    unfold block_check.f
    rw [if_neg (by omega), if_neg (by omega), if_neg (by omega), if_neg (by omega), if_neg (by omega), decide_eq_false (by omega)]
   ·
    simp only [block_check.j0]
    exact if_neg (by decide)
theorem fits_loop (th first : Int) (l : List S26) (hl : l.length ≤ 140737488355328) : ∀ (d i : Nat) (last : Int), i + d = l.length → -1 ≤ last → (i = 0 → last = -1) → (0 < i → last = (rd_T26 l ((i : Int) - 1)).f0) →
  Ev (fun k => j11_Fits.l0 k (i : Int) th first l) (if fit th last (l.drop i) then 0 else 1) := by
 intro d
 induction d with
 | zero =>
  intro i last hi _ _ _
  refine Ev.step (f := fun _ => some _) (fun k => ?_) (Ev.now _)
  simp only [j11_Fits.l0]
  rw [if_neg (by omega), List.drop_of_length_le (by omega)]
  rfl
 | succ d ih =>
  intro i last hi h1 hz hp
  have hlt : i < l.length := by omega
  have hw : wrap64 ((i : Int) + 1) = ((i + 1 : Nat) : Int) := by rw [wrap64_id (by omega) (by omega)]; omega
  have hv : 0 < i → wrap64 ((i : Int) - 1) = (i : Int) - 1 := fun h => wrap64_id (by omega) (by omega)
  rw [List.drop_eq_getElem_cons hlt, fit]
  by_cases c : (l[i].f1.f0 = th ∧ last < l[i].f0 ∧ l[i].f1.f5.length ≤ 400 ∧ l[i].f1.f6.length ≤ 400)
  ·
   rw [decide_eq_true c, Bool.true_and]
   obtain ⟨c1, c2, c3, c4⟩ := c
   refine Ev.step (fun k => ?_) (ih (i + 1) l[i].f0 (by omega) (by omega) (by omega) (fun _ => by rw [show (((i + 1 : Nat) : Int) - 1) = (i : Int) by omega, rdT hlt]))
   simp only [j11_Fits.l0]
   rw [if_pos (by omega), if_pos (by omega), rdT hlt, if_pos c1, if_neg (by omega), hw]
   by_cases cz : 0 < i
   ·
    have := hp cz
    rw [if_pos (by omega), hv cz, if_pos (by omega), if_pos (by omega), if_neg (by omega), if_neg (by omega), if_neg (by omega)]
   ·
    rw [if_neg (by omega), if_neg (by omega), if_neg (by omega)]
  ·
   simp only [decide_eq_false c, Bool.false_and, Bool.false_eq_true, if_false]
   refine Ev.step (f := fun _ => some 1) (fun k => ?_) (Ev.now _)
   simp only [j11_Fits.l0]
   rw [if_pos (by omega), if_pos (by omega), rdT hlt]
   by_cases c1 : l[i].f1.f0 = th
   ·
    rw [if_pos c1]
    by_cases c2 : l[i].f0 < 0
    ·
     rw [if_pos c2]
    ·
     rw [if_neg c2]
     have fin : last < l[i].f0 → (if (l[i].f1.f5.length : Int) > 400 then some (1 : Int) else if (l[i].f1.f6.length : Int) > 400 then some 1 else j11_Fits.l0 k (wrap64 ((i : Int) + 1)) th first l) = some 1 := by
      intro c3
      by_cases c4 : (l[i].f1.f5.length : Int) > 400
      ·
       rw [if_pos c4]
      ·
       rw [if_neg c4, if_pos (Decidable.byContradiction fun c5 => c ⟨c1, c3, by omega, by omega⟩)]
     by_cases cz : 0 < i
     ·
      have := hp cz
      rw [if_pos (by omega), hv cz, if_pos (by omega), if_pos (by omega), ← this]
      by_cases c3 : l[i].f0 ≤ last
      ·
       rw [if_pos c3]
      ·
       rw [if_neg c3, fin (by omega)]
     ·
      have := hz (by omega)
      rw [if_neg (by omega), fin (by omega)]
   ·
    rw [if_neg c1]
theorem fits_f (th first : Int) (l : List S26) : Ev (fun k => j11_Fits.f k th first l) (chk th first l) := by
 unfold chk
 by_cases c0 : 64 < l.length
 ·
  rw [if_pos c0]
  refine Ev.congr (f := fun _ => some 2) (fun k => ?_) (Ev.now _)
  unfold j11_Fits.f
  rw [if_pos (by omega)]
 ·
  rw [if_neg c0]
  have hb : Ev (fun k => j11_Fits.j0 k true th first l) 1 := Ev.step (f := fun _ => some 1) (fun k => by simp only [j11_Fits.j0]; exact if_pos trivial) (Ev.now _)
  by_cases c : l.length = 0 ∨ th < 0 ∨ 4 ≤ th ∨ first < 0 ∨ 400 < first
  ·
   rw [if_pos c]
   refine Ev.congr (fun k => ?_) hb
   unfold j11_Fits.f
   rw [if_neg (by omega)]
   by_cases a1 : (l.length : Int) = 0
   ·
    rw [if_pos a1]
   ·
    rw [if_neg a1]
    by_cases a2 : th < 0
    ·
     rw [if_pos a2]
    ·
     rw [if_neg a2]
     by_cases a3 : th ≥ 4
     ·
      rw [if_pos a3]
     ·
      rw [if_neg a3]
      by_cases a4 : first < 0
      ·
       rw [if_pos a4]
      ·
       rw [if_neg a4, decide_eq_true (by omega)]
  ·
   rw [if_neg c]
   have := fits_loop th first l (by omega) l.length 0 (-1) (by omega) (by omega) (fun _ => rfl) (by omega)
   rw [List.drop_zero] at this
   refine Ev.congr (f := fun k => j11_Fits.j0 k false th first l) (fun k => ?_) (Ev.step (fun k => ?_) this)
   ·
    unfold j11_Fits.f
    rw [if_neg (by omega), if_neg (by omega), if_neg (by omega), if_neg (by omega), if_neg (by omega), decide_eq_false (by omega)]
   ·
    simp only [j11_Fits.j0]
    exact if_neg (by decide)
theorem recB_len {r : S26} (q : Int) (h : RecOk r) (h5 : r.f1.f5.length ≤ 400) (h6 : r.f1.f6.length ≤ 400) : (recB r q).length ≤ 8070 := by
 have := encR_len (wrap64 (r.f0 - q)) r.f1.f1 r.f1.f2 r.f1.f3 r.f1.f4 r.f1.f5 r.f1.f6 (wrap64_I64 _) h.2.1 h.2.2.1 h.2.2.2.1 h.2.2.2.2 h5 h6
 unfold recB
 omega
theorem fit_cons {th last : Int} {r : S26} {rs : List S26} (h : fit th last (r :: rs) = true) : (r.f1.f0 = th ∧ last < r.f0 ∧ r.f1.f5.length ≤ 400 ∧ r.f1.f6.length ≤ 400) ∧ fit th r.f0 rs = true := by
 rw [fit, Bool.and_eq_true] at h
 exact ⟨of_decide_eq_true h.1, h.2⟩
theorem payS_len {th : Int} : ∀ {l : List S26} {q : Int}, fit th q l = true → (∀ r ∈ l, RecOk r) → (payS q l).length ≤ 8070 * l.length
 | [], _, _, _ => by simp [payS]
 | r :: rs, q, h, hr => by
  obtain ⟨⟨_, _, h5, h6⟩, h'⟩ := fit_cons h
  have h1 := recB_len q (hr r (by simp)) h5 h6
  have h2 := payS_len h' (fun r' h' => hr r' (by simp [h']))
  rw [payS, List.length_append, List.length_cons]
  omega
theorem payS_bytes : ∀ (l : List S26) (q : Int), ∀ c ∈ payS q l, 0 ≤ c ∧ c < 256
 | [], _, c, hc => by simp [payS] at hc
 | r :: rs, q, c, hc => by
  rw [payS] at hc
  rcases List.mem_append.1 hc with hc | hc
  ·
   exact encR_bytes _ _ _ _ _ _ _ c hc
  ·
   exact payS_bytes rs _ c hc
theorem refPayload_loop (th first : Int) (l : List S26) (hl : l.length ≤ 64) (hr : ∀ r ∈ l, RecOk r) : ∀ (d i : Nat) (x : List Int) (q : Int), i + d = l.length → fit th q (l.drop i) = true → x.length + 8070 * d ≤ 1000000 →
  Ev (fun k => j11_Payload.l0 k x q (i : Int) th first l) (x ++ payS q (l.drop i)) := by
 intro d
 induction d with
 | zero =>
  intro i x q hi _ _
  refine Ev.step (f := fun _ => some _) (fun k => ?_) (Ev.now _)
  simp only [j11_Payload.l0]
  rw [if_neg (by omega), List.drop_of_length_le (by omega), payS, List.append_nil]
 | succ d ih =>
  intro i x q hi hf hx
  have hlt : i < l.length := by omega
  have hw : wrap64 ((i : Int) + 1) = ((i + 1 : Nat) : Int) := by rw [wrap64_id (by omega) (by omega)]; omega
  rw [List.drop_eq_getElem_cons hlt] at hf ⊢
  obtain ⟨⟨_, _, h5, h6⟩, hf'⟩ := fit_cons hf
  have hk := hr l[i] (List.getElem_mem hlt)
  have hlen := recB_len q hk h5 h6
  refine Ev.step (f := fun k => (j11_Append.f k x l[i].f0 l[i].f1.f0 l[i].f1.f1 l[i].f1.f2 l[i].f1.f3 l[i].f1.f4 l[i].f1.f5 l[i].f1.f6 q).bind fun t => j11_Payload.l0 k t l[i].f0 ((i + 1 : Nat) : Int) th first l) (fun k => ?_) ?_
  ·
   simp only [j11_Payload.l0]
   rw [if_pos (by omega), if_pos (by omega), rdT hlt, hw]
  ·
   refine Ev.bind (refAppend_f x l[i].f0 l[i].f1.f0 l[i].f1.f1 l[i].f1.f2 l[i].f1.f3 l[i].f1.f4 l[i].f1.f5 l[i].f1.f6 q (by omega) hk.2.1 hk.2.2.1 hk.2.2.2.1 hk.2.2.2.2 h5 h6) ?_
   have := ih (i + 1) (x ++ recB l[i] q) l[i].f0 (by omega) hf' (by rw [List.length_append]; omega)
   rw [payS, ← List.append_assoc]
   exact this
theorem refPayload_f (th first : Int) (l : List S26) (hl : l.length ≤ 64) (hr : ∀ r ∈ l, RecOk r) (hf : fit th (-1) l = true) : Ev (fun k => j11_Payload.f k th first l) (payS (-1) l) := by
 have := refPayload_loop th first l hl hr l.length 0 [] (-1) (by omega) (by rw [List.drop_zero]; exact hf) (by simp only [List.length_nil]; omega)
 rw [List.drop_zero, List.nil_append] at this
 exact this
def encs : List Int → List Int
 | [] => []
 | a :: t => enc a ++ encs t
def headS (th first n : Int) (p : List Int) : List Int := [84, th % 256] ++ encs [first, n, (p.length : Int), ((packS p).length : Int)]
def bodyS (th first : Int) (l : List S26) : List Int := headS th first (l.length : Int) (payS (-1) l) ++ packS (payS (-1) l)
def sumB (b : List Int) : List Int := [((sumS b : Nat) : Int) / 16777216 % 256, ((sumS b : Nat) : Int) / 65536 % 256, ((sumS b : Nat) : Int) / 256 % 256, ((sumS b : Nat) : Int) % 256]
def encS (th first : Int) (l : List S26) : List Int × Int := if chk th first l = 0 then (bodyS th first l ++ sumB (bodyS th first l), 0) else ([], chk th first l)
theorem encs_len : ∀ (l : List Int), (∀ a ∈ l, I64 a) → (encs l).length ≤ 10 * l.length
 | [], _ => by simp [encs]
 | a :: t, h => by
  have h1 := enc_le (h a (by simp))
  have h2 := encs_len t (fun b hb => h b (by simp [hb]))
  rw [encs, List.length_append, List.length_cons]
  omega
theorem encs_bytes : ∀ (l : List Int), ∀ c ∈ encs l, 0 ≤ c ∧ c < 256
 | [], c, hc => by simp [encs] at hc
 | a :: t, c, hc => by
  rw [encs] at hc
  rcases List.mem_append.1 hc with hc | hc
  ·
   exact enc_bytes _ c hc
  ·
   exact encs_bytes t c hc
theorem chk_zero {th first : Int} {l : List S26} (h : chk th first l = 0) : l.length ≤ 64 ∧ 0 < l.length ∧ 0 ≤ th ∧ th < 4 ∧ 0 ≤ first ∧ first ≤ 400 ∧ fit th (-1) l = true := by
 unfold chk at h
 by_cases c0 : 64 < l.length
 ·
  rw [if_pos c0] at h
  omega
 ·
  rw [if_neg c0] at h
  by_cases c : l.length = 0 ∨ th < 0 ∨ 4 ≤ th ∨ first < 0 ∨ 400 < first
  ·
   rw [if_pos c] at h
   omega
  ·
   rw [if_neg c] at h
   cases hf : fit th (-1) l with
   | true => exact ⟨by omega, by omega, by omega, by omega, by omega, by omega, rfl⟩
   | false => rw [hf] at h; exact absurd h (by decide)
theorem packS_bytes {p : List Int} (hp : ∀ c ∈ p, 0 ≤ c ∧ c < 256) : ∀ c ∈ packS p, 0 ≤ c ∧ c < 256 := ch_bytes hp (packS_ch p)
theorem bodyS_bytes (th first : Int) (l : List S26) : ∀ c ∈ bodyS th first l, 0 ≤ c ∧ c < 256 := by
 intro c hc
 unfold bodyS headS at hc
 rcases List.mem_append.1 hc with hc | hc
 ·
  rcases List.mem_append.1 hc with hc | hc
  ·
   simp only [List.mem_cons, List.not_mem_nil, or_false] at hc
   omega
  ·
   exact encs_bytes _ c hc
 ·
  exact packS_bytes (payS_bytes l (-1)) c hc
theorem headS_len {th first n : Int} {p : List Int} (h1 : I64 first) (h2 : I64 n) (h3 : p.length ≤ 1000000) : (headS th first n p).length ≤ 42 := by
 have h4 := packS_length p
 have := encs_len [first, n, (p.length : Int), ((packS p).length : Int)] (fun a ha => by
  simp only [List.mem_cons, List.not_mem_nil, or_false] at ha
  rcases ha with rfl | rfl | rfl | rfl
  ·
   exact h1
  ·
   exact h2
  ·
   unfold I64; omega
  ·
   unfold I64; omega)
 unfold headS
 rw [List.length_append]
 simp only [List.length_cons, List.length_nil] at this ⊢
 omega
theorem bodyS_len {th first : Int} {l : List S26} (hr : ∀ r ∈ l, RecOk r) (h : chk th first l = 0) : (bodyS th first l).length ≤ 1100000 := by
 obtain ⟨h1, _, h2, h3, h4, h5, h6⟩ := chk_zero h
 have h7 := payS_len h6 hr
 have h8 := packS_length (payS (-1) l)
 have h9 := headS_len (th := th) (first := first) (n := (l.length : Int)) (p := payS (-1) l) (by unfold I64; omega) (by unfold I64; omega) (by omega)
 unfold bodyS
 rw [List.length_append]
 omega
theorem seal_f (b : List Int) (hm : b.length ≤ 1100000) (hb : ∀ c ∈ b, 0 ≤ c ∧ c < 256) : Ev (fun k => block_seal.f k b) (((sumS b : Nat) : Int) / 16777216 % 256, ((sumS b : Nat) : Int) / 65536 % 256, ((sumS b : Nat) : Int) / 256 % 256, ((sumS b : Nat) : Int) % 256) :=
 Ev.bind (sum_f b (by omega) hb) (Ev.now _)
theorem heads_loop {pkd vals : List Int} {R : List Int × Int} (hv : ∀ a ∈ vals, I64 a) (hl : vals.length ≤ 1000) : ∀ (d i : Nat) (x : List Int), i + d = vals.length → x.length + 10 * d ≤ 1000000 →
  Ev (fun k => if (x ++ encs (vals.drop i)).length + pkd.length < 140737488355328 then ((some (x ++ encs (vals.drop i) ++ pkd : List Int)).bind fun y => ((block_seal.f k y).bind fun bt => (if y.length + [bt.1, bt.2.1, bt.2.2.1, bt.2.2.2].length < 140737488355328 then (some ((y ++ [bt.1, bt.2.1, bt.2.2.1, bt.2.2.2]), 0)) else (none)))) else (none)) R →
  Ev (fun k => block_Encode.l1 k pkd x vals (vals.length : Int) (i : Int)) R := by
 intro d
 induction d with
 | zero =>
  intro i x hi _ h
  rw [List.drop_of_length_le (by omega), encs, List.append_nil] at h
  refine Ev.step (fun k => ?_) h
  simp only [block_Encode.l1]
  rw [if_neg (by omega)]
 | succ d ih =>
  intro i x hi hx h
  have hlt : i < vals.length := by omega
  have hw : wrap64 ((i : Int) + 1) = ((i + 1 : Nat) : Int) := by rw [wrap64_id (by omega) (by omega)]; omega
  have hq := hv vals[i] (List.getElem_mem hlt)
  have h10 := enc_le hq
  rw [List.drop_eq_getElem_cons hlt, encs, ← List.append_assoc] at h
  refine Ev.step (f := fun k => (event_PutInt.f k x vals[i]).bind fun t => block_Encode.l1 k pkd t vals (vals.length : Int) ((i + 1 : Nat) : Int)) (fun k => ?_) ?_
  ·
   simp only [block_Encode.l1]
   rw [if_pos (by omega), if_pos (by omega), if_pos (by omega), rd_at hlt, hw]
  ·
   exact Ev.bind (putInt_f hq.1 hq.2 x (by omega)) (ih (i + 1) (x ++ enc vals[i]) (by omega) (by rw [List.length_append]; omega) h)
theorem encode_loop (th first : Int) (l : List S26) (hl : l.length ≤ 64) (hr : ∀ r ∈ l, RecOk r) {R : List Int × Int} : ∀ (d i : Nat) (x : List Int) (q : Int), i + d = l.length → fit th q (l.drop i) = true → x.length + 8070 * d ≤ 1000000 →
  Ev (fun k => (pack_Pack.f k (x ++ payS q (l.drop i))).bind fun t => ((some (([first, (l.length : Int), ((x ++ payS q (l.drop i)).length : Int), (t.length : Int)] : List Int) : List Int)).bind fun y => (block_Encode.l1 k t (([84, th % 256] : List Int)) y (y.length : Int) 0))) R →
  Ev (fun k => block_Encode.l0 k x q l (l.length : Int) (i : Int) th first l) R := by
 intro d
 induction d with
 | zero =>
  intro i x q hi _ _ h
  rw [List.drop_of_length_le (by omega), payS, List.append_nil] at h
  refine Ev.step (fun k => ?_) h
  simp only [block_Encode.l0]
  rw [if_neg (by omega)]
 | succ d ih =>
  intro i x q hi hf hx h
  have hlt : i < l.length := by omega
  have hw : wrap64 ((i : Int) + 1) = ((i + 1 : Nat) : Int) := by rw [wrap64_id (by omega) (by omega)]; omega
  rw [List.drop_eq_getElem_cons hlt] at hf h
  obtain ⟨⟨_, _, h5, h6⟩, hf'⟩ := fit_cons hf
  have hk := hr l[i] (List.getElem_mem hlt)
  have hlen := recB_len q hk h5 h6
  rw [payS, ← List.append_assoc] at h
  refine Ev.step (f := fun k => (event_Append.f k [] l[i].f0 l[i].f1.f0 l[i].f1.f1 l[i].f1.f2 l[i].f1.f3 l[i].f1.f4 l[i].f1.f5 l[i].f1.f6 q).bind fun t => if x.length + t.length < 140737488355328 then block_Encode.l0 k (x ++ t) l[i].f0 l (l.length : Int) ((i + 1 : Nat) : Int) th first l else none) (fun k => ?_) ?_
  ·
   simp only [block_Encode.l0]
   rw [if_pos (by omega), if_pos (by omega), if_pos (by omega), rdT hlt, hw]
  ·
   refine Ev.bind (append_f [] l[i].f0 l[i].f1.f0 l[i].f1.f1 l[i].f1.f2 l[i].f1.f3 l[i].f1.f4 l[i].f1.f5 l[i].f1.f6 q (by simp) hk.2.1 hk.2.2.1 hk.2.2.2.1 hk.2.2.2.2 h5 h6) ?_
   show Ev (fun k => if x.length + ([] ++ recB l[i] q).length < 140737488355328 then block_Encode.l0 k (x ++ ([] ++ recB l[i] q)) l[i].f0 l (l.length : Int) ((i + 1 : Nat) : Int) th first l else none) R
   rw [List.nil_append]
   refine Ev.congr (fun k => if_pos (by omega)) (ih (i + 1) (x ++ recB l[i] q) l[i].f0 (by omega) hf' (by rw [List.length_append]; omega) h)
theorem encode_f (th first : Int) (l : List S26) (hr : ∀ r ∈ l, RecOk r) : Ev (fun k => block_Encode.f k th first l) (encS th first l) := by
 unfold encS
 refine Ev.bind (check_f th first l) ?_
 by_cases c : chk th first l = 0
 ·
  rw [if_pos c]
  simp only [if_pos c]
  obtain ⟨h1, _, h2, h3, h4, h5, h6⟩ := chk_zero c
  have h7 := payS_len h6 hr
  have h8 := packS_length (payS (-1) l)
  have hB := bodyS_len hr c
  refine encode_loop th first l h1 hr l.length 0 [] (-1) (by omega) (by rw [List.drop_zero]; exact h6) (by simp only [List.length_nil]; omega) ?_
  rw [List.drop_zero, List.nil_append]
  refine Ev.bind (pack_f _ (by omega)) (Ev.bind (Ev.now _) ?_)
  refine heads_loop (pkd := packS (payS (-1) l)) (vals := [first, (l.length : Int), ((payS (-1) l).length : Int), ((packS (payS (-1) l)).length : Int)]) (fun a ha => ?_) (by simp) 4 0 [84, th % 256] (by simp) (by simp) ?_
  ·
   simp only [List.mem_cons, List.not_mem_nil, or_false] at ha
   unfold I64
   omega
  ·
   rw [List.drop_zero]
   show Ev (fun k => if (headS th first (l.length : Int) (payS (-1) l)).length + (packS (payS (-1) l)).length < 140737488355328 then _ else none) _
   have e : bodyS th first l = headS th first (l.length : Int) (payS (-1) l) ++ packS (payS (-1) l) := rfl
   refine Ev.congr (fun k => if_pos (by rw [e, List.length_append] at hB; omega)) ?_
   refine Ev.bind (Ev.now (bodyS th first l)) ?_
   refine Ev.bind (seal_f _ hB (bodyS_bytes th first l)) ?_
   refine Ev.congr (f := fun _ => some (bodyS th first l ++ sumB (bodyS th first l), 0)) (fun k => ?_) (Ev.now _)
   rw [if_pos (by simp only [List.length_cons, List.length_nil]; omega)]
   rfl
 ·
  rw [if_neg c]
  simp only [if_neg c]
  exact Ev.now _
theorem refEncode_f (th first : Int) (l : List S26) (hr : ∀ r ∈ l, RecOk r) : Ev (fun k => j11_Encode.f k th first l) (encS th first l) := by
 unfold encS
 refine Ev.bind (fits_f th first l) ?_
 by_cases c : chk th first l = 0
 ·
  rw [if_pos c]
  simp only [if_pos c]
  obtain ⟨h1, _, h2, h3, h4, h5, h6⟩ := chk_zero c
  have h7 := payS_len h6 hr
  have h8 := packS_length (payS (-1) l)
  have hB := bodyS_len hr c
  refine Ev.bind (refPayload_f th first l h1 hr h6) ?_
  refine Ev.bind (refPack_f _ (by omega)) ?_
  have a1 : I64 first := by unfold I64; omega
  have a2 : I64 (l.length : Int) := by unfold I64; omega
  have a3 : I64 ((payS (-1) l).length : Int) := by unfold I64; omega
  have a4 : I64 ((packS (payS (-1) l)).length : Int) := by unfold I64; omega
  have b1 := enc_le a1
  have b2 := enc_le a2
  have b3 := enc_le a3
  refine Ev.bind (refPutInt_f a1.1 a1.2 _ (by simp)) ?_
  refine Ev.bind (refPutInt_f a2.1 a2.2 _ (by rw [List.length_append]; simp only [List.length_cons, List.length_nil]; omega)) ?_
  refine Ev.bind (refPutInt_f a3.1 a3.2 _ (by simp only [List.length_append, List.length_cons, List.length_nil]; omega)) ?_
  refine Ev.bind (refPutInt_f a4.1 a4.2 _ (by simp only [List.length_append, List.length_cons, List.length_nil]; omega)) ?_
  have e : [84, th % 256] ++ enc first ++ enc (l.length : Int) ++ enc ((payS (-1) l).length : Int) ++ enc ((packS (payS (-1) l)).length : Int) = headS th first (l.length : Int) (payS (-1) l) := by
   simp only [headS, encs, List.append_assoc, List.append_nil]
  rw [e]
  have e2 : bodyS th first l = headS th first (l.length : Int) (payS (-1) l) ++ packS (payS (-1) l) := rfl
  refine Ev.congr (fun k => if_pos (by rw [e2, List.length_append] at hB; omega)) ?_
  refine Ev.bind (Ev.now (bodyS th first l)) ?_
  refine Ev.bind (refSum_f _ (by omega) (bodyS_bytes th first l)) ?_
  refine Ev.bind (Ev.now (sumB (bodyS th first l))) ?_
  refine Ev.congr (f := fun _ => some (bodyS th first l ++ sumB (bodyS th first l), 0)) (fun k => ?_) (Ev.now _)
  rw [if_pos (by simp only [sumB, List.length_cons, List.length_nil]; omega)]
 ·
  rw [if_neg c]
  simp only [if_neg c]
  exact Ev.now _
end Go.Proofs.Ytnmmkgagbfniiaa.Pl
end
section
namespace Go.Proofs.Ytnmmkgagbfniiaa.A
open Go.RowKit Go.Proofs.YtnmmkgagbfniiaaW.PrintWords Go.Proofs.YtnmmkgagbfniiaaW.PrintLast Go.Proofs.YtnmmkgagbfniiaaW.PrintMore
attribute [local go_sem] max2_int min2_int max_two min_two max_three min_three max_four min_four
set_option linter.unusedVariables false
set_option linter.unusedSimpArgs false
end Go.Proofs.Ytnmmkgagbfniiaa.A
end
section
namespace Go.Proofs.Ytnmmkgagbfniiaa.Pl
open Go.RowKit Go.Proofs.YtnmmkgagbfniiaaW.PrintWords Go.Proofs.YtnmmkgagbfniiaaW.PrintMore Go.Proofs.Ytnmmkgagbfniiaa.A
set_option linter.unusedVariables false
theorem encS_len {th first : Int} {l : List S26} (hr : ∀ r ∈ l, RecOk r) : (encS th first l).1.length ≤ 1100004 := by
 unfold encS
 by_cases c : chk th first l = 0
 ·
  rw [if_pos c]
  have := bodyS_len hr c
  simp only [List.length_append, sumB, List.length_cons, List.length_nil]
  omega
 ·
  rw [if_neg c]
  simp
end Go.Proofs.Ytnmmkgagbfniiaa.Pl
end
