/- MBlockReads13: texts of this session and of the kit's printer on the road to the statement BlockReads, laid into one and rid of what it doesn't need. No condition beyond what each fact names. -/
import Derived.Test.YtnmmkgagbfniiaaMBlockReads3
import Derived.Test.YtnmmkgagbfniiaaMBlockReads2
import Derived.Test.YtnmmkgagbfniiaaMBlockReads10
import Derived.Test.YtnmmkgagbfniiaaMBlockReads11
import Derived.Test.YtnmmkgagbfniiaaMBlockReads12
section
namespace Go.Proofs.Ytnmmkgagbfniiaa.A
open Go.RowKit Go.Proofs.YtnmmkgagbfniiaaW.PrintWords Go.Proofs.YtnmmkgagbfniiaaW.PrintLast Go.Proofs.YtnmmkgagbfniiaaW.PrintMore
attribute [local go_sem] max2_int min2_int max_two min_two max_three min_three max_four min_four
set_option linter.unusedVariables false
set_option linter.unusedSimpArgs false
def j11_Encode.f (k : Nat) (a0_0 : Int) (a0_1 : Int) (l0_2 : List (S26)) : Option (List Int × Int) := (j11_Fits.f k a0_0 a0_1 l0_2).bind fun t385 => (if t385 = 0 then ((j11_Payload.f k a0_0 a0_1 l0_2).bind fun t386 => ((j11_Pack.f k t386).bind fun t389 => ((j11_PutInt.f k (([84, (a0_0) % 256] : List Int)) a0_1).bind fun t395 => ((j11_PutInt.f k t395 (l0_2.length : Int)).bind fun t398 => ((j11_PutInt.f k t398 (t386.length : Int)).bind fun t401 => ((j11_PutInt.f k t401 (t389.length : Int)).bind fun t404 => (if t404.length + t389.length < 140737488355328 then ((some (t404 ++ t389 : List Int)).bind fun y407 => ((j11_Sum.f k y407).bind fun t410 => ((some (([(t410 / 16777216) % 256, (t410 / 65536) % 256, (t410 / 256) % 256, (t410) % 256] : List Int) : List Int)).bind fun y411 => (if y407.length + y411.length < 140737488355328 then (some ((y407 ++ y411), 0)) else (none))))) else (none)))))))) else (some (([] : List Int), t385)))
theorem j11_Encode.mono : ∀ a0 a1 a2 k, LeO (j11_Encode.f k a0 a1 a2) (j11_Encode.f (k + 1) a0 a1 a2) := by
 intro a0 a1 a2 k
 unfold j11_Encode.f
 repeat' first
   | (with_reducible exact j11_Fits.mono _ _ _ _)
   | (with_reducible exact j11_Pack.mono _ _)
   | (with_reducible exact j11_Payload.mono _ _ _ _)
   | (with_reducible exact j11_PutInt.mono _ _ _)
   | (with_reducible exact j11_Sum.mono _ _)
   | (with_reducible exact LeO.refl _)
   | (with_reducible exact LeO.none _)
   | (with_reducible refine LeO.ite ?_ ?_)
   | (with_reducible refine LeO.bind ?_ (fun _ => ?_))
   | exact j11_Fits.mono _ _ _ _
   | exact j11_Pack.mono _ _
   | exact j11_Payload.mono _ _ _ _
   | exact j11_PutInt.mono _ _ _
   | exact j11_Sum.mono _ _
   | exact LeO.none _
   | refine LeO.ite ?_ ?_
   | refine LeO.bind ?_ (fun _ => ?_)
set_option maxHeartbeats 8000000 in
set_option maxRecDepth 100000 in
theorem j11_Encode.calls (k : Nat) (a0_0 : Int) (a0_1 : Int) (A0_2 : Option Addr) (c0_2 : Nat) (l0_2 : List (S26)) (r1 : List Int) (r2 : Int) (w : World) (hr0_2 : Kd.C k26 w A0_2 l0_2.length l0_2) (hc0_2 : l0_2.length ≤ c0_2) (h : j11_Encode.f k a0_0 a0_1 l0_2 = some (r1, r2)) :
  Calls Try.prog 22 #[.agg #[.int .i64 a0_0, .int .i64 a0_1, .slice A0_2 l0_2.length c0_2]] w fun e w' => ∃ v0_ : Value, e = .returned (.tuple #[v0_, .int .i64 r2]) ∧ Kd.R (Kd.int .u8) 5 w' w.heap.size (fun _ => True) v0_ r1 ∧ Below w.heap.size w w' := by
 have hu42 := Try.underlying42
 have HR0_2 := am hr0_2
 have HC0_2 := am hc0_2
 clear hr0_2 hc0_2
 have HB := am (Below.refl w.heap.size w)
 have H : ((j11_Fits.f k a0_0 a0_1 l0_2).bind fun t385 => (if t385 = 0 then ((j11_Payload.f k a0_0 a0_1 l0_2).bind fun t386 => ((j11_Pack.f k t386).bind fun t389 => ((j11_PutInt.f k (([84, (a0_0) % 256] : List Int)) a0_1).bind fun t395 => ((j11_PutInt.f k t395 (l0_2.length : Int)).bind fun t398 => ((j11_PutInt.f k t398 (t386.length : Int)).bind fun t401 => ((j11_PutInt.f k t401 (t389.length : Int)).bind fun t404 => (if t404.length + t389.length < 140737488355328 then ((some (t404 ++ t389 : List Int)).bind fun y407 => ((j11_Sum.f k y407).bind fun t410 => ((some (([(t410 / 16777216) % 256, (t410 / 65536) % 256, (t410 / 256) % 256, (t410) % 256] : List Int) : List Int)).bind fun y411 => (if y407.length + y411.length < 140737488355328 then (some ((y407 ++ y411), 0)) else (none))))) else (none)))))))) else (some (([] : List Int), t385)))) = some (r1, r2) := h
 clear h
 replace H := Option.bind_eq_some_iff.mp H
 obtain ⟨t385, A20, H⟩ := H
 (try dsimp only at H)
 have A2 := am A20
 clear A20
 by_cases c3 : t385 = 0
 ·
  rw [if_pos c3] at H
  have c3b0 : (t385 == 0) = true := beq_iff_eq.mpr c3
  have c3b1 : (t385 != 0) = false := bne_eq_false_iff_eq.mpr c3
  clear c3
  replace H := Option.bind_eq_some_iff.mp H
  obtain ⟨t386, A40, H⟩ := H
  (try dsimp only at H)
  have A4 := am A40
  clear A40
  replace H := Option.bind_eq_some_iff.mp H
  obtain ⟨t389, A50, H⟩ := H
  (try dsimp only at H)
  have A5 := am A50
  clear A50
  obtain ⟨y392, hy392⟩ : ∃ y_ : List Int, y_ = (([84, (a0_0) % 256] : List Int)) := ⟨_, rfl⟩
  replace H : ((j11_PutInt.f k y392 a0_1).bind fun t395 => ((j11_PutInt.f k t395 (l0_2.length : Int)).bind fun t398 => ((j11_PutInt.f k t398 (t386.length : Int)).bind fun t401 => ((j11_PutInt.f k t401 (t389.length : Int)).bind fun t404 => (if t404.length + t389.length < 140737488355328 then ((some (t404 ++ t389 : List Int)).bind fun y407 => ((j11_Sum.f k y407).bind fun t410 => ((some (([(t410 / 16777216) % 256, (t410 / 65536) % 256, (t410 / 256) % 256, (t410) % 256] : List Int) : List Int)).bind fun y411 => (if y407.length + y411.length < 140737488355328 then (some ((y407 ++ y411), 0)) else (none))))) else (none)))))) = some (r1, r2) := by first | (rw [hy392]; with_reducible exact H) | (have H2_ := (Option.bind_some _ _).symm.trans H; rw [hy392]; with_reducible exact H2_) | (have H2_ := (Option.bind_some _ _).symm.trans H; with_reducible exact H2_) | with_reducible exact H | (rw [hy392]; exact H) | exact H
  have Ny392 := am hy392
  clear hy392
  replace H := Option.bind_eq_some_iff.mp H
  obtain ⟨t395, A60, H⟩ := H
  (try dsimp only at H)
  have A6 := am A60
  clear A60
  replace H := Option.bind_eq_some_iff.mp H
  obtain ⟨t398, A70, H⟩ := H
  (try dsimp only at H)
  have A7 := am A70
  clear A70
  replace H := Option.bind_eq_some_iff.mp H
  obtain ⟨t401, A80, H⟩ := H
  (try dsimp only at H)
  have A8 := am A80
  clear A80
  replace H := Option.bind_eq_some_iff.mp H
  obtain ⟨t404, A90, H⟩ := H
  (try dsimp only at H)
  have A9 := am A90
  clear A90
  by_cases c10 : t404.length + t389.length < 140737488355328
  ·
   rw [if_pos c10] at H
   have LMc10 := am c10
   clear c10
   obtain ⟨y407, hy407⟩ : ∃ y_ : List Int, y_ = (t404 ++ t389) := ⟨_, rfl⟩
   replace H : ((j11_Sum.f k y407).bind fun t410 => ((some (([(t410 / 16777216) % 256, (t410 / 65536) % 256, (t410 / 256) % 256, (t410) % 256] : List Int) : List Int)).bind fun y411 => (if y407.length + y411.length < 140737488355328 then (some ((y407 ++ y411), 0)) else (none)))) = some (r1, r2) := by first | (rw [hy407]; with_reducible exact H) | (have H2_ := (Option.bind_some _ _).symm.trans H; rw [hy407]; with_reducible exact H2_) | (have H2_ := (Option.bind_some _ _).symm.trans H; with_reducible exact H2_) | with_reducible exact H | (rw [hy407]; exact H) | exact H
   have Ny407 := am hy407
   clear hy407
   replace H := Option.bind_eq_some_iff.mp H
   obtain ⟨t410, A110, H⟩ := H
   (try dsimp only at H)
   have A11 := am A110
   clear A110
   obtain ⟨y411, hy411⟩ : ∃ y_ : List Int, y_ = (([(t410 / 16777216) % 256, (t410 / 65536) % 256, (t410 / 256) % 256, (t410) % 256] : List Int)) := ⟨_, rfl⟩
   replace H : (if y407.length + y411.length < 140737488355328 then (some ((y407 ++ y411), 0)) else (none)) = some (r1, r2) := by first | (rw [hy411]; with_reducible exact H) | (have H2_ := (Option.bind_some _ _).symm.trans H; rw [hy411]; with_reducible exact H2_) | (have H2_ := (Option.bind_some _ _).symm.trans H; with_reducible exact H2_) | with_reducible exact H | (rw [hy411]; exact H) | exact H
   have Ny411 := am hy411
   clear hy411
   by_cases c12 : y407.length + y411.length < 140737488355328
   ·
    rw [if_pos c12] at H
    have LMc12 := am c12
    clear c12
    obtain ⟨y414, hy414⟩ : ∃ y_ : List Int, y_ = (y407 ++ y411) := ⟨_, rfl⟩
    replace H : (some (y414, 0)) = some (r1, r2) := by first | (rw [hy414]; with_reducible exact H) | (have H2_ := (Option.bind_some _ _).symm.trans H; rw [hy414]; with_reducible exact H2_) | (have H2_ := (Option.bind_some _ _).symm.trans H; with_reducible exact H2_) | with_reducible exact H | (rw [hy414]; exact H) | exact H
    have Ny414 := am hy414
    clear hy414
    simp only [Option.some.injEq, Prod.mk.injEq] at H
    obtain ⟨rfl, rfl⟩ := H
    go_enter Try.func22, Try.ntmps22
    go_wp2_with (first | ((with_reducible refine gate_dst (N := 1) rfl ?_); refine box_event ?hg (N := 1) ?hd (cs := #[.int .i64 a0_0, .int .i64 a0_1, .slice A0_2 l0_2.length c0_2]) (t := 42) ?hr ?_; (case hd => rfl); (case hg => rfl); (case hr => first | (go_simp; done) | (go_simp; rfl)); intro gb384 hg w13 hbox hb; have BK384 := am (hbox); have GW384 := am ((by rw [hg]; exact (below_size (zb HB)) : w.heap.size ≤ gb384)); have GE384 := am ((by rw [hg]; exact (below_size (zb HB)) : w.heap.size ≤ gb384)); replace HB := am (below_step (zb HB) hb); clear hb hbox hg; obtain ⟨hcz14_0, hcz14_1, hcz14_2⟩ := zc3 BK384; obtain ⟨hfz14_0, hfz14_1, hfz14_2⟩ := zf3 BK384) | ((with_reducible refine gate_callee (f := 53) rfl ?_); refine goesL_ (some 10) rfl rfl Try.func53 (by kernel_rfl) rfl #[.agg #[.int .i64 a0_0, .int .i64 a0_1, .slice A0_2 l0_2.length c0_2]] rfl zg ?_; (with_reducible refine (j11_Fits.calls k a0_0 a0_1 _ _ l0_2 t385 _ ?side1 ?side2 A2.out).mono ?_); (case side1 => exact zC ((Kd.C_below HR0_2.out HB.out))); (case side2 => exact HC0_2.out); rintro e w15 ⟨rfl, hb⟩; refine ⟨_, rfl, ?_⟩; replace BK384 := am (blk_below (g := gb384) (o := .cells #[.int .i64 a0_0, .int .i64 a0_1, .slice A0_2 l0_2.length c0_2] 42 (0, 0)) (zu BK384.out) hb); replace HB := am (below_step (zb HB) hb); (try clear hb); (try clear hb2); (try clear hk); (try clear hi); obtain ⟨hcz16_0, hcz16_1, hcz16_2⟩ := zc3 BK384; obtain ⟨hfz16_0, hfz16_1, hfz16_2⟩ := zf3 BK384) | ((with_reducible refine gate_callee (f := 54) rfl ?_); refine goesL_ (some 15) rfl rfl Try.func54 (by kernel_rfl) rfl #[.agg #[.int .i64 a0_0, .int .i64 a0_1, .slice A0_2 l0_2.length c0_2]] rfl zg ?_; (with_reducible refine (j11_Payload.calls k a0_0 a0_1 _ _ l0_2 t386 _ ?side1 ?side2 A4.out).mono ?_); (case side1 => exact zC ((Kd.C_below HR0_2.out HB.out))); (case side2 => exact HC0_2.out); rintro e w17 ⟨v387, rfl, ho0, hb⟩; refine ⟨_, rfl, ?_⟩; have HO388 := am (Kd.R_lower ho0 (below_size (zb HB))); replace BK384 := am (blk_below (g := gb384) (o := .cells #[.int .i64 a0_0, .int .i64 a0_1, .slice A0_2 l0_2.length c0_2] 42 (0, 0)) (zu BK384.out) hb); replace HB := am (below_step (zb HB) hb); (try clear hb); (try clear hb2); (try clear hk); (try clear hi); (try clear ho0); obtain ⟨Ao18, co18, eo18⟩ := Kd.R_slice HO388.out; subst eo18) | ((with_reducible refine gate_callee (f := 55) rfl ?_); refine goesL_ (some 17) rfl rfl Try.func55 (by kernel_rfl) rfl #[.slice Ao18 t386.length co18] rfl zg ?_; (with_reducible refine (j11_Pack.calls k _ _ t386 t389 _ ?side1 ?side2 A5.out).mono ?_); (case side1 => exact zC ((Kd.R_reads' HO388.out).2.2)); (case side2 => exact (Kd.R_reads' HO388.out).2.1); rintro e w19 ⟨v390, rfl, ho0, hb⟩; refine ⟨_, rfl, ?_⟩; have HO391 := am (Kd.R_lower (Kd.R_new' ho0 (Kd.R_lt (zR HO388.out))) (below_size (zb HB))); replace HO388 := am (Kd.R_elder' (zR HO388.out) (Kd.R_base ho0) hb); replace BK384 := am (blk_below (g := gb384) (o := .cells #[.int .i64 a0_0, .int .i64 a0_1, .slice A0_2 l0_2.length c0_2] 42 (0, 0)) (zu BK384.out) hb); replace HB := am (below_step (zb HB) hb); (try clear hb); (try clear hb2); (try clear hk); (try clear hi); (try clear ho0); obtain ⟨hcz20_0, hcz20_1, hcz20_2⟩ := zc3 BK384; obtain ⟨hfz20_0, hfz20_1, hfz20_2⟩ := zf3 BK384) | ((with_reducible refine gate_dst (N := 21) rfl ?_); refine Kd.R_lit (Kd.int .u8) _ 5 ?hg (N := 21) ?hd (xs := ([84, (a0_0) % 256] : List Int)) (inner := [.int .u8 84, .int .u8 ((a0_0) % 256)]) (ok := fun _ => True) (okp := fun _ => True) ?hr ?hp (fun _ hk => hk) trivial (Below.refl _ _) (Nat.le_refl _) (by simp) ?_; (case hd => rfl); (case hg => rfl); (case hr => first | (go_simp; done) | (go_simp; rfl)); (case hp => exact (Reps.one (show Kd.M (Kd.int .u8) _ _ _ 84 [.int .u8 84] from rfl) (Reps.one (show Kd.M (Kd.int .u8) _ _ _ ((a0_0) % 256) [.int .u8 ((a0_0) % 256)] from rfl) (Reps.none _ _)))); intro v393 w21 ho22 hb hg_ hnew_; clear hg_ hnew_; (first | rw [← Ny392.out] at ho22 | (simp only [Int.reduceToNat] at ho22; rw [← Ny392.out] at ho22)); have HO394 := am (Kd.R_lower (Kd.R_new' (Kd.R_new' ho22 (Kd.R_lt (zR HO388.out))) (Kd.R_lt (zR HO391.out))) (below_size (zb HB))); replace HO388 := am (Kd.R_elder' (zR HO388.out) (Kd.R_base ho22) hb); replace HO391 := am (Kd.R_elder' (zR HO391.out) (Kd.R_base ho22) hb); replace BK384 := am (blk_below (g := gb384) (o := .cells #[.int .i64 a0_0, .int .i64 a0_1, .slice A0_2 l0_2.length c0_2] 42 (0, 0)) (zu BK384.out) hb); replace HB := am (below_step (zb HB) hb); clear hb ho22; obtain ⟨hcz23_0, hcz23_1, hcz23_2⟩ := zc3 BK384; obtain ⟨hfz23_0, hfz23_1, hfz23_2⟩ := zf3 BK384; obtain ⟨Ao24, co24, eo24⟩ := Kd.R_slice HO394.out; subst eo24) | ((with_reducible refine gate_callee (f := 45) rfl ?_); refine goesL_ (some 25) rfl rfl Try.func45 (by kernel_rfl) rfl #[.slice Ao24 y392.length co24, .int .i64 a0_1] rfl zg ?_; (with_reducible refine (j11_PutInt.calls k _ _ y392 a0_1 t395 _ ?side1 ?side2 A6.out).mono ?_); (case side1 => exact zC ((Kd.R_reads' HO394.out).2.2)); (case side2 => exact (Kd.R_reads' HO394.out).2.1); rintro e w25 ⟨v396, rfl, ho0, hb⟩; refine ⟨_, rfl, ?_⟩; have HO397 := am (Kd.R_lower (Kd.R_new' (Kd.R_new' (Kd.R_new' ho0 (Kd.R_lt (zR HO388.out))) (Kd.R_lt (zR HO391.out))) (Kd.R_lt (zR HO394.out))) (below_size (zb HB))); replace HO388 := am (Kd.R_elder' (zR HO388.out) (Kd.R_base ho0) hb); replace HO391 := am (Kd.R_elder' (zR HO391.out) (Kd.R_base ho0) hb); replace HO394 := am (Kd.R_elder' (zR HO394.out) (Kd.R_base ho0) hb); replace BK384 := am (blk_below (g := gb384) (o := .cells #[.int .i64 a0_0, .int .i64 a0_1, .slice A0_2 l0_2.length c0_2] 42 (0, 0)) (zu BK384.out) hb); replace HB := am (below_step (zb HB) hb); (try clear hb); (try clear hb2); (try clear hk); (try clear hi); (try clear ho0); obtain ⟨hcz26_0, hcz26_1, hcz26_2⟩ := zc3 BK384; obtain ⟨hfz26_0, hfz26_1, hfz26_2⟩ := zf3 BK384; obtain ⟨Ao27, co27, eo27⟩ := Kd.R_slice HO397.out; subst eo27) | ((with_reducible refine gate_callee (f := 45) rfl ?_); refine goesL_ (some 30) rfl rfl Try.func45 (by kernel_rfl) rfl #[.slice Ao27 t395.length co27, .int .i64 (l0_2.length : Int)] rfl zg ?_; (with_reducible refine (j11_PutInt.calls k _ _ t395 (l0_2.length : Int) t398 _ ?side1 ?side2 A7.out).mono ?_); (case side1 => exact zC ((Kd.R_reads' HO397.out).2.2)); (case side2 => exact (Kd.R_reads' HO397.out).2.1); rintro e w28 ⟨v399, rfl, ho0, hb⟩; refine ⟨_, rfl, ?_⟩; have HO400 := am (Kd.R_lower (Kd.R_new' (Kd.R_new' (Kd.R_new' (Kd.R_new' ho0 (Kd.R_lt (zR HO388.out))) (Kd.R_lt (zR HO391.out))) (Kd.R_lt (zR HO394.out))) (Kd.R_lt (zR HO397.out))) (below_size (zb HB))); replace HO388 := am (Kd.R_elder' (zR HO388.out) (Kd.R_base ho0) hb); replace HO391 := am (Kd.R_elder' (zR HO391.out) (Kd.R_base ho0) hb); replace HO394 := am (Kd.R_elder' (zR HO394.out) (Kd.R_base ho0) hb); replace HO397 := am (Kd.R_elder' (zR HO397.out) (Kd.R_base ho0) hb); replace BK384 := am (blk_below (g := gb384) (o := .cells #[.int .i64 a0_0, .int .i64 a0_1, .slice A0_2 l0_2.length c0_2] 42 (0, 0)) (zu BK384.out) hb); replace HB := am (below_step (zb HB) hb); (try clear hb); (try clear hb2); (try clear hk); (try clear hi); (try clear ho0); obtain ⟨Ao29, co29, eo29⟩ := Kd.R_slice HO400.out; subst eo29) | ((with_reducible refine gate_callee (f := 45) rfl ?_); refine goesL_ (some 34) rfl rfl Try.func45 (by kernel_rfl) rfl #[.slice Ao29 t398.length co29, .int .i64 (t386.length : Int)] rfl zg ?_; (with_reducible refine (j11_PutInt.calls k _ _ t398 (t386.length : Int) t401 _ ?side1 ?side2 A8.out).mono ?_); (case side1 => exact zC ((Kd.R_reads' HO400.out).2.2)); (case side2 => exact (Kd.R_reads' HO400.out).2.1); rintro e w30 ⟨v402, rfl, ho0, hb⟩; refine ⟨_, rfl, ?_⟩; have HO403 := am (Kd.R_lower (Kd.R_new' (Kd.R_new' (Kd.R_new' (Kd.R_new' (Kd.R_new' ho0 (Kd.R_lt (zR HO388.out))) (Kd.R_lt (zR HO391.out))) (Kd.R_lt (zR HO394.out))) (Kd.R_lt (zR HO397.out))) (Kd.R_lt (zR HO400.out))) (below_size (zb HB))); replace HO388 := am (Kd.R_elder' (zR HO388.out) (Kd.R_base ho0) hb); replace HO391 := am (Kd.R_elder' (zR HO391.out) (Kd.R_base ho0) hb); replace HO394 := am (Kd.R_elder' (zR HO394.out) (Kd.R_base ho0) hb); replace HO397 := am (Kd.R_elder' (zR HO397.out) (Kd.R_base ho0) hb); replace HO400 := am (Kd.R_elder' (zR HO400.out) (Kd.R_base ho0) hb); replace BK384 := am (blk_below (g := gb384) (o := .cells #[.int .i64 a0_0, .int .i64 a0_1, .slice A0_2 l0_2.length c0_2] 42 (0, 0)) (zu BK384.out) hb); replace HB := am (below_step (zb HB) hb); (try clear hb); (try clear hb2); (try clear hk); (try clear hi); (try clear ho0); obtain ⟨Ao31, co31, eo31⟩ := Kd.R_slice HO391.out; subst eo31; obtain ⟨Ao32, co32, eo32⟩ := Kd.R_slice HO403.out; subst eo32) | ((with_reducible refine gate_callee (f := 45) rfl ?_); refine goesL_ (some 38) rfl rfl Try.func45 (by kernel_rfl) rfl #[.slice Ao32 t401.length co32, .int .i64 (t389.length : Int)] rfl zg ?_; (with_reducible refine (j11_PutInt.calls k _ _ t401 (t389.length : Int) t404 _ ?side1 ?side2 A9.out).mono ?_); (case side1 => exact zC ((Kd.R_reads' HO403.out).2.2)); (case side2 => exact (Kd.R_reads' HO403.out).2.1); rintro e w33 ⟨v405, rfl, ho0, hb⟩; refine ⟨_, rfl, ?_⟩; have HO406 := am (Kd.R_lower (Kd.R_new' (Kd.R_new' (Kd.R_new' (Kd.R_new' (Kd.R_new' (Kd.R_new' ho0 (Kd.R_lt (zR HO388.out))) (Kd.R_lt (zR HO391.out))) (Kd.R_lt (zR HO394.out))) (Kd.R_lt (zR HO397.out))) (Kd.R_lt (zR HO400.out))) (Kd.R_lt (zR HO403.out))) (below_size (zb HB))); replace HO388 := am (Kd.R_elder' (zR HO388.out) (Kd.R_base ho0) hb); replace HO391 := am (Kd.R_elder' (zR HO391.out) (Kd.R_base ho0) hb); replace HO394 := am (Kd.R_elder' (zR HO394.out) (Kd.R_base ho0) hb); replace HO397 := am (Kd.R_elder' (zR HO397.out) (Kd.R_base ho0) hb); replace HO400 := am (Kd.R_elder' (zR HO400.out) (Kd.R_base ho0) hb); replace HO403 := am (Kd.R_elder' (zR HO403.out) (Kd.R_base ho0) hb); replace BK384 := am (blk_below (g := gb384) (o := .cells #[.int .i64 a0_0, .int .i64 a0_1, .slice A0_2 l0_2.length c0_2] 42 (0, 0)) (zu BK384.out) hb); replace HB := am (below_step (zb HB) hb); (try clear hb); (try clear hb2); (try clear hk); (try clear hi); (try clear ho0)) | ((with_reducible refine gate_builtin (b := .append) (xs := #[.tmp 39, .tmp 40]) rfl ?_); at_builtin; refine Kd.R_append_rows (Kd.int .u8) (w0 := w) w.heap.size rfl (.tmp 39) (.tmp 40) 27 5 (.int .u8 0) 1 rfl Try.underlying27 info5 rfl (by decide) (by omega) v405 t404 t389 _ _ _ (fun k_ => some k_ ≠ (.slice Ao18 t386.length co18 : Value).ownBlock ∧ some k_ ≠ (.slice Ao31 t389.length co31 : Value).ownBlock ∧ some k_ ≠ (.slice Ao24 y392.length co24 : Value).ownBlock ∧ some k_ ≠ (.slice Ao27 t395.length co27 : Value).ownBlock ∧ some k_ ≠ (.slice Ao29 t398.length co29 : Value).ownBlock ∧ some k_ ≠ (.slice Ao32 t401.length co32 : Value).ownBlock) (fun _ => False) rfl rfl ?aO ?aR (fun _ _ h => h) (fun _ h => h.elim) ?aF ?aB ?aS ?aL ?_; (case aR => repeat (first | exact (Kd.R_reads' HO391.out).2.2 | (with_reducible refine Kd.C_alloc ?_ _) | (with_reducible refine Kd.C_drewN ?_ _) | (with_reducible refine Kd.C_drew ?_))); (case aB => exact (zb HB)); (case aF => exact (fun k_ hk => ⟨Kd.fresh' (Kd.R_lt (zR HO388.out)) k_ hk, Kd.fresh' (Kd.R_lt (zR HO391.out)) k_ hk, Kd.fresh' (Kd.R_lt (zR HO394.out)) k_ hk, Kd.fresh' (Kd.R_lt (zR HO397.out)) k_ hk, Kd.fresh' (Kd.R_lt (zR HO400.out)) k_ hk, Kd.fresh' (Kd.R_lt (zR HO403.out)) k_ hk⟩)); (case aO => exact (by (with_reducible repeat (first | apply Kd.R_alloc | apply Kd.R_drewN | apply Kd.R_drew)); exact Kd.R_mono HO406.out (fun _ hk => ⟨hk.1.1.1.1.1.2, ⟨hk.1.1.1.1.2, ⟨hk.1.1.1.2, ⟨hk.1.1.2, ⟨hk.1.2, hk.2⟩⟩⟩⟩⟩))); (case aS => exact (below_size (zb HB))); (case aL => have := LMc10.out; omega); intro v408 w34 ho hb hg hat; rw [← Ny407.out] at ho; have n0_ := am (blk_grown (g := gb384) (o := .cells #[.int .i64 a0_0, .int .i64 a0_1, .slice A0_2 l0_2.length c0_2] 42 (0, 0)) (zu BK384.out) hg (Kd.R_ne HO406.out BK384.out (by decide))); have n1_ := am (Kd.R_after (ok := (fun k_ => some k_ ≠ (.slice Ao31 t389.length co31 : Value).ownBlock ∧ some k_ ≠ (.slice Ao24 y392.length co24 : Value).ownBlock ∧ some k_ ≠ (.slice Ao27 t395.length co27 : Value).ownBlock ∧ some k_ ≠ (.slice Ao29 t398.length co29 : Value).ownBlock ∧ some k_ ≠ (.slice Ao32 t401.length co32 : Value).ownBlock)) (by (with_reducible repeat (first | apply Kd.R_alloc | apply Kd.R_drewN | apply Kd.R_drew)); exact Kd.R_mono HO388.out (fun _ hk => ⟨⟨hk.1.1.1.1.1.2, ⟨hk.1.1.1.1.2, ⟨hk.1.1.1.2, ⟨hk.1.1.2, hk.1.2⟩⟩⟩⟩, hk.2⟩)) hg hat); have n2_ := am (Kd.R_after (ok := (fun k_ => some k_ ≠ (.slice Ao18 t386.length co18 : Value).ownBlock ∧ some k_ ≠ (.slice Ao24 y392.length co24 : Value).ownBlock ∧ some k_ ≠ (.slice Ao27 t395.length co27 : Value).ownBlock ∧ some k_ ≠ (.slice Ao29 t398.length co29 : Value).ownBlock ∧ some k_ ≠ (.slice Ao32 t401.length co32 : Value).ownBlock)) (by (with_reducible repeat (first | apply Kd.R_alloc | apply Kd.R_drewN | apply Kd.R_drew)); exact Kd.R_mono HO391.out (fun _ hk => ⟨⟨hk.1.1.1.1.1.2, ⟨hk.1.1.1.1.2, ⟨hk.1.1.1.2, ⟨hk.1.1.2, hk.1.2⟩⟩⟩⟩, hk.2⟩)) hg hat); have n3_ := am (Kd.R_after (ok := (fun k_ => some k_ ≠ (.slice Ao18 t386.length co18 : Value).ownBlock ∧ some k_ ≠ (.slice Ao31 t389.length co31 : Value).ownBlock ∧ some k_ ≠ (.slice Ao27 t395.length co27 : Value).ownBlock ∧ some k_ ≠ (.slice Ao29 t398.length co29 : Value).ownBlock ∧ some k_ ≠ (.slice Ao32 t401.length co32 : Value).ownBlock)) (by (with_reducible repeat (first | apply Kd.R_alloc | apply Kd.R_drewN | apply Kd.R_drew)); exact Kd.R_mono HO394.out (fun _ hk => ⟨⟨hk.1.1.1.1.1.2, ⟨hk.1.1.1.1.2, ⟨hk.1.1.1.2, ⟨hk.1.1.2, hk.1.2⟩⟩⟩⟩, hk.2⟩)) hg hat); have n4_ := am (Kd.R_after (ok := (fun k_ => some k_ ≠ (.slice Ao18 t386.length co18 : Value).ownBlock ∧ some k_ ≠ (.slice Ao31 t389.length co31 : Value).ownBlock ∧ some k_ ≠ (.slice Ao24 y392.length co24 : Value).ownBlock ∧ some k_ ≠ (.slice Ao29 t398.length co29 : Value).ownBlock ∧ some k_ ≠ (.slice Ao32 t401.length co32 : Value).ownBlock)) (by (with_reducible repeat (first | apply Kd.R_alloc | apply Kd.R_drewN | apply Kd.R_drew)); exact Kd.R_mono HO397.out (fun _ hk => ⟨⟨hk.1.1.1.1.1.2, ⟨hk.1.1.1.1.2, ⟨hk.1.1.1.2, ⟨hk.1.1.2, hk.1.2⟩⟩⟩⟩, hk.2⟩)) hg hat); have n5_ := am (Kd.R_after (ok := (fun k_ => some k_ ≠ (.slice Ao18 t386.length co18 : Value).ownBlock ∧ some k_ ≠ (.slice Ao31 t389.length co31 : Value).ownBlock ∧ some k_ ≠ (.slice Ao24 y392.length co24 : Value).ownBlock ∧ some k_ ≠ (.slice Ao27 t395.length co27 : Value).ownBlock ∧ some k_ ≠ (.slice Ao32 t401.length co32 : Value).ownBlock)) (by (with_reducible repeat (first | apply Kd.R_alloc | apply Kd.R_drewN | apply Kd.R_drew)); exact Kd.R_mono HO400.out (fun _ hk => ⟨⟨hk.1.1.1.1.1.2, ⟨hk.1.1.1.1.2, ⟨hk.1.1.1.2, ⟨hk.1.1.2, hk.1.2⟩⟩⟩⟩, hk.2⟩)) hg hat); have n6_ := am (Kd.R_after (ok := (fun k_ => some k_ ≠ (.slice Ao18 t386.length co18 : Value).ownBlock ∧ some k_ ≠ (.slice Ao31 t389.length co31 : Value).ownBlock ∧ some k_ ≠ (.slice Ao24 y392.length co24 : Value).ownBlock ∧ some k_ ≠ (.slice Ao27 t395.length co27 : Value).ownBlock ∧ some k_ ≠ (.slice Ao29 t398.length co29 : Value).ownBlock)) (by (with_reducible repeat (first | apply Kd.R_alloc | apply Kd.R_drewN | apply Kd.R_drew)); exact Kd.R_mono HO403.out (fun _ hk => ⟨⟨hk.1.1.1.1.1.2, ⟨hk.1.1.1.1.2, ⟨hk.1.1.1.2, ⟨hk.1.1.2, hk.1.2⟩⟩⟩⟩, hk.2⟩)) hg hat); have n7_ := am (hb); have n8_ := am (ho); clear BK384; clear HO388; clear HO391; clear HO394; clear HO397; clear HO400; clear HO403; clear HB; clear HO406; have BK384 := n0_; have HO388 := n1_; have HO391 := n2_; have HO394 := n3_; have HO397 := n4_; have HO400 := n5_; have HO403 := n6_; have HB := n7_; have HO409 := n8_; clear n0_ n1_ n2_ n3_ n4_ n5_ n6_ n7_ n8_; clear ho hb hg hat; obtain ⟨Ao35, co35, eo35⟩ := Kd.R_slice HO409.out; subst eo35) | ((with_reducible refine gate_callee (f := 56) rfl ?_); refine goesL_ (some 43) rfl rfl Try.func56 (by kernel_rfl) rfl #[.slice Ao35 y407.length co35] rfl zg ?_; (with_reducible refine (j11_Sum.calls k _ _ y407 t410 _ ?side1 ?side2 A11.out).mono ?_); (case side1 => exact zC ((Kd.R_reads' HO409.out).2.2)); (case side2 => exact (Kd.R_reads' HO409.out).2.1); rintro e w' ⟨rfl, ⟨nd, rfl⟩⟩; refine ⟨_, rfl, ?_⟩) | ((with_reducible refine gate_dst (N := 56) rfl ?_); refine Kd.R_lit (Kd.int .u8) _ 5 ?hg (N := 56) ?hd (xs := ([(t410 / 16777216) % 256, (t410 / 65536) % 256, (t410 / 256) % 256, (t410) % 256] : List Int)) (inner := [.int .u8 ((t410 / 16777216) % 256), .int .u8 ((t410 / 65536) % 256), .int .u8 ((t410 / 256) % 256), .int .u8 ((t410) % 256)]) (ok := fun _ => True) (okp := fun _ => True) ?hr ?hp (fun _ hk => hk) trivial (Below.refl _ _) (Nat.le_refl _) (by simp) ?_; (case hd => rfl); (case hg => rfl); (case hr => first | (go_simp; done) | (go_simp; rfl)); (case hp => exact (Reps.one (show Kd.M (Kd.int .u8) _ _ _ ((t410 / 16777216) % 256) [.int .u8 ((t410 / 16777216) % 256)] from rfl) (Reps.one (show Kd.M (Kd.int .u8) _ _ _ ((t410 / 65536) % 256) [.int .u8 ((t410 / 65536) % 256)] from rfl) (Reps.one (show Kd.M (Kd.int .u8) _ _ _ ((t410 / 256) % 256) [.int .u8 ((t410 / 256) % 256)] from rfl) (Reps.one (show Kd.M (Kd.int .u8) _ _ _ ((t410) % 256) [.int .u8 ((t410) % 256)] from rfl) (Reps.none _ _)))))); intro v412 w36 ho37 hb hg_ hnew_; clear hg_ hnew_; (first | rw [← Ny411.out] at ho37 | (simp only [Int.reduceToNat] at ho37; rw [← Ny411.out] at ho37)); have HO413 := am (Kd.R_lower (Kd.R_new' (Kd.R_new' (Kd.R_new' (Kd.R_new' (Kd.R_new' (Kd.R_new' (Kd.R_new' ho37 (Kd.R_lt (zR HO388.out))) (Kd.R_lt (zR HO391.out))) (Kd.R_lt (zR HO394.out))) (Kd.R_lt (zR HO397.out))) (Kd.R_lt (zR HO400.out))) (Kd.R_lt (zR HO403.out))) (Kd.R_lt (zR HO409.out))) (below_size (zb HB))); replace HO388 := am (Kd.R_elder' (zR HO388.out) (Kd.R_base ho37) hb); replace HO391 := am (Kd.R_elder' (zR HO391.out) (Kd.R_base ho37) hb); replace HO394 := am (Kd.R_elder' (zR HO394.out) (Kd.R_base ho37) hb); replace HO397 := am (Kd.R_elder' (zR HO397.out) (Kd.R_base ho37) hb); replace HO400 := am (Kd.R_elder' (zR HO400.out) (Kd.R_base ho37) hb); replace HO403 := am (Kd.R_elder' (zR HO403.out) (Kd.R_base ho37) hb); replace HO409 := am (Kd.R_elder' (zR HO409.out) (Kd.R_base ho37) hb); replace BK384 := am (blk_below (g := gb384) (o := .cells #[.int .i64 a0_0, .int .i64 a0_1, .slice A0_2 l0_2.length c0_2] 42 (0, 0)) (zu BK384.out) hb); replace HB := am (below_step (zb HB) hb); clear hb ho37; obtain ⟨Ao39, co39, eo39⟩ := Kd.R_slice HO413.out; subst eo39) | ((with_reducible refine gate_builtin (b := .append) (xs := #[.tmp 44, .tmp 56]) rfl ?_); at_builtin; refine Kd.R_append_rows (Kd.int .u8) (w0 := w) w.heap.size rfl (.tmp 44) (.tmp 56) 27 5 (.int .u8 0) 1 rfl Try.underlying27 info5 rfl (by decide) (by omega) (.slice Ao35 y407.length co35) y407 y411 _ _ _ (fun k_ => some k_ ≠ (.slice Ao18 t386.length co18 : Value).ownBlock ∧ some k_ ≠ (.slice Ao31 t389.length co31 : Value).ownBlock ∧ some k_ ≠ (.slice Ao24 y392.length co24 : Value).ownBlock ∧ some k_ ≠ (.slice Ao27 t395.length co27 : Value).ownBlock ∧ some k_ ≠ (.slice Ao29 t398.length co29 : Value).ownBlock ∧ some k_ ≠ (.slice Ao32 t401.length co32 : Value).ownBlock ∧ some k_ ≠ (.slice Ao39 y411.length co39 : Value).ownBlock) (fun _ => False) rfl rfl ?aO ?aR (fun _ _ h => h) (fun _ h => h.elim) ?aF ?aB ?aS ?aL ?_; (case aR => repeat (first | exact (Kd.R_reads' HO413.out).2.2 | (with_reducible refine Kd.C_alloc ?_ _) | (with_reducible refine Kd.C_drewN ?_ _) | (with_reducible refine Kd.C_drew ?_))); (case aB => exact (zb HB)); (case aF => exact (fun k_ hk => ⟨Kd.fresh' (Kd.R_lt (zR HO388.out)) k_ hk, Kd.fresh' (Kd.R_lt (zR HO391.out)) k_ hk, Kd.fresh' (Kd.R_lt (zR HO394.out)) k_ hk, Kd.fresh' (Kd.R_lt (zR HO397.out)) k_ hk, Kd.fresh' (Kd.R_lt (zR HO400.out)) k_ hk, Kd.fresh' (Kd.R_lt (zR HO403.out)) k_ hk, Kd.fresh' (Kd.R_lt (zR HO413.out)) k_ hk⟩)); (case aO => exact (by (with_reducible repeat (first | apply Kd.R_alloc | apply Kd.R_drewN | apply Kd.R_drew)); exact Kd.R_mono HO409.out (fun _ hk => ⟨hk.1.1, ⟨hk.1.2.1, ⟨hk.1.2.2.1, ⟨hk.1.2.2.2.1, ⟨hk.1.2.2.2.2.1, ⟨hk.1.2.2.2.2.2, hk.2⟩⟩⟩⟩⟩⟩))); (case aS => exact (below_size (zb HB))); (case aL => have := LMc12.out; omega); intro v415 w38 ho hb hg hat; rw [← Ny414.out] at ho; have n0_ := am (blk_grown (g := gb384) (o := .cells #[.int .i64 a0_0, .int .i64 a0_1, .slice A0_2 l0_2.length c0_2] 42 (0, 0)) (zu BK384.out) hg (Kd.R_ne HO409.out BK384.out (by decide))); have n1_ := am (Kd.R_after (ok := (fun k_ => some k_ ≠ (.slice Ao31 t389.length co31 : Value).ownBlock ∧ some k_ ≠ (.slice Ao24 y392.length co24 : Value).ownBlock ∧ some k_ ≠ (.slice Ao27 t395.length co27 : Value).ownBlock ∧ some k_ ≠ (.slice Ao29 t398.length co29 : Value).ownBlock ∧ some k_ ≠ (.slice Ao32 t401.length co32 : Value).ownBlock ∧ some k_ ≠ (.slice Ao39 y411.length co39 : Value).ownBlock)) (by (with_reducible repeat (first | apply Kd.R_alloc | apply Kd.R_drewN | apply Kd.R_drew)); exact Kd.R_mono HO388.out (fun _ hk => ⟨⟨hk.1.1.1, ⟨hk.1.1.2.1, ⟨hk.1.1.2.2.1, ⟨hk.1.1.2.2.2.1, ⟨hk.1.1.2.2.2.2, hk.2⟩⟩⟩⟩⟩, hk.1.2⟩)) hg hat); have n2_ := am (Kd.R_after (ok := (fun k_ => some k_ ≠ (.slice Ao18 t386.length co18 : Value).ownBlock ∧ some k_ ≠ (.slice Ao24 y392.length co24 : Value).ownBlock ∧ some k_ ≠ (.slice Ao27 t395.length co27 : Value).ownBlock ∧ some k_ ≠ (.slice Ao29 t398.length co29 : Value).ownBlock ∧ some k_ ≠ (.slice Ao32 t401.length co32 : Value).ownBlock ∧ some k_ ≠ (.slice Ao39 y411.length co39 : Value).ownBlock)) (by (with_reducible repeat (first | apply Kd.R_alloc | apply Kd.R_drewN | apply Kd.R_drew)); exact Kd.R_mono HO391.out (fun _ hk => ⟨⟨hk.1.1.1, ⟨hk.1.1.2.1, ⟨hk.1.1.2.2.1, ⟨hk.1.1.2.2.2.1, ⟨hk.1.1.2.2.2.2, hk.2⟩⟩⟩⟩⟩, hk.1.2⟩)) hg hat); have n3_ := am (Kd.R_after (ok := (fun k_ => some k_ ≠ (.slice Ao18 t386.length co18 : Value).ownBlock ∧ some k_ ≠ (.slice Ao31 t389.length co31 : Value).ownBlock ∧ some k_ ≠ (.slice Ao27 t395.length co27 : Value).ownBlock ∧ some k_ ≠ (.slice Ao29 t398.length co29 : Value).ownBlock ∧ some k_ ≠ (.slice Ao32 t401.length co32 : Value).ownBlock ∧ some k_ ≠ (.slice Ao39 y411.length co39 : Value).ownBlock)) (by (with_reducible repeat (first | apply Kd.R_alloc | apply Kd.R_drewN | apply Kd.R_drew)); exact Kd.R_mono HO394.out (fun _ hk => ⟨⟨hk.1.1.1, ⟨hk.1.1.2.1, ⟨hk.1.1.2.2.1, ⟨hk.1.1.2.2.2.1, ⟨hk.1.1.2.2.2.2, hk.2⟩⟩⟩⟩⟩, hk.1.2⟩)) hg hat); have n4_ := am (Kd.R_after (ok := (fun k_ => some k_ ≠ (.slice Ao18 t386.length co18 : Value).ownBlock ∧ some k_ ≠ (.slice Ao31 t389.length co31 : Value).ownBlock ∧ some k_ ≠ (.slice Ao24 y392.length co24 : Value).ownBlock ∧ some k_ ≠ (.slice Ao29 t398.length co29 : Value).ownBlock ∧ some k_ ≠ (.slice Ao32 t401.length co32 : Value).ownBlock ∧ some k_ ≠ (.slice Ao39 y411.length co39 : Value).ownBlock)) (by (with_reducible repeat (first | apply Kd.R_alloc | apply Kd.R_drewN | apply Kd.R_drew)); exact Kd.R_mono HO397.out (fun _ hk => ⟨⟨hk.1.1.1, ⟨hk.1.1.2.1, ⟨hk.1.1.2.2.1, ⟨hk.1.1.2.2.2.1, ⟨hk.1.1.2.2.2.2, hk.2⟩⟩⟩⟩⟩, hk.1.2⟩)) hg hat); have n5_ := am (Kd.R_after (ok := (fun k_ => some k_ ≠ (.slice Ao18 t386.length co18 : Value).ownBlock ∧ some k_ ≠ (.slice Ao31 t389.length co31 : Value).ownBlock ∧ some k_ ≠ (.slice Ao24 y392.length co24 : Value).ownBlock ∧ some k_ ≠ (.slice Ao27 t395.length co27 : Value).ownBlock ∧ some k_ ≠ (.slice Ao32 t401.length co32 : Value).ownBlock ∧ some k_ ≠ (.slice Ao39 y411.length co39 : Value).ownBlock)) (by (with_reducible repeat (first | apply Kd.R_alloc | apply Kd.R_drewN | apply Kd.R_drew)); exact Kd.R_mono HO400.out (fun _ hk => ⟨⟨hk.1.1.1, ⟨hk.1.1.2.1, ⟨hk.1.1.2.2.1, ⟨hk.1.1.2.2.2.1, ⟨hk.1.1.2.2.2.2, hk.2⟩⟩⟩⟩⟩, hk.1.2⟩)) hg hat); have n6_ := am (Kd.R_after (ok := (fun k_ => some k_ ≠ (.slice Ao18 t386.length co18 : Value).ownBlock ∧ some k_ ≠ (.slice Ao31 t389.length co31 : Value).ownBlock ∧ some k_ ≠ (.slice Ao24 y392.length co24 : Value).ownBlock ∧ some k_ ≠ (.slice Ao27 t395.length co27 : Value).ownBlock ∧ some k_ ≠ (.slice Ao29 t398.length co29 : Value).ownBlock ∧ some k_ ≠ (.slice Ao39 y411.length co39 : Value).ownBlock)) (by (with_reducible repeat (first | apply Kd.R_alloc | apply Kd.R_drewN | apply Kd.R_drew)); exact Kd.R_mono HO403.out (fun _ hk => ⟨⟨hk.1.1.1, ⟨hk.1.1.2.1, ⟨hk.1.1.2.2.1, ⟨hk.1.1.2.2.2.1, ⟨hk.1.1.2.2.2.2, hk.2⟩⟩⟩⟩⟩, hk.1.2⟩)) hg hat); have n7_ := am (Kd.R_after (ok := (fun k_ => some k_ ≠ (.slice Ao18 t386.length co18 : Value).ownBlock ∧ some k_ ≠ (.slice Ao31 t389.length co31 : Value).ownBlock ∧ some k_ ≠ (.slice Ao24 y392.length co24 : Value).ownBlock ∧ some k_ ≠ (.slice Ao27 t395.length co27 : Value).ownBlock ∧ some k_ ≠ (.slice Ao29 t398.length co29 : Value).ownBlock ∧ some k_ ≠ (.slice Ao32 t401.length co32 : Value).ownBlock)) (by (with_reducible repeat (first | apply Kd.R_alloc | apply Kd.R_drewN | apply Kd.R_drew)); exact Kd.R_mono HO413.out (fun _ hk => ⟨⟨hk.1.1.1.1.1.1.2, ⟨hk.1.1.1.1.1.2, ⟨hk.1.1.1.1.2, ⟨hk.1.1.1.2, ⟨hk.1.1.2, hk.1.2⟩⟩⟩⟩⟩, hk.2⟩)) hg hat); have n8_ := am (hb); have n9_ := am (ho); clear BK384; clear HO388; clear HO391; clear HO394; clear HO397; clear HO400; clear HO403; clear HO413; clear HB; clear HO409; have BK384 := n0_; have HO388 := n1_; have HO391 := n2_; have HO394 := n3_; have HO397 := n4_; have HO400 := n5_; have HO403 := n6_; have HO413 := n7_; have HB := n8_; have HO416 := n9_; clear n0_ n1_ n2_ n3_ n4_ n5_ n6_ n7_ n8_ n9_; clear ho hb hg hat))
    go_ret2
    exact ⟨_, ze, by (with_reducible repeat (first | apply Kd.R_alloc | apply Kd.R_drewN | apply Kd.R_drew)); exact Kd.R_mono HO416.out (fun _ hk => trivial), zb HB⟩
   ·
    rw [if_neg c12] at H
    exact absurd H (by simp)
  ·
   rw [if_neg c10] at H
   exact absurd H (by simp)
 ·
  rw [if_neg c3] at H
  have c3b0 : (t385 == 0) = false := beq_eq_false_iff_ne.mpr c3
  have c3b1 : (t385 != 0) = true := bne_iff_ne.mpr c3
  simp only [Option.some.injEq, Prod.mk.injEq] at H
  obtain ⟨rfl, rfl⟩ := H
  go_enter Try.func22, Try.ntmps22
  go_wp2_with (first | ((with_reducible refine gate_dst (N := 1) rfl ?_); refine box_event ?hg (N := 1) ?hd (cs := #[.int .i64 a0_0, .int .i64 a0_1, .slice A0_2 l0_2.length c0_2]) (t := 42) ?hr ?_; (case hd => rfl); (case hg => rfl); (case hr => first | (go_simp; done) | (go_simp; rfl)); intro gb384 hg w40 hbox hb; have BK384 := am (hbox); have GW384 := am ((by rw [hg]; exact (below_size (zb HB)) : w.heap.size ≤ gb384)); have GE384 := am ((by rw [hg]; exact (below_size (zb HB)) : w.heap.size ≤ gb384)); replace HB := am (below_step (zb HB) hb); clear hb hbox hg; obtain ⟨hcz41_0, hcz41_1, hcz41_2⟩ := zc3 BK384; obtain ⟨hfz41_0, hfz41_1, hfz41_2⟩ := zf3 BK384) | ((with_reducible refine gate_callee (f := 53) rfl ?_); refine goesL_ (some 10) rfl rfl Try.func53 (by kernel_rfl) rfl #[.agg #[.int .i64 a0_0, .int .i64 a0_1, .slice A0_2 l0_2.length c0_2]] rfl zg ?_; (with_reducible refine (j11_Fits.calls k a0_0 a0_1 _ _ l0_2 t385 _ ?side1 ?side2 A2.out).mono ?_); (case side1 => exact zC ((Kd.C_below HR0_2.out HB.out))); (case side2 => exact HC0_2.out); rintro e w42 ⟨rfl, hb⟩; refine ⟨_, rfl, ?_⟩; replace BK384 := am (blk_below (g := gb384) (o := .cells #[.int .i64 a0_0, .int .i64 a0_1, .slice A0_2 l0_2.length c0_2] 42 (0, 0)) (zu BK384.out) hb); replace HB := am (below_step (zb HB) hb); (try clear hb); (try clear hb2); (try clear hk); (try clear hi)))
  go_ret2
  exact ⟨_, ze, by first | exact Kd.R_nil _ _ _ _ _ | exact Kd.N_nil _ _ _ _ _ | exact Kd.V_nil _ _ _ _ _ | exact Kd.Q_nil _ _ _ _ _ | exact Kd.S_nil _ _ _ _ _, zb HB⟩
mutual
def j11_Unpack.l0 : Nat → List Int → Int → List Int → Int → Option (List Int × Int)
 | 0, _, _, _, _ => none
 | k + 1, x0, x1, x6, x7 => if x7 < (x0.length : Int) then (if 0 ≤ x7 then (if (wrap64 (rd x0 x7)) < 128 then (if (wrap64 ((wrap64 (rd x0 x7)) + 1)) > (wrap64 ((wrap64 ((x0.length : Int) - x7)) - 1)) then (some (([] : List Int), 9)) else (if (wrap64 ((wrap64 (rd x0 x7)) + 1)) > (wrap64 (x1 - (x6.length : Int))) then (some (([] : List Int), 2)) else (if 0 ≤ (wrap64 (x7 + 1)) then (if (wrap64 (x7 + 1)) ≤ (wrap64 ((wrap64 (x7 + (wrap64 (rd x0 x7)))) + 2)) then (if (wrap64 ((wrap64 (x7 + (wrap64 (rd x0 x7)))) + 2)) ≤ (x0.length : Int) then (if x6.length + ((x0.take ((wrap64 ((wrap64 (x7 + (wrap64 (rd x0 x7)))) + 2)) : Int).toNat).drop ((wrap64 (x7 + 1)) : Int).toNat).length < 140737488355328 then (j11_Unpack.l0 k x0 x1 (x6 ++ ((x0.take ((wrap64 ((wrap64 (x7 + (wrap64 (rd x0 x7)))) + 2)) : Int).toNat).drop ((wrap64 (x7 + 1)) : Int).toNat)) (wrap64 ((wrap64 (x7 + (wrap64 (rd x0 x7)))) + 2))) else (none)) else (none)) else (none)) else (none)))) else (if (wrap64 (x7 + 1)) ≥ (x0.length : Int) then (some (([] : List Int), 9)) else (if 0 ≤ (wrap64 (x7 + 1)) then (if (wrap64 (x7 + 1)) < (x0.length : Int) then (if (wrap64 (rd x0 (wrap64 (x7 + 1)))) = 0 then (j11_Unpack.j1 k x0 x1 x6 x7 (wrap64 (rd x0 x7)) (wrap64 (rd x0 (wrap64 (x7 + 1)))) true) else (j11_Unpack.j1 k x0 x1 x6 x7 (wrap64 (rd x0 x7)) (wrap64 (rd x0 (wrap64 (x7 + 1)))) (decide ((wrap64 (rd x0 (wrap64 (x7 + 1)))) > (x6.length : Int))))) else (none)) else (none)))) else (none)) else (some (x6, 0))
def j11_Unpack.j1 : Nat → List Int → Int → List Int → Int → Int → Int → Bool → Option (List Int × Int)
 | 0, _, _, _, _, _, _, _ => none
 | k + 1, x0, x1, x6, x7, x8, x9, x69 => if x69 = true then (some (([] : List Int), 11)) else (if (wrap64 (x8 - 125)) > (wrap64 (x1 - (x6.length : Int))) then (some (([] : List Int), 2)) else (j11_Unpack.l1 k x0 x1 x6 x7 x8 x9 0))
def j11_Unpack.l1 : Nat → List Int → Int → List Int → Int → Int → Int → Int → Option (List Int × Int)
 | 0, _, _, _, _, _, _, _ => none
 | k + 1, x0, x1, x6, x7, x8, x9, x10 => if x10 < (wrap64 (x8 - 125)) then (if 0 ≤ (wrap64 ((x6.length : Int) - x9)) then (if (wrap64 ((x6.length : Int) - x9)) < (x6.length : Int) then (if x6.length < 140737488355328 then (j11_Unpack.l1 k x0 x1 (x6 ++ [rd x6 (wrap64 ((x6.length : Int) - x9))]) x7 x8 x9 (wrap64 (x10 + 1))) else (none)) else (none)) else (none)) else (j11_Unpack.l0 k x0 x1 x6 (wrap64 (x7 + 2)))
end
def j11_Unpack.f (k : Nat) (l0 : List Int) (a1 : Int) : Option (List Int × Int) := j11_Unpack.l0 k l0 a1 ([] : List Int) 0
theorem j11_Unpack.mono_l : ∀ k, (∀ y0 y1 y2 y3, LeO (j11_Unpack.l0 k y0 y1 y2 y3) (j11_Unpack.l0 (k + 1) y0 y1 y2 y3)) ∧ (∀ y0 y1 y2 y3 y4 y5 y6, LeO (j11_Unpack.j1 k y0 y1 y2 y3 y4 y5 y6) (j11_Unpack.j1 (k + 1) y0 y1 y2 y3 y4 y5 y6)) ∧ (∀ y0 y1 y2 y3 y4 y5 y6, LeO (j11_Unpack.l1 k y0 y1 y2 y3 y4 y5 y6) (j11_Unpack.l1 (k + 1) y0 y1 y2 y3 y4 y5 y6))
 | 0 => ⟨fun _ _ _ _ r h => by simp [j11_Unpack.l0] at h, fun _ _ _ _ _ _ _ r h => by simp [j11_Unpack.j1] at h, fun _ _ _ _ _ _ _ r h => by simp [j11_Unpack.l1] at h⟩
 | k + 1 => by
  obtain ⟨ih0, ih1, ih2⟩ := j11_Unpack.mono_l k
  refine ⟨?_, ?_, ?_⟩
  ·
   intro y0 y1 y2 y3
   unfold j11_Unpack.l0
   repeat' first
   | (with_reducible exact ih0 _ _ _ _)
   | (with_reducible exact ih1 _ _ _ _ _ _ _)
   | (with_reducible exact ih2 _ _ _ _ _ _ _)
   | (with_reducible exact LeO.refl _)
   | (with_reducible exact LeO.none _)
   | (with_reducible refine LeO.ite ?_ ?_)
   | (with_reducible refine LeO.bind ?_ (fun _ => ?_))
   | exact ih0 _ _ _ _
   | exact ih1 _ _ _ _ _ _ _
   | exact ih2 _ _ _ _ _ _ _
   | exact LeO.none _
   | refine LeO.ite ?_ ?_
   | refine LeO.bind ?_ (fun _ => ?_)
  ·
   intro y0 y1 y2 y3 y4 y5 y6
   unfold j11_Unpack.j1
   repeat' first
   | (with_reducible exact ih0 _ _ _ _)
   | (with_reducible exact ih1 _ _ _ _ _ _ _)
   | (with_reducible exact ih2 _ _ _ _ _ _ _)
   | (with_reducible exact LeO.refl _)
   | (with_reducible exact LeO.none _)
   | (with_reducible refine LeO.ite ?_ ?_)
   | (with_reducible refine LeO.bind ?_ (fun _ => ?_))
   | exact ih0 _ _ _ _
   | exact ih1 _ _ _ _ _ _ _
   | exact ih2 _ _ _ _ _ _ _
   | exact LeO.none _
   | refine LeO.ite ?_ ?_
   | refine LeO.bind ?_ (fun _ => ?_)
  ·
   intro y0 y1 y2 y3 y4 y5 y6
   unfold j11_Unpack.l1
   repeat' first
   | (with_reducible exact ih0 _ _ _ _)
   | (with_reducible exact ih1 _ _ _ _ _ _ _)
   | (with_reducible exact ih2 _ _ _ _ _ _ _)
   | (with_reducible exact LeO.refl _)
   | (with_reducible exact LeO.none _)
   | (with_reducible refine LeO.ite ?_ ?_)
   | (with_reducible refine LeO.bind ?_ (fun _ => ?_))
   | exact ih0 _ _ _ _
   | exact ih1 _ _ _ _ _ _ _
   | exact ih2 _ _ _ _ _ _ _
   | exact LeO.none _
   | refine LeO.ite ?_ ?_
   | refine LeO.bind ?_ (fun _ => ?_)
theorem j11_Unpack.mono : ∀ a0 a1 k, LeO (j11_Unpack.f k a0 a1) (j11_Unpack.f (k + 1) a0 a1) := by
 intro a0 a1 k
 obtain ⟨ih0, ih1, ih2⟩ := j11_Unpack.mono_l k
 unfold j11_Unpack.f
 repeat' first
   | (with_reducible exact ih0 _ _ _ _)
   | (with_reducible exact ih1 _ _ _ _ _ _ _)
   | (with_reducible exact ih2 _ _ _ _ _ _ _)
   | (with_reducible exact LeO.refl _)
   | (with_reducible exact LeO.none _)
   | (with_reducible refine LeO.ite ?_ ?_)
   | (with_reducible refine LeO.bind ?_ (fun _ => ?_))
   | exact ih0 _ _ _ _
   | exact ih1 _ _ _ _ _ _ _
   | exact ih2 _ _ _ _ _ _ _
   | exact LeO.none _
   | refine LeO.ite ?_ ?_
   | refine LeO.bind ?_ (fun _ => ?_)
set_option maxHeartbeats 8000000 in
set_option maxRecDepth 100000 in
theorem j11_Unpack.calls (k : Nat) (A0 : Option Addr) (c0 : Nat) (l0 : List Int) (a1 : Int) (r1 : List Int) (r2 : Int) (w : World) (hr0 : Kd.C (Kd.int .u8) w A0 l0.length l0) (hc0 : l0.length ≤ c0) (h : j11_Unpack.f k l0 a1 = some (r1, r2)) :
  Calls Try.prog 66 #[.slice A0 l0.length c0, .int .i64 a1] w fun e w' => ∃ v0_ : Value, e = .returned (.tuple #[v0_, .int .i64 r2]) ∧ Kd.R (Kd.int .u8) 5 w' w.heap.size (fun _ => True) v0_ r1 ∧ Below w.heap.size w w' := by
 have HR0 := am hr0
 have HC0 := am hc0
 clear hr0 hc0
 have HB := am (Below.refl w.heap.size w)
 have H : (j11_Unpack.l0 k l0 a1 ([] : List Int) 0) = some (r1, r2) := h
 clear h
 have H' := am H
 clear H
 go_enter Try.func66, Try.ntmps66
 go_wp2
 go_loopg [6, 7] k (fun kq v6 v7 w' => ∃ (x6_1 : List Int) (x7_1 : Int), v7 = .int .i64 x7_1 ∧ Aside0 (j11_Unpack.l0 kq l0 a1 x6_1 x7_1 = some (r1, r2)) ∧ Aside0 (kq ≤ k) ∧ Aside0 (Kd.R (Kd.int .u8) 5 w' w.heap.size (fun _ => True) v6 x6_1) ∧ Aside0 (Below w.heap.size w w'))
 case atStart => exact ⟨(([] : List Int)), (0), zr, H', ⟨Nat.le_refl _⟩, ⟨by first | exact Kd.R_nil _ _ _ _ _ | exact Kd.N_nil _ _ _ _ _ | exact Kd.V_nil _ _ _ _ _ | exact Kd.Q_nil _ _ _ _ _ | exact Kd.S_nil _ _ _ _ _⟩, ⟨zb HB⟩⟩
 case round =>
  clear H'
  try clear p2
  obtain ⟨x6_1, x7_1, rfl, HA, HK1, HO_6, HB⟩ := hrel
  cases gk with
  | zero => exact absurd HA.out (by simp [j11_Unpack.l0])
  | succ k1 =>
   have H := HA.out
   clear HA
   simp only [j11_Unpack.l0] at H
   by_cases c3 : x7_1 < (l0.length : Int)
   ·
    rw [if_pos c3] at H
    have c3b0 : decide (x7_1 < (l0.length : Int)) = true := decide_eq_true c3
    clear c3
    by_cases c4 : 0 ≤ x7_1
    ·
     rw [if_pos c4] at H
     have c4b0 : decide (0 ≤ x7_1) = true := decide_eq_true c4
     clear c4
     by_cases c5 : (wrap64 (rd l0 x7_1)) < 128
     ·
      rw [if_pos c5] at H
      have c5b0 : decide ((wrap64 (rd l0 x7_1)) < 128) = true := decide_eq_true c5
      clear c5
      by_cases c6 : (wrap64 ((wrap64 (rd l0 x7_1)) + 1)) > (wrap64 ((wrap64 ((l0.length : Int) - x7_1)) - 1))
      ·
       rw [if_pos c6] at H
       have c6b0 : decide ((wrap64 ((wrap64 ((l0.length : Int) - x7_1)) - 1)) < (wrap64 ((wrap64 (rd l0 x7_1)) + 1))) = true := decide_eq_true c6
       clear c6
       simp only [Option.some.injEq, Prod.mk.injEq] at H
       obtain ⟨rfl, rfl⟩ := H
       have p588 : 0 ≤ (x7_1 : Int) := zo
       have q588 : x7_1 < (l0.length : Int) := zo
       obtain ⟨ad588, e588, hx588_0⟩ := Kd.at_int HR0.out x7_1 p588 q588
       cases e588
       replace hx588_0 := zx HB hx588_0
       replace p588 := eq_true p588
       replace q588 := eq_true q588
       go_wp2
       go_ret2
       exact ⟨_, ze, by first | exact Kd.R_nil _ _ _ _ _ | exact Kd.N_nil _ _ _ _ _ | exact Kd.V_nil _ _ _ _ _ | exact Kd.Q_nil _ _ _ _ _ | exact Kd.S_nil _ _ _ _ _, zb HB⟩
      ·
       rw [if_neg c6] at H
       have c6b0 : decide ((wrap64 ((wrap64 ((l0.length : Int) - x7_1)) - 1)) < (wrap64 ((wrap64 (rd l0 x7_1)) + 1))) = false := decide_eq_false c6
       clear c6
       by_cases c7 : (wrap64 ((wrap64 (rd l0 x7_1)) + 1)) > (wrap64 (a1 - (x6_1.length : Int)))
       ·
        rw [if_pos c7] at H
        have c7b0 : decide ((wrap64 (a1 - (x6_1.length : Int))) < (wrap64 ((wrap64 (rd l0 x7_1)) + 1))) = true := decide_eq_true c7
        clear c7
        simp only [Option.some.injEq, Prod.mk.injEq] at H
        obtain ⟨rfl, rfl⟩ := H
        have p588 : 0 ≤ (x7_1 : Int) := zo
        have q588 : x7_1 < (l0.length : Int) := zo
        obtain ⟨ad588, e588, hx588_0⟩ := Kd.at_int HR0.out x7_1 p588 q588
        cases e588
        replace hx588_0 := zx HB hx588_0
        replace p588 := eq_true p588
        replace q588 := eq_true q588
        obtain ⟨Ao8, co8, eo8⟩ := Kd.R_slice HO_6.out
        subst eo8
        go_wp2
        go_ret2
        exact ⟨_, ze, by first | exact Kd.R_nil _ _ _ _ _ | exact Kd.N_nil _ _ _ _ _ | exact Kd.V_nil _ _ _ _ _ | exact Kd.Q_nil _ _ _ _ _ | exact Kd.S_nil _ _ _ _ _, zb HB⟩
       ·
        rw [if_neg c7] at H
        have c7b0 : decide ((wrap64 (a1 - (x6_1.length : Int))) < (wrap64 ((wrap64 (rd l0 x7_1)) + 1))) = false := decide_eq_false c7
        clear c7
        obtain ⟨ji9, hji9⟩ : ∃ j_ : Int, (wrap64 (x7_1 + 1)) = j_ := ⟨_, rfl⟩
        (first | rw [hji9] at H | simp only [hji9] at H)
        have hji9w : (IntKind.i64.wrap (x7_1 + 1)) = ji9 := (i64_w _).trans hji9
        by_cases c10 : 0 ≤ (ji9)
        ·
         rw [if_pos c10] at H
         have c10b0 := eq_true c10
         have c10b1 : decide (0 ≤ (ji9)) = true := decide_eq_true c10
         clear c10
         by_cases c11 : (ji9) ≤ (wrap64 ((wrap64 (x7_1 + (wrap64 (rd l0 x7_1)))) + 2))
         ·
          rw [if_pos c11] at H
          have c11b0 := eq_true c11
          have c11b1 : decide ((ji9) ≤ (wrap64 ((wrap64 (x7_1 + (wrap64 (rd l0 x7_1)))) + 2))) = true := decide_eq_true c11
          by_cases c12 : (wrap64 ((wrap64 (x7_1 + (wrap64 (rd l0 x7_1)))) + 2)) ≤ (l0.length : Int)
          ·
           rw [if_pos c12] at H
           have c12b0 := eq_true c12
           have c12b1 : decide ((wrap64 ((wrap64 (x7_1 + (wrap64 (rd l0 x7_1)))) + 2)) ≤ (l0.length : Int)) = true := decide_eq_true c12
           by_cases c13 : x6_1.length + ((l0.take ((wrap64 ((wrap64 (x7_1 + (wrap64 (rd l0 x7_1)))) + 2)) : Int).toNat).drop ((ji9) : Int).toNat).length < 140737488355328
           ·
            rw [if_pos c13] at H
            have LMc13 := am c13
            clear c13
            obtain ⟨y590, hy590⟩ : ∃ y_ : List Int, y_ = (x6_1 ++ ((l0.take ((wrap64 ((wrap64 (x7_1 + (wrap64 (rd l0 x7_1)))) + 2)) : Int).toNat).drop ((ji9) : Int).toNat)) := ⟨_, rfl⟩
            replace H : (j11_Unpack.l0 k1 l0 a1 y590 (wrap64 ((wrap64 (x7_1 + (wrap64 (rd l0 x7_1)))) + 2))) = some (r1, r2) := by first | (rw [hy590]; with_reducible exact H) | (have H2_ := (Option.bind_some _ _).symm.trans H; rw [hy590]; with_reducible exact H2_) | (have H2_ := (Option.bind_some _ _).symm.trans H; with_reducible exact H2_) | with_reducible exact H | (rw [hy590]; exact H) | exact H
            have Ny590 := am hy590
            clear hy590
            have H' := am H
            clear H
            have p588 : 0 ≤ (x7_1 : Int) := zo
            have q588 : x7_1 < (l0.length : Int) := zo
            obtain ⟨ad588, e588, hx588_0⟩ := Kd.at_int HR0.out x7_1 p588 q588
            cases e588
            replace hx588_0 := zx HB hx588_0
            replace p588 := eq_true p588
            replace q588 := eq_true q588
            obtain ⟨Ao14, co14, eo14⟩ := Kd.R_slice HO_6.out
            subst eo14
            obtain ⟨i015, hi015, _, hsz15, _⟩ := info_parts info5
            obtain ⟨A15, hcut15, hA15, hC15⟩ := print_mid_of (P := Try.prog) (Value.int .u8) 0 27 5 .i64 .i64 Try.underlying27 hi015 hsz15 (some ad588) c0 l0 (ji9) (wrap64 ((wrap64 (x7_1 + (wrap64 (rd l0 x7_1)))) + 2)) zo (by first | omega | exact zo) zo HC0.out
            have HR589 := am (Kd.C_of_reads (h1 := fun _ => rfl) (hA15 _ (Kd.reads_of_C HR0.out)))
            have HC589 := am hC15
            clear hA15 hC15 hi015 hsz15
            go_wp2_with (first | ((with_reducible refine gate_builtin (b := .append) (xs := #[.tmp 37, .tmp 45]) rfl ?_); (try (refine gate_guard (by rfl) ?_; dsimp only)); at_builtin; refine Kd.R_append_rows (Kd.int .u8) (w0 := w) w.heap.size rfl (.tmp 37) (.tmp 45) 27 5 (.int .u8 0) 1 rfl Try.underlying27 info5 rfl (by decide) (by omega) (.slice Ao14 x6_1.length co14) x6_1 ((l0.take ((wrap64 ((wrap64 (x7_1 + (wrap64 (rd l0 x7_1)))) + 2)) : Int).toNat).drop ((ji9) : Int).toNat) _ _ _ (fun _ => True) (fun _ => False) rfl rfl ?aO ?aR (fun _ _ h => h) (fun _ h => h.elim) ?aF ?aB ?aS ?aL ?_; (case aR => first | (rw [← show ((l0.take ((wrap64 ((wrap64 (x7_1 + (wrap64 (rd l0 x7_1)))) + 2)) : Int).toNat).drop ((ji9) : Int).toNat).length = ((wrap64 ((wrap64 (x7_1 + (wrap64 (rd l0 x7_1)))) + 2)).toNat - (ji9).toNat) from (by rw [List.length_drop, List.length_take]; have h_ : ((wrap64 ((wrap64 (x7_1 + (wrap64 (rd l0 x7_1)))) + 2)) : Int) ≤ (l0.length : Int) := zo; omega)]; repeat (first | exact (Kd.C_below HR589.out HB.out) | (with_reducible refine Kd.C_alloc ?_ _) | (with_reducible refine Kd.C_drewN ?_ _) | (with_reducible refine Kd.C_drew ?_))) | (repeat (first | exact (Kd.C_below HR589.out HB.out) | (with_reducible refine Kd.C_alloc ?_ _) | (with_reducible refine Kd.C_drewN ?_ _) | (with_reducible refine Kd.C_drew ?_)))); (case aB => exact (zb HB)); (case aF => exact (fun _ _ => trivial)); (case aO => exact (zR HO_6.out)); (case aS => exact (below_size (zb HB))); (case aL => have := LMc13.out; have hlx_ := (show ((l0.take ((wrap64 ((wrap64 (x7_1 + (wrap64 (rd l0 x7_1)))) + 2)) : Int).toNat).drop ((ji9) : Int).toNat).length = ((wrap64 ((wrap64 (x7_1 + (wrap64 (rd l0 x7_1)))) + 2)).toNat - (ji9).toNat) from (by rw [List.length_drop, List.length_take]; have h_ : ((wrap64 ((wrap64 (x7_1 + (wrap64 (rd l0 x7_1)))) + 2)) : Int) ≤ (l0.length : Int) := zo; omega)); omega); intro v591 w16 ho hb hg hat; rw [← Ny590.out] at ho; have n0_ := am (hb); have n1_ := am (ho); clear HB; clear HO_6; have HB := n0_; have HO592 := n1_; clear n0_ n1_; clear ho hb hg hat))
            go_roundg k1
            case measure => have := HK1.out; omega
            case rel => exact ⟨(y590), (wrap64 ((wrap64 (x7_1 + (wrap64 (rd l0 x7_1)))) + 2)), zr, H', ⟨by have := HK1.out; omega⟩, ⟨by (with_reducible repeat (first | apply Kd.R_alloc | apply Kd.R_drewN | apply Kd.R_drew)); exact HO592.out⟩, ⟨zb HB⟩⟩
           ·
            rw [if_neg c13] at H
            exact absurd H (by simp)
          ·
           rw [if_neg c12] at H
           exact absurd H (by simp)
         ·
          rw [if_neg c11] at H
          exact absurd H (by simp)
        ·
         rw [if_neg c10] at H
         exact absurd H (by simp)
     ·
      rw [if_neg c5] at H
      have c5b0 : decide ((wrap64 (rd l0 x7_1)) < 128) = false := decide_eq_false c5
      clear c5
      by_cases c17 : (wrap64 (x7_1 + 1)) ≥ (l0.length : Int)
      ·
       rw [if_pos c17] at H
       have c17b0 : decide ((l0.length : Int) ≤ (wrap64 (x7_1 + 1))) = true := decide_eq_true c17
       clear c17
       simp only [Option.some.injEq, Prod.mk.injEq] at H
       obtain ⟨rfl, rfl⟩ := H
       have p588 : 0 ≤ (x7_1 : Int) := zo
       have q588 : x7_1 < (l0.length : Int) := zo
       obtain ⟨ad588, e588, hx588_0⟩ := Kd.at_int HR0.out x7_1 p588 q588
       cases e588
       replace hx588_0 := zx HB hx588_0
       replace p588 := eq_true p588
       replace q588 := eq_true q588
       go_wp2
       go_ret2
       exact ⟨_, ze, by first | exact Kd.R_nil _ _ _ _ _ | exact Kd.N_nil _ _ _ _ _ | exact Kd.V_nil _ _ _ _ _ | exact Kd.Q_nil _ _ _ _ _ | exact Kd.S_nil _ _ _ _ _, zb HB⟩
      ·
       rw [if_neg c17] at H
       have c17b0 : decide ((l0.length : Int) ≤ (wrap64 (x7_1 + 1))) = false := decide_eq_false c17
       clear c17
       obtain ⟨ji18, hji18⟩ : ∃ j_ : Int, (wrap64 (x7_1 + 1)) = j_ := ⟨_, rfl⟩
       (first | rw [hji18] at H | simp only [hji18] at H)
       (try rw [hji18] at c17b0)
       have hji18w : (IntKind.i64.wrap (x7_1 + 1)) = ji18 := (i64_w _).trans hji18
       by_cases c19 : 0 ≤ (ji18)
       ·
        rw [if_pos c19] at H
        have c19b0 : decide (0 ≤ (ji18)) = true := decide_eq_true c19
        clear c19
        by_cases c20 : (ji18) < (l0.length : Int)
        ·
         rw [if_pos c20] at H
         have c20b0 : decide ((ji18) < (l0.length : Int)) = true := decide_eq_true c20
         clear c20
         have HC21 := am H
         clear H
         have p588 : 0 ≤ (x7_1 : Int) := zo
         have q588 : x7_1 < (l0.length : Int) := zo
         obtain ⟨ad588, e588, hx588_0⟩ := Kd.at_int HR0.out x7_1 p588 q588
         cases e588
         replace hx588_0 := zx HB hx588_0
         replace p588 := eq_true p588
         replace q588 := eq_true q588
         have p593 : 0 ≤ ((ji18) : Int) := zo
         have q593 : (ji18) < (l0.length : Int) := zo
         obtain ⟨ad593, e593, hx593_0⟩ := Kd.at_int HR0.out (ji18) p593 q593
         obtain rfl : ad588 = ad593 := (by injection e593)
         replace hx593_0 := zx HB hx593_0
         replace p593 := eq_true p593
         replace q593 := eq_true q593
         go_upto_region 15 with (fail)
         go_cut [69] (fun v69 wc => ∃ (kq : Nat) (x69_20 : Bool), v69 = .bool x69_20 ∧ Aside0 (j11_Unpack.j1 kq l0 a1 x6_1 x7_1 (wrap64 (rd l0 x7_1)) (wrap64 (rd l0 (ji18))) x69_20 = some (r1, r2)) ∧ Aside0 (kq ≤ k1) ∧ Aside0 (Kd.R (Kd.int .u8) 5 wc w.heap.size (fun _ => True) u6 x6_1) ∧ Aside0 (Below w.heap.size w wc))
         case first =>
          have H := HC21.out
          clear HC21
          by_cases c22 : (wrap64 (rd l0 (ji18))) = 0
          ·
           rw [if_pos c22] at H
           have c22b0 : ((wrap64 (rd l0 (ji18))) == 0) = true := beq_iff_eq.mpr c22
           have c22b1 : ((wrap64 (rd l0 (ji18))) != 0) = false := bne_eq_false_iff_eq.mpr c22
           clear c22
           (first | rw [c22b0] | (simp only [i64_w, i32_w]; rw [c22b0]) | skip)
           have H' := am H
           clear H
           go_wp2
           go_meet
           case rel => exact ⟨_, (true), zr, H', ⟨by have := HK1.out; first | omega | exact Nat.le_refl _⟩, ⟨by (with_reducible repeat (first | apply Kd.R_alloc | apply Kd.R_drewN | apply Kd.R_drew)); exact HO_6.out⟩, ⟨zb HB⟩⟩
          ·
           rw [if_neg c22] at H
           have c22b0 : ((wrap64 (rd l0 (ji18))) == 0) = false := beq_eq_false_iff_ne.mpr c22
           have c22b1 : ((wrap64 (rd l0 (ji18))) != 0) = true := bne_iff_ne.mpr c22
           (first | rw [c22b0] | (simp only [i64_w, i32_w]; rw [c22b0]) | skip)
           have H' := am H
           clear H
           obtain ⟨Ao23, co23, eo23⟩ := Kd.R_slice HO_6.out
           subst eo23
           go_wp2
           go_meet
           case rel => exact ⟨_, (decide ((wrap64 (rd l0 (ji18))) > (x6_1.length : Int))), (by first | rfl | (simp; done) | (simp only [← hji18] <;> (first | rfl | simp)) | (simp [*]; done)), H', ⟨by have := HK1.out; first | omega | exact Nat.le_refl _⟩, ⟨by (with_reducible repeat (first | apply Kd.R_alloc | apply Kd.R_drewN | apply Kd.R_drew)); exact HO_6.out⟩, ⟨zb HB⟩⟩
         case rest =>
          clear HC21
          obtain ⟨kq, x69_20, rfl, HA, HJ20, HO_6, HB⟩ := hcut
          cases kq with
          | zero => exact absurd HA.out (by simp [j11_Unpack.j1])
          | succ kj20 =>
           have H := HA.out
           clear HA
           simp only [j11_Unpack.j1] at H
           by_cases c24 : x69_20 = true
           ·
            subst c24
            have H1 : (some (([] : List Int), 11)) = some (r1, r2) := by rw [if_pos rfl] at H; exact H
            clear H
            have H := H1
            clear H1
            simp only [Option.some.injEq, Prod.mk.injEq] at H
            obtain ⟨rfl, rfl⟩ := H
            go_wp2
            go_ret2
            exact ⟨_, by first | rfl | (simp [errW_none, errW_some] <;> rfl) | (simp only [← hji18]; first | rfl | (simp [errW_none, errW_some] <;> rfl)) | (simp [*, errW_none, errW_some] <;> rfl), by first | exact Kd.R_nil _ _ _ _ _ | exact Kd.N_nil _ _ _ _ _ | exact Kd.V_nil _ _ _ _ _ | exact Kd.Q_nil _ _ _ _ _ | exact Kd.S_nil _ _ _ _ _, zb HB⟩
           ·
            replace c24 := Bool.eq_false_iff.mpr c24
            subst c24
            have H1 : (if (wrap64 ((wrap64 (rd l0 x7_1)) - 125)) > (wrap64 (a1 - (x6_1.length : Int))) then (some (([] : List Int), 2)) else (j11_Unpack.l1 kj20 l0 a1 x6_1 x7_1 (wrap64 (rd l0 x7_1)) (wrap64 (rd l0 (ji18))) 0)) = some (r1, r2) := by rw [if_neg (show ¬ (false = true) by decide)] at H; exact H
            clear H
            have H := H1
            clear H1
            by_cases c25 : (wrap64 ((wrap64 (rd l0 x7_1)) - 125)) > (wrap64 (a1 - (x6_1.length : Int)))
            ·
             rw [if_pos c25] at H
             have c25b0 : decide ((wrap64 (a1 - (x6_1.length : Int))) < (wrap64 ((wrap64 (rd l0 x7_1)) - 125))) = true := decide_eq_true c25
             clear c25
             simp only [Option.some.injEq, Prod.mk.injEq] at H
             obtain ⟨rfl, rfl⟩ := H
             obtain ⟨Ao26, co26, eo26⟩ := Kd.R_slice HO_6.out
             subst eo26
             go_wp2
             go_ret2
             exact ⟨_, by first | rfl | (simp [errW_none, errW_some] <;> rfl) | (simp only [← hji18]; first | rfl | (simp [errW_none, errW_some] <;> rfl)) | (simp [*, errW_none, errW_some] <;> rfl), by first | exact Kd.R_nil _ _ _ _ _ | exact Kd.N_nil _ _ _ _ _ | exact Kd.V_nil _ _ _ _ _ | exact Kd.Q_nil _ _ _ _ _ | exact Kd.S_nil _ _ _ _ _, zb HB⟩
            ·
             rw [if_neg c25] at H
             have c25b0 : decide ((wrap64 (a1 - (x6_1.length : Int))) < (wrap64 ((wrap64 (rd l0 x7_1)) - 125))) = false := decide_eq_false c25
             clear c25
             have H' := am H
             clear H
             obtain ⟨Ao27, co27, eo27⟩ := Kd.R_slice HO_6.out
             subst eo27
             go_wp2
             go_loopg [6, 10] kj20 (fun kq v6 v10 w' => ∃ (x6_3 : List Int) (x10_3 : Int), v10 = .int .i64 x10_3 ∧ Aside0 (j11_Unpack.l1 kq l0 a1 x6_3 x7_1 (wrap64 (rd l0 x7_1)) (wrap64 (rd l0 (ji18))) x10_3 = some (r1, r2)) ∧ Aside0 (kq ≤ kj20) ∧ Aside0 (Kd.R (Kd.int .u8) 5 w' w.heap.size (fun _ => True) v6 x6_3) ∧ Aside0 (Below w.heap.size w w'))
             case atStart => exact ⟨(x6_1), (0), zr, H', ⟨Nat.le_refl _⟩, ⟨by (with_reducible repeat (first | apply Kd.R_alloc | apply Kd.R_drewN | apply Kd.R_drew)); exact HO_6.out⟩, ⟨zb HB⟩⟩
             case round =>
              clear H'
              obtain ⟨x6_3, x10_3, rfl, HA, HK3, HO_6, HB⟩ := hrel
              cases gk with
              | zero => exact absurd HA.out (by simp [j11_Unpack.l1])
              | succ k3 =>
               have H := HA.out
               clear HA
               simp only [j11_Unpack.l1] at H
               by_cases c28 : x10_3 < (wrap64 ((wrap64 (rd l0 x7_1)) - 125))
               ·
                rw [if_pos c28] at H
                have c28b0 : decide (x10_3 < (wrap64 ((wrap64 (rd l0 x7_1)) - 125))) = true := decide_eq_true c28
                clear c28
                obtain ⟨ji29, hji29⟩ : ∃ j_ : Int, (wrap64 ((x6_3.length : Int) - (wrap64 (rd l0 (ji18))))) = j_ := ⟨_, rfl⟩
                (first | rw [hji29] at H | simp only [hji29] at H)
                have hji29w : (IntKind.i64.wrap ((x6_3.length : Int) - (wrap64 (rd l0 (ji18))))) = ji29 := (i64_w _).trans hji29
                by_cases c30 : 0 ≤ (ji29)
                ·
                 rw [if_pos c30] at H
                 have c30b0 : decide (0 ≤ (ji29)) = true := decide_eq_true c30
                 clear c30
                 by_cases c31 : (ji29) < (x6_3.length : Int)
                 ·
                  rw [if_pos c31] at H
                  have c31b0 : decide ((ji29) < (x6_3.length : Int)) = true := decide_eq_true c31
                  clear c31
                  by_cases c32 : x6_3.length < 140737488355328
                  ·
                   rw [if_pos c32] at H
                   have LMc32 := am c32
                   clear c32
                   obtain ⟨y595, hy595⟩ : ∃ y_ : List Int, y_ = (x6_3 ++ [rd x6_3 (ji29)]) := ⟨_, rfl⟩
                   replace H : (j11_Unpack.l1 k3 l0 a1 y595 x7_1 (wrap64 (rd l0 x7_1)) (wrap64 (rd l0 (ji18))) (wrap64 (x10_3 + 1))) = some (r1, r2) := by first | (rw [hy595]; with_reducible exact H) | (have H2_ := (Option.bind_some _ _).symm.trans H; rw [hy595]; with_reducible exact H2_) | (have H2_ := (Option.bind_some _ _).symm.trans H; with_reducible exact H2_) | with_reducible exact H | (rw [hy595]; exact H) | exact H
                   have Ny595 := am hy595
                   clear hy595
                   have H' := am H
                   clear H
                   obtain ⟨Ao33, co33, eo33⟩ := Kd.R_slice HO_6.out
                   subst eo33
                   have p594 : 0 ≤ ((ji29) : Int) := zo
                   have q594 : (ji29) < (x6_3.length : Int) := zo
                   obtain ⟨ad594, e594, hx594_0⟩ := Kd.at_int (Kd.R_reads' HO_6.out).2.2 (ji29) p594 q594
                   cases e594
                   replace p594 := eq_true p594
                   replace q594 := eq_true q594
                   go_wp2_with (first | ((with_reducible refine gate_builtin (b := .append) (xs := #[.tmp 83, .tmp 91]) rfl ?_); (try (refine gate_guard (by rfl) ?_; dsimp only)); at_builtin; refine Kd.R_append (Kd.int .u8) (w0 := w) w.heap.size rfl (.tmp 83) (.tmp 91) 27 5 (.int .u8 0) 1 rfl Try.underlying27 info5 rfl (by decide) (by omega) (.slice (some ad594) x6_3.length co33) x6_3 (rd x6_3 (ji29)) [.int .u8 (rd x6_3 (ji29))] (fun _ => True) (fun _ => False) rfl rfl ?aP (fun _ hk => hk.elim) ?aF ?aO ?aB ?aS ?aL ?_; (case aP => exact rfl); (case aB => exact (zb HB)); (case aF => exact (fun _ _ => trivial)); (case aO => exact (zR HO_6.out)); (case aS => exact (below_size (zb HB))); (case aL => have := LMc32.out; omega); intro v596 w34 ho hb hg hat; rw [← Ny595.out] at ho; have n0_ := am (hb); have n1_ := am (ho); clear HB; clear HO_6; have HB := n0_; have HO597 := n1_; clear n0_ n1_; clear ho hb hg hat))
                   go_roundg k3
                   case measure => have := HK1.out; have := HJ20.out; have := HK3.out; omega
                   case rel => exact ⟨(y595), (wrap64 (x10_3 + 1)), zr, H', ⟨by have := HK1.out; have := HJ20.out; have := HK3.out; omega⟩, ⟨by (with_reducible repeat (first | apply Kd.R_alloc | apply Kd.R_drewN | apply Kd.R_drew)); exact HO597.out⟩, ⟨zb HB⟩⟩
                  ·
                   rw [if_neg c32] at H
                   exact absurd H (by simp)
                 ·
                  rw [if_neg c31] at H
                  exact absurd H (by simp)
                ·
                 rw [if_neg c30] at H
                 exact absurd H (by simp)
               ·
                rw [if_neg c28] at H
                have c28b0 : decide (x10_3 < (wrap64 ((wrap64 (rd l0 x7_1)) - 125))) = false := decide_eq_false c28
                clear c28
                have H' := am H
                clear H
                go_wp2
                go_roundg k3
                case measure => have := HK1.out; have := HJ20.out; have := HK3.out; omega
                case rel => exact ⟨(x6_3), (wrap64 (x7_1 + 2)), zr, H', ⟨by have := HK1.out; have := HJ20.out; have := HK3.out; omega⟩, ⟨by (with_reducible repeat (first | apply Kd.R_alloc | apply Kd.R_drewN | apply Kd.R_drew)); exact HO_6.out⟩, ⟨zb HB⟩⟩
        ·
         rw [if_neg c20] at H
         exact absurd H (by simp)
       ·
        rw [if_neg c19] at H
        exact absurd H (by simp)
    ·
     rw [if_neg c4] at H
     exact absurd H (by simp)
   ·
    rw [if_neg c3] at H
    have c3b0 : decide (x7_1 < (l0.length : Int)) = false := decide_eq_false c3
    clear c3
    simp only [Option.some.injEq, Prod.mk.injEq] at H
    obtain ⟨rfl, rfl⟩ := H
    go_wp2
    go_ret2
    exact ⟨_, ze, by (with_reducible repeat (first | apply Kd.R_alloc | apply Kd.R_drewN | apply Kd.R_drew)); exact HO_6.out, zb HB⟩
end Go.Proofs.Ytnmmkgagbfniiaa.A
end
