/- MBlockReads12: texts of this session and of the kit's printer on the road to the statement BlockReads, laid into one and rid of what it doesn't need. No condition beyond what each fact names. -/
import Derived.Test.YtnmmkgagbfniiaaMBlockReads3
import Derived.Test.YtnmmkgagbfniiaaMBlockReads2
import Derived.Test.YtnmmkgagbfniiaaMBlockReads10
import Derived.Test.YtnmmkgagbfniiaaMBlockReads11
section
namespace Go.Proofs.Ytnmmkgagbfniiaa.A
open Go.RowKit Go.Proofs.YtnmmkgagbfniiaaW.PrintWords Go.Proofs.YtnmmkgagbfniiaaW.PrintLast Go.Proofs.YtnmmkgagbfniiaaW.PrintMore
attribute [local go_sem] max2_int min2_int max_two min_two max_three min_three max_four min_four
set_option linter.unusedVariables false
set_option linter.unusedSimpArgs false
def j11_Append.f (k : Nat) (l0 : List Int) (a1_0 : Int) (a1_1 : Int) (a1_2 : Int) (a1_3 : Int) (a1_4 : Int) (a1_5 : Int) (l1_6 : List Int) (l1_7 : List Int) (a2 : Int) : Option (List Int) := (j11_PutInt.f k l0 (wrap64 (a1_0 - a2))).bind fun t210 => ((j11_PutInt.f k t210 a1_2).bind fun t213 => ((j11_PutInt.f k t213 a1_3).bind fun t216 => ((j11_PutInt.f k t216 a1_4).bind fun t219 => ((j11_PutInt.f k t219 a1_5).bind fun t222 => ((j11_putList.f k t222 l1_6).bind fun t225 => ((j11_putList.f k t225 l1_7).bind fun t228 => (some t228)))))))
theorem j11_Append.mono : ∀ a0 a1 a2 a3 a4 a5 a6 a7 a8 a9 k, LeO (j11_Append.f k a0 a1 a2 a3 a4 a5 a6 a7 a8 a9) (j11_Append.f (k + 1) a0 a1 a2 a3 a4 a5 a6 a7 a8 a9) := by
 intro a0 a1 a2 a3 a4 a5 a6 a7 a8 a9 k
 unfold j11_Append.f
 repeat' first
   | (with_reducible exact j11_PutInt.mono _ _ _)
   | (with_reducible exact j11_putList.mono _ _ _)
   | (with_reducible exact LeO.refl _)
   | (with_reducible exact LeO.none _)
   | (with_reducible refine LeO.ite ?_ ?_)
   | (with_reducible refine LeO.bind ?_ (fun _ => ?_))
   | exact j11_PutInt.mono _ _ _
   | exact j11_putList.mono _ _ _
   | exact LeO.none _
   | refine LeO.ite ?_ ?_
   | refine LeO.bind ?_ (fun _ => ?_)
set_option maxHeartbeats 8000000 in
set_option maxRecDepth 100000 in
theorem j11_Append.calls (k : Nat) (A0 : Option Addr) (c0 : Nat) (l0 : List Int) (a1_0 : Int) (a1_1 : Int) (a1_2 : Int) (a1_3 : Int) (a1_4 : Int) (a1_5 : Int) (A1_6 : Option Addr) (c1_6 : Nat) (l1_6 : List Int) (A1_7 : Option Addr) (c1_7 : Nat) (l1_7 : List Int) (a2 : Int) (r : List Int) (w : World) (hr0 : Kd.C (Kd.int .u8) w A0 l0.length l0) (hc0 : l0.length ≤ c0) (hr1_6 : Kd.C (Kd.int .i64) w A1_6 l1_6.length l1_6) (hc1_6 : l1_6.length ≤ c1_6) (hr1_7 : Kd.C (Kd.int .i64) w A1_7 l1_7.length l1_7) (hc1_7 : l1_7.length ≤ c1_7) (h : j11_Append.f k l0 a1_0 a1_1 a1_2 a1_3 a1_4 a1_5 l1_6 l1_7 a2 = some r) :
  Calls Try.prog 16 #[.slice A0 l0.length c0, .agg #[.int .i64 a1_0, .int .i64 a1_1, .int .i64 a1_2, .int .i64 a1_3, .int .i64 a1_4, .int .i64 a1_5, .slice A1_6 l1_6.length c1_6, .slice A1_7 l1_7.length c1_7], .int .i64 a2] w fun e w' => ∃ v0_ : Value, e = .returned (v0_) ∧ Kd.R (Kd.int .u8) 5 w' w.heap.size (fun _ => True) v0_ r ∧ Below w.heap.size w w' := by
 have hu26 := Try.underlying26
 have HR0 := am hr0
 have HC0 := am hc0
 clear hr0 hc0
 have HR1_6 := am hr1_6
 have HC1_6 := am hc1_6
 clear hr1_6 hc1_6
 have HR1_7 := am hr1_7
 have HC1_7 := am hc1_7
 clear hr1_7 hc1_7
 have HB := am (Below.refl w.heap.size w)
 have H : ((j11_PutInt.f k l0 (wrap64 (a1_0 - a2))).bind fun t210 => ((j11_PutInt.f k t210 a1_2).bind fun t213 => ((j11_PutInt.f k t213 a1_3).bind fun t216 => ((j11_PutInt.f k t216 a1_4).bind fun t219 => ((j11_PutInt.f k t219 a1_5).bind fun t222 => ((j11_putList.f k t222 l1_6).bind fun t225 => ((j11_putList.f k t225 l1_7).bind fun t228 => (some t228)))))))) = some r := h
 clear h
 replace H := Option.bind_eq_some_iff.mp H
 obtain ⟨t210, A40, H⟩ := H
 (try dsimp only at H)
 have A4 := am A40
 clear A40
 replace H := Option.bind_eq_some_iff.mp H
 obtain ⟨t213, A50, H⟩ := H
 (try dsimp only at H)
 have A5 := am A50
 clear A50
 replace H := Option.bind_eq_some_iff.mp H
 obtain ⟨t216, A60, H⟩ := H
 (try dsimp only at H)
 have A6 := am A60
 clear A60
 replace H := Option.bind_eq_some_iff.mp H
 obtain ⟨t219, A70, H⟩ := H
 (try dsimp only at H)
 have A7 := am A70
 clear A70
 replace H := Option.bind_eq_some_iff.mp H
 obtain ⟨t222, A80, H⟩ := H
 (try dsimp only at H)
 have A8 := am A80
 clear A80
 replace H := Option.bind_eq_some_iff.mp H
 obtain ⟨t225, A90, H⟩ := H
 (try dsimp only at H)
 have A9 := am A90
 clear A90
 replace H := Option.bind_eq_some_iff.mp H
 obtain ⟨t228, A100, H⟩ := H
 (try dsimp only at H)
 have A10 := am A100
 clear A100
 obtain rfl := Option.some.inj H
 go_enter Try.func16, Try.ntmps16
 go_wp2_with (first | ((with_reducible refine gate_dst (N := 4) rfl ?_); refine box_event ?hg (N := 4) ?hd (cs := #[.int .i64 a1_0, .int .i64 a1_1, .int .i64 a1_2, .int .i64 a1_3, .int .i64 a1_4, .int .i64 a1_5, .slice A1_6 l1_6.length c1_6, .slice A1_7 l1_7.length c1_7]) (t := 26) ?hr ?_; (case hd => rfl); (case hg => rfl); (case hr => first | (go_simp; done) | (go_simp; rfl)); intro gb209 hg w11 hbox hb; have BK209 := am (hbox); have GW209 := am ((by rw [hg]; exact (below_size (zb HB)) : w.heap.size ≤ gb209)); have GE209 := am ((by rw [hg]; exact (below_size (zb HB)) : w.heap.size ≤ gb209)); replace HB := am (below_step (zb HB) hb); clear hb hbox hg; obtain ⟨hcz12_0, hcz12_1, hcz12_2, hcz12_3, hcz12_4, hcz12_5, hcz12_6, hcz12_7⟩ := zc8 BK209; obtain ⟨hfz12_0, hfz12_1, hfz12_2, hfz12_3, hfz12_4, hfz12_5, hfz12_6, hfz12_7⟩ := zf8 BK209) | ((with_reducible refine gate_callee (f := 45) rfl ?_); refine goesL_ (some 12) rfl rfl Try.func45 (by kernel_rfl) rfl #[.slice A0 l0.length c0, .int .i64 (wrap64 (a1_0 - a2))] rfl zg ?_; (with_reducible refine (j11_PutInt.calls k _ _ l0 (wrap64 (a1_0 - a2)) t210 _ ?side1 ?side2 A4.out).mono ?_); (case side1 => exact zC ((Kd.C_below HR0.out HB.out))); (case side2 => exact HC0.out); rintro e w13 ⟨v211, rfl, ho0, hb⟩; refine ⟨_, rfl, ?_⟩; have HO212 := am (Kd.R_lower ho0 (below_size (zb HB))); replace BK209 := am (blk_below (g := gb209) (o := .cells #[.int .i64 a1_0, .int .i64 a1_1, .int .i64 a1_2, .int .i64 a1_3, .int .i64 a1_4, .int .i64 a1_5, .slice A1_6 l1_6.length c1_6, .slice A1_7 l1_7.length c1_7] 26 (0, 0)) (zu BK209.out) hb); replace HB := am (below_step (zb HB) hb); (try clear hb); (try clear hb2); (try clear hk); (try clear hi); (try clear ho0); obtain ⟨hcz14_0, hcz14_1, hcz14_2, hcz14_3, hcz14_4, hcz14_5, hcz14_6, hcz14_7⟩ := zc8 BK209; obtain ⟨hfz14_0, hfz14_1, hfz14_2, hfz14_3, hfz14_4, hfz14_5, hfz14_6, hfz14_7⟩ := zf8 BK209; obtain ⟨Ao15, co15, eo15⟩ := Kd.R_slice HO212.out; subst eo15) | ((with_reducible refine gate_callee (f := 45) rfl ?_); refine goesL_ (some 17) rfl rfl Try.func45 (by kernel_rfl) rfl #[.slice Ao15 t210.length co15, .int .i64 a1_2] rfl zg ?_; (with_reducible refine (j11_PutInt.calls k _ _ t210 a1_2 t213 _ ?side1 ?side2 A5.out).mono ?_); (case side1 => exact zC ((Kd.R_reads' HO212.out).2.2)); (case side2 => exact (Kd.R_reads' HO212.out).2.1); rintro e w16 ⟨v214, rfl, ho0, hb⟩; refine ⟨_, rfl, ?_⟩; have HO215 := am (Kd.R_lower (Kd.R_new' ho0 (Kd.R_lt (zR HO212.out))) (below_size (zb HB))); replace HO212 := am (Kd.R_elder' (zR HO212.out) (Kd.R_base ho0) hb); replace BK209 := am (blk_below (g := gb209) (o := .cells #[.int .i64 a1_0, .int .i64 a1_1, .int .i64 a1_2, .int .i64 a1_3, .int .i64 a1_4, .int .i64 a1_5, .slice A1_6 l1_6.length c1_6, .slice A1_7 l1_7.length c1_7] 26 (0, 0)) (zu BK209.out) hb); replace HB := am (below_step (zb HB) hb); (try clear hb); (try clear hb2); (try clear hk); (try clear hi); (try clear ho0); obtain ⟨hcz17_0, hcz17_1, hcz17_2, hcz17_3, hcz17_4, hcz17_5, hcz17_6, hcz17_7⟩ := zc8 BK209; obtain ⟨hfz17_0, hfz17_1, hfz17_2, hfz17_3, hfz17_4, hfz17_5, hfz17_6, hfz17_7⟩ := zf8 BK209; obtain ⟨Ao18, co18, eo18⟩ := Kd.R_slice HO215.out; subst eo18) | ((with_reducible refine gate_callee (f := 45) rfl ?_); refine goesL_ (some 22) rfl rfl Try.func45 (by kernel_rfl) rfl #[.slice Ao18 t213.length co18, .int .i64 a1_3] rfl zg ?_; (with_reducible refine (j11_PutInt.calls k _ _ t213 a1_3 t216 _ ?side1 ?side2 A6.out).mono ?_); (case side1 => exact zC ((Kd.R_reads' HO215.out).2.2)); (case side2 => exact (Kd.R_reads' HO215.out).2.1); rintro e w19 ⟨v217, rfl, ho0, hb⟩; refine ⟨_, rfl, ?_⟩; have HO218 := am (Kd.R_lower (Kd.R_new' (Kd.R_new' ho0 (Kd.R_lt (zR HO212.out))) (Kd.R_lt (zR HO215.out))) (below_size (zb HB))); replace HO212 := am (Kd.R_elder' (zR HO212.out) (Kd.R_base ho0) hb); replace HO215 := am (Kd.R_elder' (zR HO215.out) (Kd.R_base ho0) hb); replace BK209 := am (blk_below (g := gb209) (o := .cells #[.int .i64 a1_0, .int .i64 a1_1, .int .i64 a1_2, .int .i64 a1_3, .int .i64 a1_4, .int .i64 a1_5, .slice A1_6 l1_6.length c1_6, .slice A1_7 l1_7.length c1_7] 26 (0, 0)) (zu BK209.out) hb); replace HB := am (below_step (zb HB) hb); (try clear hb); (try clear hb2); (try clear hk); (try clear hi); (try clear ho0); obtain ⟨hcz20_0, hcz20_1, hcz20_2, hcz20_3, hcz20_4, hcz20_5, hcz20_6, hcz20_7⟩ := zc8 BK209; obtain ⟨hfz20_0, hfz20_1, hfz20_2, hfz20_3, hfz20_4, hfz20_5, hfz20_6, hfz20_7⟩ := zf8 BK209; obtain ⟨Ao21, co21, eo21⟩ := Kd.R_slice HO218.out; subst eo21) | ((with_reducible refine gate_callee (f := 45) rfl ?_); refine goesL_ (some 27) rfl rfl Try.func45 (by kernel_rfl) rfl #[.slice Ao21 t216.length co21, .int .i64 a1_4] rfl zg ?_; (with_reducible refine (j11_PutInt.calls k _ _ t216 a1_4 t219 _ ?side1 ?side2 A7.out).mono ?_); (case side1 => exact zC ((Kd.R_reads' HO218.out).2.2)); (case side2 => exact (Kd.R_reads' HO218.out).2.1); rintro e w22 ⟨v220, rfl, ho0, hb⟩; refine ⟨_, rfl, ?_⟩; have HO221 := am (Kd.R_lower (Kd.R_new' (Kd.R_new' (Kd.R_new' ho0 (Kd.R_lt (zR HO212.out))) (Kd.R_lt (zR HO215.out))) (Kd.R_lt (zR HO218.out))) (below_size (zb HB))); replace HO212 := am (Kd.R_elder' (zR HO212.out) (Kd.R_base ho0) hb); replace HO215 := am (Kd.R_elder' (zR HO215.out) (Kd.R_base ho0) hb); replace HO218 := am (Kd.R_elder' (zR HO218.out) (Kd.R_base ho0) hb); replace BK209 := am (blk_below (g := gb209) (o := .cells #[.int .i64 a1_0, .int .i64 a1_1, .int .i64 a1_2, .int .i64 a1_3, .int .i64 a1_4, .int .i64 a1_5, .slice A1_6 l1_6.length c1_6, .slice A1_7 l1_7.length c1_7] 26 (0, 0)) (zu BK209.out) hb); replace HB := am (below_step (zb HB) hb); (try clear hb); (try clear hb2); (try clear hk); (try clear hi); (try clear ho0); obtain ⟨hcz23_0, hcz23_1, hcz23_2, hcz23_3, hcz23_4, hcz23_5, hcz23_6, hcz23_7⟩ := zc8 BK209; obtain ⟨hfz23_0, hfz23_1, hfz23_2, hfz23_3, hfz23_4, hfz23_5, hfz23_6, hfz23_7⟩ := zf8 BK209; obtain ⟨Ao24, co24, eo24⟩ := Kd.R_slice HO221.out; subst eo24) | ((with_reducible refine gate_callee (f := 45) rfl ?_); refine goesL_ (some 32) rfl rfl Try.func45 (by kernel_rfl) rfl #[.slice Ao24 t219.length co24, .int .i64 a1_5] rfl zg ?_; (with_reducible refine (j11_PutInt.calls k _ _ t219 a1_5 t222 _ ?side1 ?side2 A8.out).mono ?_); (case side1 => exact zC ((Kd.R_reads' HO221.out).2.2)); (case side2 => exact (Kd.R_reads' HO221.out).2.1); rintro e w25 ⟨v223, rfl, ho0, hb⟩; refine ⟨_, rfl, ?_⟩; have HO224 := am (Kd.R_lower (Kd.R_new' (Kd.R_new' (Kd.R_new' (Kd.R_new' ho0 (Kd.R_lt (zR HO212.out))) (Kd.R_lt (zR HO215.out))) (Kd.R_lt (zR HO218.out))) (Kd.R_lt (zR HO221.out))) (below_size (zb HB))); replace HO212 := am (Kd.R_elder' (zR HO212.out) (Kd.R_base ho0) hb); replace HO215 := am (Kd.R_elder' (zR HO215.out) (Kd.R_base ho0) hb); replace HO218 := am (Kd.R_elder' (zR HO218.out) (Kd.R_base ho0) hb); replace HO221 := am (Kd.R_elder' (zR HO221.out) (Kd.R_base ho0) hb); replace BK209 := am (blk_below (g := gb209) (o := .cells #[.int .i64 a1_0, .int .i64 a1_1, .int .i64 a1_2, .int .i64 a1_3, .int .i64 a1_4, .int .i64 a1_5, .slice A1_6 l1_6.length c1_6, .slice A1_7 l1_7.length c1_7] 26 (0, 0)) (zu BK209.out) hb); replace HB := am (below_step (zb HB) hb); (try clear hb); (try clear hb2); (try clear hk); (try clear hi); (try clear ho0); obtain ⟨hcz26_0, hcz26_1, hcz26_2, hcz26_3, hcz26_4, hcz26_5, hcz26_6, hcz26_7⟩ := zc8 BK209; obtain ⟨hfz26_0, hfz26_1, hfz26_2, hfz26_3, hfz26_4, hfz26_5, hfz26_6, hfz26_7⟩ := zf8 BK209; obtain ⟨Ao27, co27, eo27⟩ := Kd.R_slice HO224.out; subst eo27) | ((with_reducible refine gate_callee (f := 46) rfl ?_); refine goesL_ (some 37) rfl rfl Try.func46 (by kernel_rfl) rfl #[.slice Ao27 t222.length co27, .slice A1_6 l1_6.length c1_6] rfl zg ?_; (with_reducible refine (j11_putList.calls k _ _ t222 _ _ l1_6 t225 _ ?side1 ?side2 ?side3 ?side4 A9.out).mono ?_); (case side1 => exact zC ((Kd.R_reads' HO224.out).2.2)); (case side2 => exact (Kd.R_reads' HO224.out).2.1); (case side3 => exact zC ((Kd.C_below HR1_6.out HB.out))); (case side4 => exact HC1_6.out); rintro e w28 ⟨v226, rfl, ho0, hb⟩; refine ⟨_, rfl, ?_⟩; have HO227 := am (Kd.R_lower (Kd.R_new' (Kd.R_new' (Kd.R_new' (Kd.R_new' (Kd.R_new' ho0 (Kd.R_lt (zR HO212.out))) (Kd.R_lt (zR HO215.out))) (Kd.R_lt (zR HO218.out))) (Kd.R_lt (zR HO221.out))) (Kd.R_lt (zR HO224.out))) (below_size (zb HB))); replace HO212 := am (Kd.R_elder' (zR HO212.out) (Kd.R_base ho0) hb); replace HO215 := am (Kd.R_elder' (zR HO215.out) (Kd.R_base ho0) hb); replace HO218 := am (Kd.R_elder' (zR HO218.out) (Kd.R_base ho0) hb); replace HO221 := am (Kd.R_elder' (zR HO221.out) (Kd.R_base ho0) hb); replace HO224 := am (Kd.R_elder' (zR HO224.out) (Kd.R_base ho0) hb); replace BK209 := am (blk_below (g := gb209) (o := .cells #[.int .i64 a1_0, .int .i64 a1_1, .int .i64 a1_2, .int .i64 a1_3, .int .i64 a1_4, .int .i64 a1_5, .slice A1_6 l1_6.length c1_6, .slice A1_7 l1_7.length c1_7] 26 (0, 0)) (zu BK209.out) hb); replace HB := am (below_step (zb HB) hb); (try clear hb); (try clear hb2); (try clear hk); (try clear hi); (try clear ho0); obtain ⟨hcz29_0, hcz29_1, hcz29_2, hcz29_3, hcz29_4, hcz29_5, hcz29_6, hcz29_7⟩ := zc8 BK209; obtain ⟨hfz29_0, hfz29_1, hfz29_2, hfz29_3, hfz29_4, hfz29_5, hfz29_6, hfz29_7⟩ := zf8 BK209; obtain ⟨Ao30, co30, eo30⟩ := Kd.R_slice HO227.out; subst eo30) | ((with_reducible refine gate_callee (f := 46) rfl ?_); refine goesL_ (some 42) rfl rfl Try.func46 (by kernel_rfl) rfl #[.slice Ao30 t225.length co30, .slice A1_7 l1_7.length c1_7] rfl zg ?_; (with_reducible refine (j11_putList.calls k _ _ t225 _ _ l1_7 t228 _ ?side1 ?side2 ?side3 ?side4 A10.out).mono ?_); (case side1 => exact zC ((Kd.R_reads' HO227.out).2.2)); (case side2 => exact (Kd.R_reads' HO227.out).2.1); (case side3 => exact zC ((Kd.C_below HR1_7.out HB.out))); (case side4 => exact HC1_7.out); rintro e w31 ⟨v229, rfl, ho0, hb⟩; refine ⟨_, rfl, ?_⟩; have HO230 := am (Kd.R_lower (Kd.R_new' (Kd.R_new' (Kd.R_new' (Kd.R_new' (Kd.R_new' (Kd.R_new' ho0 (Kd.R_lt (zR HO212.out))) (Kd.R_lt (zR HO215.out))) (Kd.R_lt (zR HO218.out))) (Kd.R_lt (zR HO221.out))) (Kd.R_lt (zR HO224.out))) (Kd.R_lt (zR HO227.out))) (below_size (zb HB))); replace HO212 := am (Kd.R_elder' (zR HO212.out) (Kd.R_base ho0) hb); replace HO215 := am (Kd.R_elder' (zR HO215.out) (Kd.R_base ho0) hb); replace HO218 := am (Kd.R_elder' (zR HO218.out) (Kd.R_base ho0) hb); replace HO221 := am (Kd.R_elder' (zR HO221.out) (Kd.R_base ho0) hb); replace HO224 := am (Kd.R_elder' (zR HO224.out) (Kd.R_base ho0) hb); replace HO227 := am (Kd.R_elder' (zR HO227.out) (Kd.R_base ho0) hb); replace BK209 := am (blk_below (g := gb209) (o := .cells #[.int .i64 a1_0, .int .i64 a1_1, .int .i64 a1_2, .int .i64 a1_3, .int .i64 a1_4, .int .i64 a1_5, .slice A1_6 l1_6.length c1_6, .slice A1_7 l1_7.length c1_7] 26 (0, 0)) (zu BK209.out) hb); replace HB := am (below_step (zb HB) hb); (try clear hb); (try clear hb2); (try clear hk); (try clear hi); (try clear ho0)))
 go_ret
 exact ⟨_, ze, by (with_reducible repeat (first | apply Kd.R_alloc | apply Kd.R_drewN | apply Kd.R_drew)); exact Kd.R_mono HO230.out (fun _ hk => trivial), zb HB⟩
def j11_Payload.l0 : Nat → List Int → Int → Int → Int → Int → List (S26) → Option (List Int)
 | 0, _, _, _, _, _, _ => none
 | k + 1, x3, x4, x5, x349000, x349001, x349002 => if x5 < (x349002.length : Int) then (if 0 ≤ x5 then ((j11_Append.f k x3 ((rd_T26 x349002 x5).f0) ((rd_T26 x349002 x5).f1.f0) ((rd_T26 x349002 x5).f1.f1) ((rd_T26 x349002 x5).f1.f2) ((rd_T26 x349002 x5).f1.f3) ((rd_T26 x349002 x5).f1.f4) ((rd_T26 x349002 x5).f1.f5) ((rd_T26 x349002 x5).f1.f6) x4).bind fun t350 => (j11_Payload.l0 k t350 ((rd_T26 x349002 x5).f0) (wrap64 (x5 + 1)) x349000 x349001 x349002)) else (none)) else (some x3)
def j11_Payload.f (k : Nat) (a0_0 : Int) (a0_1 : Int) (l0_2 : List (S26)) : Option (List Int) := j11_Payload.l0 k ([] : List Int) (-1) 0 a0_0 a0_1 l0_2
theorem j11_Payload.mono_l : ∀ k, (∀ y0 y1 y2 y3 y4 y5, LeO (j11_Payload.l0 k y0 y1 y2 y3 y4 y5) (j11_Payload.l0 (k + 1) y0 y1 y2 y3 y4 y5))
 | 0 => fun _ _ _ _ _ _ r h => by simp [j11_Payload.l0] at h
 | k + 1 => by
  have ih0 := j11_Payload.mono_l k
  ·
   intro y0 y1 y2 y3 y4 y5
   unfold j11_Payload.l0
   repeat' first
   | (with_reducible exact ih0 _ _ _ _ _ _)
   | (with_reducible exact j11_Append.mono _ _ _ _ _ _ _ _ _ _ _)
   | (with_reducible exact LeO.refl _)
   | (with_reducible exact LeO.none _)
   | (with_reducible refine LeO.ite ?_ ?_)
   | (with_reducible refine LeO.bind ?_ (fun _ => ?_))
   | exact ih0 _ _ _ _ _ _
   | exact j11_Append.mono _ _ _ _ _ _ _ _ _ _ _
   | exact LeO.none _
   | refine LeO.ite ?_ ?_
   | refine LeO.bind ?_ (fun _ => ?_)
theorem j11_Payload.mono : ∀ a0 a1 a2 k, LeO (j11_Payload.f k a0 a1 a2) (j11_Payload.f (k + 1) a0 a1 a2) := by
 intro a0 a1 a2 k
 have ih0 := j11_Payload.mono_l k
 unfold j11_Payload.f
 repeat' first
   | (with_reducible exact ih0 _ _ _ _ _ _)
   | (with_reducible exact j11_Append.mono _ _ _ _ _ _ _ _ _ _ _)
   | (with_reducible exact LeO.refl _)
   | (with_reducible exact LeO.none _)
   | (with_reducible refine LeO.ite ?_ ?_)
   | (with_reducible refine LeO.bind ?_ (fun _ => ?_))
   | exact ih0 _ _ _ _ _ _
   | exact j11_Append.mono _ _ _ _ _ _ _ _ _ _ _
   | exact LeO.none _
   | refine LeO.ite ?_ ?_
   | refine LeO.bind ?_ (fun _ => ?_)
set_option maxHeartbeats 8000000 in
set_option maxRecDepth 100000 in
theorem j11_Payload.calls (k : Nat) (a0_0 : Int) (a0_1 : Int) (A0_2 : Option Addr) (c0_2 : Nat) (l0_2 : List (S26)) (r : List Int) (w : World) (hr0_2 : Kd.C k26 w A0_2 l0_2.length l0_2) (hc0_2 : l0_2.length ≤ c0_2) (h : j11_Payload.f k a0_0 a0_1 l0_2 = some r) :
  Calls Try.prog 54 #[.agg #[.int .i64 a0_0, .int .i64 a0_1, .slice A0_2 l0_2.length c0_2]] w fun e w' => ∃ v0_ : Value, e = .returned (v0_) ∧ Kd.R (Kd.int .u8) 5 w' w.heap.size (fun _ => True) v0_ r ∧ Below w.heap.size w w' := by
 have hu42 := Try.underlying42
 have hu26 := Try.underlying26
 have HR0_2 := am hr0_2
 have HC0_2 := am hc0_2
 clear hr0_2 hc0_2
 have HB := am (Below.refl w.heap.size w)
 have H : (j11_Payload.l0 k ([] : List Int) (-1) 0 a0_0 a0_1 l0_2) = some r := h
 clear h
 have H' := am H
 clear H
 go_enter Try.func54, Try.ntmps54
 go_wp2_with (first | ((with_reducible refine gate_dst (N := 1) rfl ?_); refine box_event ?hg (N := 1) ?hd (cs := #[.int .i64 a0_0, .int .i64 a0_1, .slice A0_2 l0_2.length c0_2]) (t := 42) ?hr ?_; (case hd => rfl); (case hg => rfl); (case hr => first | (go_simp; done) | (go_simp; rfl)); intro gb348 hg w2 hbox hb; have BK348 := am (hbox); have GW348 := am ((by rw [hg]; exact (below_size (zb HB)) : w.heap.size ≤ gb348)); have GE348 := am ((by rw [hg]; exact (below_size (zb HB)) : w.heap.size ≤ gb348)); replace HB := am (below_step (zb HB) hb); clear hb hbox hg))
 go_loopg [3, 4, 5] k (fun kq v3 v4 v5 w' => ∃ (x3_1 : List Int) (x4_1 : Int) (x5_1 : Int), v4 = .int .i64 x4_1 ∧ v5 = .int .i64 x5_1 ∧ Aside0 (j11_Payload.l0 kq x3_1 x4_1 x5_1 a0_0 a0_1 l0_2 = some r) ∧ Aside0 (kq ≤ k) ∧ Aside0 (Kd.R (Kd.int .u8) 5 w' w.heap.size (fun _ => True) v3 x3_1) ∧ Aside0 (w'.heap[gb348]? = some (.cells #[.int .i64 a0_0, .int .i64 a0_1, (.slice A0_2 l0_2.length c0_2)] 42 (0, 0))) ∧ Aside0 (Below w.heap.size w w'))
 case atStart => exact ⟨(([] : List Int)), ((-1)), (0), zr, zr, H', ⟨Nat.le_refl _⟩, ⟨by first | exact Kd.R_nil _ _ _ _ _ | exact Kd.N_nil _ _ _ _ _ | exact Kd.V_nil _ _ _ _ _ | exact Kd.Q_nil _ _ _ _ _ | exact Kd.S_nil _ _ _ _ _⟩, ⟨by refine zu ?_; exact BK348.out⟩, ⟨zb HB⟩⟩
 case round =>
  clear H'
  try clear p2
  obtain ⟨x3_1, x4_1, x5_1, rfl, rfl, HA, HK1, HO_3, BK348, HB⟩ := hrel
  cases gk with
  | zero => exact absurd HA.out (by simp [j11_Payload.l0])
  | succ k1 =>
   have H := HA.out
   clear HA
   simp only [j11_Payload.l0] at H
   by_cases c3 : x5_1 < (l0_2.length : Int)
   ·
    rw [if_pos c3] at H
    have c3b0 : decide (x5_1 < (l0_2.length : Int)) = true := decide_eq_true c3
    clear c3
    by_cases c4 : 0 ≤ x5_1
    ·
     rw [if_pos c4] at H
     have c4b0 : decide (0 ≤ x5_1) = true := decide_eq_true c4
     clear c4
     replace H := Option.bind_eq_some_iff.mp H
     obtain ⟨t350, A50, H⟩ := H
     (try dsimp only at H)
     have A5 := am A50
     clear A50
     have H' := am H
     clear H
     obtain ⟨hcz6_0, hcz6_1, hcz6_2⟩ := zc3 BK348
     obtain ⟨hfz6_0, hfz6_1, hfz6_2⟩ := zf3 BK348
     have p349 : 0 ≤ (x5_1 : Int) := zo
     have q349 : x5_1 < (l0_2.length : Int) := zo
     obtain ⟨ad349, A349_6, c349_6, A349_7, c349_7, e349, hx349_0, hx349_1, hx349_2, hx349_3, hx349_4, hx349_5, hx349_6, hx349_7, hl349_6, hi349_6, hl349_7, hi349_7⟩ := at_T26 HR0_2.out x5_1 p349 q349
     cases e349
     replace hx349_0 := zx HB hx349_0
     replace hx349_1 := zx HB hx349_1
     replace hx349_2 := zx HB hx349_2
     replace hx349_3 := zx HB hx349_3
     replace hx349_4 := zx HB hx349_4
     replace hx349_5 := zx HB hx349_5
     replace hx349_6 := zx HB hx349_6
     replace hx349_7 := zx HB hx349_7
     have HR349_6 := am hi349_6
     have HC349_6 := am hl349_6
     clear hi349_6 hl349_6
     have HR349_7 := am hi349_7
     have HC349_7 := am hl349_7
     clear hi349_7 hl349_7
     replace p349 := eq_true p349
     replace q349 := eq_true q349
     obtain ⟨Ao7, co7, eo7⟩ := Kd.R_slice HO_3.out
     subst eo7
     go_wp2_with (first | ((with_reducible refine gate_callee (f := 16) rfl ?_); refine goesL_ (some 20) rfl rfl Try.func16 (by kernel_rfl) rfl #[.slice Ao7 x3_1.length co7, .agg #[.int .i64 ((rd_T26 l0_2 x5_1).f0), .int .i64 ((rd_T26 l0_2 x5_1).f1.f0), .int .i64 ((rd_T26 l0_2 x5_1).f1.f1), .int .i64 ((rd_T26 l0_2 x5_1).f1.f2), .int .i64 ((rd_T26 l0_2 x5_1).f1.f3), .int .i64 ((rd_T26 l0_2 x5_1).f1.f4), .slice A349_6 ((rd_T26 l0_2 x5_1).f1.f5).length c349_6, .slice A349_7 ((rd_T26 l0_2 x5_1).f1.f6).length c349_7], .int .i64 x4_1] rfl zg ?_; (with_reducible refine (j11_Append.calls k1 _ _ x3_1 ((rd_T26 l0_2 x5_1).f0) ((rd_T26 l0_2 x5_1).f1.f0) ((rd_T26 l0_2 x5_1).f1.f1) ((rd_T26 l0_2 x5_1).f1.f2) ((rd_T26 l0_2 x5_1).f1.f3) ((rd_T26 l0_2 x5_1).f1.f4) _ _ ((rd_T26 l0_2 x5_1).f1.f5) _ _ ((rd_T26 l0_2 x5_1).f1.f6) x4_1 t350 _ ?side1 ?side2 ?side3 ?side4 ?side5 ?side6 A5.out).mono ?_); (case side1 => exact zC ((Kd.R_reads' HO_3.out).2.2)); (case side2 => exact (Kd.R_reads' HO_3.out).2.1); (case side3 => exact zC ((Kd.C_below HR349_6.out HB.out))); (case side4 => exact HC349_6.out); (case side5 => exact zC ((Kd.C_below HR349_7.out HB.out))); (case side6 => exact HC349_7.out); rintro e w8 ⟨v351, rfl, ho0, hb⟩; refine ⟨_, rfl, ?_⟩; have HO352 := am (Kd.R_lower (Kd.R_new' ho0 (Kd.R_lt (zR HO_3.out))) (below_size (zb HB))); replace HO_3 := am (Kd.R_elder' (zR HO_3.out) (Kd.R_base ho0) hb); replace BK348 := am (blk_below (g := gb348) (o := .cells #[.int .i64 a0_0, .int .i64 a0_1, .slice (some ad349) l0_2.length c0_2] 42 (0, 0)) (zu BK348.out) hb); replace HB := am (below_step (zb HB) hb); (try clear hb); (try clear hb2); (try clear hk); (try clear hi); (try clear ho0); obtain ⟨hcz9_0, hcz9_1, hcz9_2⟩ := zc3 BK348; obtain ⟨hfz9_0, hfz9_1, hfz9_2⟩ := zf3 BK348; have p353 : 0 ≤ (x5_1 : Int) := zo; have q353 : x5_1 < (l0_2.length : Int) := zo; obtain ⟨ad353, A353_6, c353_6, A353_7, c353_7, e353, hx353_0, hx353_1, hx353_2, hx353_3, hx353_4, hx353_5, hx353_6, hx353_7, hl353_6, hi353_6, hl353_7, hi353_7⟩ := at_T26 HR0_2.out x5_1 p353 q353; obtain rfl : ad349 = ad353 := (by injection e353); replace hx353_0 := zx HB hx353_0; replace hx353_1 := zx HB hx353_1; replace hx353_2 := zx HB hx353_2; replace hx353_3 := zx HB hx353_3; replace hx353_4 := zx HB hx353_4; replace hx353_5 := zx HB hx353_5; replace hx353_6 := zx HB hx353_6; replace hx353_7 := zx HB hx353_7; have HR353_6 := am hi353_6; have HC353_6 := am hl353_6; clear hi353_6 hl353_6; have HR353_7 := am hi353_7; have HC353_7 := am hl353_7; clear hi353_7 hl353_7; replace p353 := eq_true p353; replace q353 := eq_true q353))
     go_roundg k1
     case measure => have := HK1.out; omega
     case rel => exact ⟨(t350), ((rd_T26 l0_2 x5_1).f0), (wrap64 (x5_1 + 1)), zr, zr, H', ⟨by have := HK1.out; omega⟩, ⟨by (with_reducible repeat (first | apply Kd.R_alloc | apply Kd.R_drewN | apply Kd.R_drew)); exact Kd.R_mono HO352.out (fun _ hk => trivial)⟩, ⟨by refine zu ?_; exact BK348.out⟩, ⟨zb HB⟩⟩
    ·
     rw [if_neg c4] at H
     exact absurd H (by simp)
   ·
    rw [if_neg c3] at H
    have c3b0 : decide (x5_1 < (l0_2.length : Int)) = false := decide_eq_false c3
    clear c3
    obtain rfl := Option.some.inj H
    obtain ⟨hcz10_0, hcz10_1, hcz10_2⟩ := zc3 BK348
    obtain ⟨hfz10_0, hfz10_1, hfz10_2⟩ := zf3 BK348
    go_wp2
    go_ret
    exact ⟨_, ze, by (with_reducible repeat (first | apply Kd.R_alloc | apply Kd.R_drewN | apply Kd.R_drew)); exact HO_3.out, zb HB⟩
mutual
def j11_Match.l0 : Nat → List Int → Int → Int → Int → Int → Option (Int × Int)
 | 0, _, _, _, _, _ => none
 | k + 1, x0, x1, x6, x7, x8 => if x8 ≤ 255 then (j11_Match.j1 k x0 x1 x6 x7 x8 (decide (x8 ≤ x1))) else (j11_Match.j1 k x0 x1 x6 x7 x8 false)
def j11_Match.j1 : Nat → List Int → Int → Int → Int → Int → Bool → Option (Int × Int)
 | 0, _, _, _, _, _, _ => none
 | k + 1, x0, x1, x6, x7, x8, x16 => if x16 = true then (j11_Match.l1 k x0 x1 x6 x7 x8 0) else (if x6 < 3 then (some (0, 0)) else (some (x6, x7)))
def j11_Match.l1 : Nat → List Int → Int → Int → Int → Int → Int → Option (Int × Int)
 | 0, _, _, _, _, _, _ => none
 | k + 1, x0, x1, x6, x7, x8, x9 => if x9 < 130 then (if (wrap64 (x1 + x9)) < (x0.length : Int) then (if 0 ≤ (wrap64 (x1 + x9)) then (if 0 ≤ (wrap64 ((wrap64 (x1 + x9)) - x8)) then (if (wrap64 ((wrap64 (x1 + x9)) - x8)) < (x0.length : Int) then (if (rd x0 (wrap64 (x1 + x9))) = (rd x0 (wrap64 ((wrap64 (x1 + x9)) - x8))) then (j11_Match.l1 k x0 x1 x6 x7 x8 (wrap64 (x9 + 1))) else (if x9 > x6 then (j11_Match.l0 k x0 x1 x9 x8 (wrap64 (x8 + 1))) else (j11_Match.l0 k x0 x1 x6 x7 (wrap64 (x8 + 1))))) else (none)) else (none)) else (none)) else (if x9 > x6 then (j11_Match.l0 k x0 x1 x9 x8 (wrap64 (x8 + 1))) else (j11_Match.l0 k x0 x1 x6 x7 (wrap64 (x8 + 1))))) else (if x9 > x6 then (j11_Match.l0 k x0 x1 x9 x8 (wrap64 (x8 + 1))) else (j11_Match.l0 k x0 x1 x6 x7 (wrap64 (x8 + 1))))
end
def j11_Match.f (k : Nat) (l0 : List Int) (a1 : Int) : Option (Int × Int) := j11_Match.l0 k l0 a1 0 0 1
theorem j11_Match.mono_l : ∀ k, (∀ y0 y1 y2 y3 y4, LeO (j11_Match.l0 k y0 y1 y2 y3 y4) (j11_Match.l0 (k + 1) y0 y1 y2 y3 y4)) ∧ (∀ y0 y1 y2 y3 y4 y5, LeO (j11_Match.j1 k y0 y1 y2 y3 y4 y5) (j11_Match.j1 (k + 1) y0 y1 y2 y3 y4 y5)) ∧ (∀ y0 y1 y2 y3 y4 y5, LeO (j11_Match.l1 k y0 y1 y2 y3 y4 y5) (j11_Match.l1 (k + 1) y0 y1 y2 y3 y4 y5))
 | 0 => ⟨fun _ _ _ _ _ r h => by simp [j11_Match.l0] at h, fun _ _ _ _ _ _ r h => by simp [j11_Match.j1] at h, fun _ _ _ _ _ _ r h => by simp [j11_Match.l1] at h⟩
 | k + 1 => by
  obtain ⟨ih0, ih1, ih2⟩ := j11_Match.mono_l k
  refine ⟨?_, ?_, ?_⟩
  ·
   intro y0 y1 y2 y3 y4
   unfold j11_Match.l0
   repeat' first
   | (with_reducible exact ih0 _ _ _ _ _)
   | (with_reducible exact ih1 _ _ _ _ _ _)
   | (with_reducible exact ih2 _ _ _ _ _ _)
   | (with_reducible exact LeO.refl _)
   | (with_reducible exact LeO.none _)
   | (with_reducible refine LeO.ite ?_ ?_)
   | (with_reducible refine LeO.bind ?_ (fun _ => ?_))
   | exact ih0 _ _ _ _ _
   | exact ih1 _ _ _ _ _ _
   | exact ih2 _ _ _ _ _ _
   | exact LeO.none _
   | refine LeO.ite ?_ ?_
   | refine LeO.bind ?_ (fun _ => ?_)
  ·
   intro y0 y1 y2 y3 y4 y5
   unfold j11_Match.j1
   repeat' first
   | (with_reducible exact ih0 _ _ _ _ _)
   | (with_reducible exact ih1 _ _ _ _ _ _)
   | (with_reducible exact ih2 _ _ _ _ _ _)
   | (with_reducible exact LeO.refl _)
   | (with_reducible exact LeO.none _)
   | (with_reducible refine LeO.ite ?_ ?_)
   | (with_reducible refine LeO.bind ?_ (fun _ => ?_))
   | exact ih0 _ _ _ _ _
   | exact ih1 _ _ _ _ _ _
   | exact ih2 _ _ _ _ _ _
   | exact LeO.none _
   | refine LeO.ite ?_ ?_
   | refine LeO.bind ?_ (fun _ => ?_)
  ·
   intro y0 y1 y2 y3 y4 y5
   unfold j11_Match.l1
   repeat' first
   | (with_reducible exact ih0 _ _ _ _ _)
   | (with_reducible exact ih1 _ _ _ _ _ _)
   | (with_reducible exact ih2 _ _ _ _ _ _)
   | (with_reducible exact LeO.refl _)
   | (with_reducible exact LeO.none _)
   | (with_reducible refine LeO.ite ?_ ?_)
   | (with_reducible refine LeO.bind ?_ (fun _ => ?_))
   | exact ih0 _ _ _ _ _
   | exact ih1 _ _ _ _ _ _
   | exact ih2 _ _ _ _ _ _
   | exact LeO.none _
   | refine LeO.ite ?_ ?_
   | refine LeO.bind ?_ (fun _ => ?_)
theorem j11_Match.mono : ∀ a0 a1 k, LeO (j11_Match.f k a0 a1) (j11_Match.f (k + 1) a0 a1) := by
 intro a0 a1 k
 obtain ⟨ih0, ih1, ih2⟩ := j11_Match.mono_l k
 unfold j11_Match.f
 repeat' first
   | (with_reducible exact ih0 _ _ _ _ _)
   | (with_reducible exact ih1 _ _ _ _ _ _)
   | (with_reducible exact ih2 _ _ _ _ _ _)
   | (with_reducible exact LeO.refl _)
   | (with_reducible exact LeO.none _)
   | (with_reducible refine LeO.ite ?_ ?_)
   | (with_reducible refine LeO.bind ?_ (fun _ => ?_))
   | exact ih0 _ _ _ _ _
   | exact ih1 _ _ _ _ _ _
   | exact ih2 _ _ _ _ _ _
   | exact LeO.none _
   | refine LeO.ite ?_ ?_
   | refine LeO.bind ?_ (fun _ => ?_)
set_option maxHeartbeats 8000000 in
set_option maxRecDepth 100000 in
theorem j11_Match.calls (k : Nat) (A0 : Option Addr) (c0 : Nat) (l0 : List Int) (a1 : Int) (r1 : Int) (r2 : Int) (w : World) (hr0 : Kd.C (Kd.int .u8) w A0 l0.length l0) (hc0 : l0.length ≤ c0) (h : j11_Match.f k l0 a1 = some (r1, r2)) :
  Calls Try.prog 79 #[.slice A0 l0.length c0, .int .i64 a1] w fun e w' => e = .returned (.tuple #[.int .i64 r1, .int .i64 r2]) ∧ Drawn0 w w' := by
 have HR0 := am hr0
 have HC0 := am hc0
 clear hr0 hc0
 have H : (j11_Match.l0 k l0 a1 0 0 1) = some (r1, r2) := h
 clear h
 have H' := am H
 clear H
 go_enter Try.func79, Try.ntmps79
 go_wp2
 repeat (go_quiet (fail); try go_wp2)
 go_loopg [6, 7, 8] k (fun kq v6 v7 v8 w' => ∃ (x6_1 : Int) (x7_1 : Int) (x8_1 : Int), v6 = .int .i64 x6_1 ∧ v7 = .int .i64 x7_1 ∧ v8 = .int .i64 x8_1 ∧ Aside0 (j11_Match.l0 kq l0 a1 x6_1 x7_1 x8_1 = some (r1, r2)) ∧ Aside0 (kq ≤ k) ∧ Drawn0 w w')
 case atStart => exact ⟨(0), (0), (1), zr, zr, zr, H', ⟨Nat.le_refl _⟩, by repeat (first | exact Drawn0.refl _ | apply Drawn0.step)⟩
 case round =>
  clear H'
  try clear p2
  obtain ⟨x6_1, x7_1, x8_1, rfl, rfl, rfl, HA, HK1, ⟨m1, rfl⟩⟩ := hrel
  cases gk with
  | zero => exact absurd HA.out (by simp [j11_Match.l0])
  | succ k1 =>
   have H := HA.out
   clear HA
   simp only [j11_Match.l0] at H
   have HC3 := am H
   clear H
   go_upto_region 3 with (fail)
   repeat (go_quiet (fail); go_upto_region 3 with (fail))
   go_cut [16] (fun v16 wc => ∃ (kq : Nat) (x16_2 : Bool), v16 = .bool x16_2 ∧ Aside0 (j11_Match.j1 kq l0 a1 x6_1 x7_1 x8_1 x16_2 = some (r1, r2)) ∧ Aside0 (kq ≤ k1) ∧ Drawn0 w wc)
   case first =>
    have H := HC3.out
    clear HC3
    by_cases c4 : x8_1 ≤ 255
    ·
     rw [if_pos c4] at H
     have c4b0 : decide (x8_1 ≤ 255) = true := decide_eq_true c4
     clear c4
     (first | rw [c4b0] | (simp only [i64_w, i32_w]; rw [c4b0]) | skip)
     have H' := am H
     clear H
     go_wp2
     repeat (go_quiet (fail); try go_wp2)
     go_meet
     case rel => exact ⟨_, (decide (x8_1 ≤ a1)), zr, H', ⟨by have := HK1.out; first | omega | exact Nat.le_refl _⟩, by repeat (first | exact Drawn0.refl _ | apply Drawn0.step)⟩
    ·
     rw [if_neg c4] at H
     have c4b0 : decide (x8_1 ≤ 255) = false := decide_eq_false c4
     clear c4
     (first | rw [c4b0] | (simp only [i64_w, i32_w]; rw [c4b0]) | skip)
     have H' := am H
     clear H
     go_wp2
     repeat (go_quiet (fail); try go_wp2)
     go_meet
     case rel => exact ⟨_, (false), zr, H', ⟨by have := HK1.out; first | omega | exact Nat.le_refl _⟩, by repeat (first | exact Drawn0.refl _ | apply Drawn0.step)⟩
   case rest =>
    clear HC3
    obtain ⟨kq, x16_2, rfl, HA, HJ2, ⟨mc2, rfl⟩⟩ := hcut
    cases kq with
    | zero => exact absurd HA.out (by simp [j11_Match.j1])
    | succ kj2 =>
     have H := HA.out
     clear HA
     simp only [j11_Match.j1] at H
     by_cases c5 : x16_2 = true
     ·
      subst c5
      have H1 : (j11_Match.l1 kj2 l0 a1 x6_1 x7_1 x8_1 0) = some (r1, r2) := by rw [if_pos rfl] at H; exact H
      clear H
      have H := H1
      clear H1
      have H' := am H
      clear H
      go_wp2
      repeat (go_quiet (fail); try go_wp2)
      go_loopg [9] kj2 (fun kq v9 w' => ∃ (x9_3 : Int), v9 = .int .i64 x9_3 ∧ Aside0 (j11_Match.l1 kq l0 a1 x6_1 x7_1 x8_1 x9_3 = some (r1, r2)) ∧ Aside0 (kq ≤ kj2) ∧ Drawn0 w w')
      case atStart => exact ⟨(0), zr, H', ⟨Nat.le_refl _⟩, by repeat (first | exact Drawn0.refl _ | apply Drawn0.step)⟩
      case round =>
       clear H'
       obtain ⟨x9_3, rfl, HA, HK3, ⟨m3, rfl⟩⟩ := hrel
       cases gk with
       | zero => exact absurd HA.out (by simp [j11_Match.l1])
       | succ k3 =>
        have H := HA.out
        clear HA
        simp only [j11_Match.l1] at H
        by_cases c6 : x9_3 < 130
        ·
         rw [if_pos c6] at H
         have c6b0 : decide (x9_3 < 130) = true := decide_eq_true c6
         clear c6
         by_cases c7 : (wrap64 (a1 + x9_3)) < (l0.length : Int)
         ·
          rw [if_pos c7] at H
          have c7b0 : decide ((wrap64 (a1 + x9_3)) < (l0.length : Int)) = true := decide_eq_true c7
          clear c7
          obtain ⟨ji8, hji8⟩ : ∃ j_ : Int, (wrap64 (a1 + x9_3)) = j_ := ⟨_, rfl⟩
          (first | rw [hji8] at H | simp only [hji8] at H)
          (try rw [hji8] at c7b0)
          have hji8w : (IntKind.i64.wrap (a1 + x9_3)) = ji8 := (i64_w _).trans hji8
          by_cases c9 : 0 ≤ (ji8)
          ·
           rw [if_pos c9] at H
           have c9b0 : decide (0 ≤ (ji8)) = true := decide_eq_true c9
           clear c9
           obtain ⟨ji10, hji10⟩ : ∃ j_ : Int, (wrap64 ((ji8) - x8_1)) = j_ := ⟨_, rfl⟩
           (first | rw [hji10] at H | simp only [hji10] at H)
           have hji10w : (IntKind.i64.wrap ((ji8) - x8_1)) = ji10 := (i64_w _).trans hji10
           by_cases c11 : 0 ≤ (ji10)
           ·
            rw [if_pos c11] at H
            have c11b0 : decide (0 ≤ (ji10)) = true := decide_eq_true c11
            clear c11
            by_cases c12 : (ji10) < (l0.length : Int)
            ·
             rw [if_pos c12] at H
             have c12b0 : decide ((ji10) < (l0.length : Int)) = true := decide_eq_true c12
             clear c12
             by_cases c13 : (rd l0 (ji8)) = (rd l0 (ji10))
             ·
              rw [if_pos c13] at H
              have c13b0 : ((rd l0 (ji8)) == (rd l0 (ji10))) = true := beq_iff_eq.mpr c13
              have c13b1 : ((rd l0 (ji8)) != (rd l0 (ji10))) = false := bne_eq_false_iff_eq.mpr c13
              clear c13
              have H' := am H
              clear H
              have p354 : 0 ≤ ((ji8) : Int) := zo
              have q354 : (ji8) < (l0.length : Int) := zo
              obtain ⟨ad354, e354, hx354_0⟩ := Kd.at_int HR0.out (ji8) p354 q354
              cases e354
              replace p354 := eq_true p354
              replace q354 := eq_true q354
              have p355 : 0 ≤ ((ji10) : Int) := zo
              have q355 : (ji10) < (l0.length : Int) := zo
              obtain ⟨ad355, e355, hx355_0⟩ := Kd.at_int HR0.out (ji10) p355 q355
              obtain rfl : ad354 = ad355 := (by injection e355)
              replace p355 := eq_true p355
              replace q355 := eq_true q355
              go_wp2
              repeat (go_quiet (fail); try go_wp2)
              go_roundg k3
              case measure => have := HK1.out; have := HJ2.out; have := HK3.out; omega
              case rel => exact ⟨(wrap64 (x9_3 + 1)), zr, H', ⟨by have := HK1.out; have := HJ2.out; have := HK3.out; omega⟩, by repeat (first | exact Drawn0.refl _ | apply Drawn0.step)⟩
             ·
              rw [if_neg c13] at H
              have c13b0 : ((rd l0 (ji8)) == (rd l0 (ji10))) = false := beq_eq_false_iff_ne.mpr c13
              have c13b1 : ((rd l0 (ji8)) != (rd l0 (ji10))) = true := bne_iff_ne.mpr c13
              by_cases c14 : x9_3 > x6_1
              ·
               rw [if_pos c14] at H
               have c14b0 : decide (x6_1 < x9_3) = true := decide_eq_true c14
               clear c14
               have H' := am H
               clear H
               have p354 : 0 ≤ ((ji8) : Int) := zo
               have q354 : (ji8) < (l0.length : Int) := zo
               obtain ⟨ad354, e354, hx354_0⟩ := Kd.at_int HR0.out (ji8) p354 q354
               cases e354
               replace p354 := eq_true p354
               replace q354 := eq_true q354
               have p355 : 0 ≤ ((ji10) : Int) := zo
               have q355 : (ji10) < (l0.length : Int) := zo
               obtain ⟨ad355, e355, hx355_0⟩ := Kd.at_int HR0.out (ji10) p355 q355
               obtain rfl : ad354 = ad355 := (by injection e355)
               replace p355 := eq_true p355
               replace q355 := eq_true q355
               go_wp2
               repeat (go_quiet (fail); try go_wp2)
               go_roundg k3
               case measure => have := HK1.out; have := HJ2.out; have := HK3.out; omega
               case rel => exact ⟨(x9_3), (x8_1), (wrap64 (x8_1 + 1)), zr, zr, zr, H', ⟨by have := HK1.out; have := HJ2.out; have := HK3.out; omega⟩, by repeat (first | exact Drawn0.refl _ | apply Drawn0.step)⟩
              ·
               rw [if_neg c14] at H
               have c14b0 : decide (x6_1 < x9_3) = false := decide_eq_false c14
               clear c14
               have H' := am H
               clear H
               have p354 : 0 ≤ ((ji8) : Int) := zo
               have q354 : (ji8) < (l0.length : Int) := zo
               obtain ⟨ad354, e354, hx354_0⟩ := Kd.at_int HR0.out (ji8) p354 q354
               cases e354
               replace p354 := eq_true p354
               replace q354 := eq_true q354
               have p355 : 0 ≤ ((ji10) : Int) := zo
               have q355 : (ji10) < (l0.length : Int) := zo
               obtain ⟨ad355, e355, hx355_0⟩ := Kd.at_int HR0.out (ji10) p355 q355
               obtain rfl : ad354 = ad355 := (by injection e355)
               replace p355 := eq_true p355
               replace q355 := eq_true q355
               go_wp2
               repeat (go_quiet (fail); try go_wp2)
               go_roundg k3
               case measure => have := HK1.out; have := HJ2.out; have := HK3.out; omega
               case rel => exact ⟨(x6_1), (x7_1), (wrap64 (x8_1 + 1)), zr, zr, zr, H', ⟨by have := HK1.out; have := HJ2.out; have := HK3.out; omega⟩, by repeat (first | exact Drawn0.refl _ | apply Drawn0.step)⟩
            ·
             rw [if_neg c12] at H
             exact absurd H (by simp)
           ·
            rw [if_neg c11] at H
            exact absurd H (by simp)
          ·
           rw [if_neg c9] at H
           exact absurd H (by simp)
         ·
          rw [if_neg c7] at H
          have c7b0 : decide ((wrap64 (a1 + x9_3)) < (l0.length : Int)) = false := decide_eq_false c7
          clear c7
          by_cases c15 : x9_3 > x6_1
          ·
           rw [if_pos c15] at H
           have c15b0 : decide (x6_1 < x9_3) = true := decide_eq_true c15
           clear c15
           have H' := am H
           clear H
           go_wp2
           repeat (go_quiet (fail); try go_wp2)
           go_roundg k3
           case measure => have := HK1.out; have := HJ2.out; have := HK3.out; omega
           case rel => exact ⟨(x9_3), (x8_1), (wrap64 (x8_1 + 1)), zr, zr, zr, H', ⟨by have := HK1.out; have := HJ2.out; have := HK3.out; omega⟩, by repeat (first | exact Drawn0.refl _ | apply Drawn0.step)⟩
          ·
           rw [if_neg c15] at H
           have c15b0 : decide (x6_1 < x9_3) = false := decide_eq_false c15
           clear c15
           have H' := am H
           clear H
           go_wp2
           repeat (go_quiet (fail); try go_wp2)
           go_roundg k3
           case measure => have := HK1.out; have := HJ2.out; have := HK3.out; omega
           case rel => exact ⟨(x6_1), (x7_1), (wrap64 (x8_1 + 1)), zr, zr, zr, H', ⟨by have := HK1.out; have := HJ2.out; have := HK3.out; omega⟩, by repeat (first | exact Drawn0.refl _ | apply Drawn0.step)⟩
        ·
         rw [if_neg c6] at H
         have c6b0 : decide (x9_3 < 130) = false := decide_eq_false c6
         clear c6
         by_cases c16 : x9_3 > x6_1
         ·
          rw [if_pos c16] at H
          have c16b0 : decide (x6_1 < x9_3) = true := decide_eq_true c16
          clear c16
          have H' := am H
          clear H
          go_wp2
          repeat (go_quiet (fail); try go_wp2)
          go_roundg k3
          case measure => have := HK1.out; have := HJ2.out; have := HK3.out; omega
          case rel => exact ⟨(x9_3), (x8_1), (wrap64 (x8_1 + 1)), zr, zr, zr, H', ⟨by have := HK1.out; have := HJ2.out; have := HK3.out; omega⟩, by repeat (first | exact Drawn0.refl _ | apply Drawn0.step)⟩
         ·
          rw [if_neg c16] at H
          have c16b0 : decide (x6_1 < x9_3) = false := decide_eq_false c16
          clear c16
          have H' := am H
          clear H
          go_wp2
          repeat (go_quiet (fail); try go_wp2)
          go_roundg k3
          case measure => have := HK1.out; have := HJ2.out; have := HK3.out; omega
          case rel => exact ⟨(x6_1), (x7_1), (wrap64 (x8_1 + 1)), zr, zr, zr, H', ⟨by have := HK1.out; have := HJ2.out; have := HK3.out; omega⟩, by repeat (first | exact Drawn0.refl _ | apply Drawn0.step)⟩
     ·
      replace c5 := Bool.eq_false_iff.mpr c5
      subst c5
      have H1 : (if x6_1 < 3 then (some (0, 0)) else (some (x6_1, x7_1))) = some (r1, r2) := by rw [if_neg (show ¬ (false = true) by decide)] at H; exact H
      clear H
      have H := H1
      clear H1
      by_cases c17 : x6_1 < 3
      ·
       rw [if_pos c17] at H
       have c17b0 : decide (x6_1 < 3) = true := decide_eq_true c17
       clear c17
       simp only [Option.some.injEq, Prod.mk.injEq] at H
       obtain ⟨rfl, rfl⟩ := H
       go_wp2
       repeat (go_quiet (fail); try go_wp2)
       go_ret2
       exact ⟨by first | rfl | (simp; done) | (simp [*]; done), by repeat (first | exact Drawn0.refl _ | apply Drawn0.step)⟩
      ·
       rw [if_neg c17] at H
       have c17b0 : decide (x6_1 < 3) = false := decide_eq_false c17
       clear c17
       simp only [Option.some.injEq, Prod.mk.injEq] at H
       obtain ⟨rfl, rfl⟩ := H
       go_wp2
       repeat (go_quiet (fail); try go_wp2)
       go_ret2
       exact ⟨by first | rfl | (simp; done) | (simp [*]; done), by repeat (first | exact Drawn0.refl _ | apply Drawn0.step)⟩
def j11_literal.f (l0 : List Int) (l1 : List Int) : Option (List Int) := if (l1.length : Int) = 0 then (some l0) else (if l0.length < 140737488355328 then ((some (l0 ++ [(wrap64 ((l1.length : Int) - 1)) % 256] : List Int)).bind fun y356 => (if y356.length + l1.length < 140737488355328 then (some (y356 ++ l1)) else (none))) else (none))
set_option maxHeartbeats 8000000 in
set_option maxRecDepth 100000 in
theorem j11_literal.calls (P0_ : Nat → Prop) (u9000_ : Value) (l0 : List Int) (A1 : Option Addr) (c1 : Nat) (l1 : List Int) (r : List Int) (w0 w : World) (hB : Below w0.heap.size w0 w) (ho0 : Kd.R (Kd.int .u8) 5 w w0.heap.size P0_ u9000_ l0) (hr1 : ∀ W_, Kept w W_ (fun k_ => P0_ k_) → Kd.C (Kd.int .u8) W_ A1 l1.length l1) (hc1 : l1.length ≤ c1) (h : j11_literal.f l0 l1 = some r) :
  Calls Try.prog 80 #[u9000_, .slice A1 l1.length c1] w fun e w' => ∃ v0_ : Value, e = .returned (v0_) ∧ Kd.R (Kd.int .u8) 5 w' w0.heap.size (fun k_ => (P0_ k_ ∨ w.heap.size ≤ k_)) v0_ r ∧ Below w0.heap.size w0 w' ∧ Kept w w' (fun k_ => P0_ k_) := by
 have HO0 := am (show Kd.R (Kd.int .u8) 5 w w0.heap.size (fun k_ => (P0_ k_ ∨ w.heap.size ≤ k_)) u9000_ l0 from Kd.R_mono ho0 (fun k_ hk => (.inl hk)))
 have HR1 := am hr1
 have HC1 := am hc1
 clear hr1 hc1
 have HK := am (Kept.refl w (fun k_ => P0_ k_))
 have HW0 := am hB.size
 have HB := am hB
 clear hB
 have H : (if (l1.length : Int) = 0 then (some l0) else (if l0.length < 140737488355328 then ((some (l0 ++ [(wrap64 ((l1.length : Int) - 1)) % 256] : List Int)).bind fun y356 => (if y356.length + l1.length < 140737488355328 then (some (y356 ++ l1)) else (none))) else (none))) = some r := h
 clear h
 by_cases c3 : (l1.length : Int) = 0
 ·
  rw [if_pos c3] at H
  have c3b0 : ((l1.length : Int) == 0) = true := beq_iff_eq.mpr c3
  have c3b1 : ((l1.length : Int) != 0) = false := bne_eq_false_iff_eq.mpr c3
  clear c3
  obtain rfl := Option.some.inj H
  go_enter Try.func80, Try.ntmps80
  go_wp2
  go_ret
  exact ⟨_, ze, by (with_reducible repeat (first | apply Kd.R_alloc | apply Kd.R_drewN | apply Kd.R_drew)); exact HO0.out, zb HB, by repeat (first | (with_reducible first | exact HK.out | apply Kept.alloc | apply Kept.drewN | apply Kept.drew) | exact HK.out)⟩
 ·
  rw [if_neg c3] at H
  have c3b0 : ((l1.length : Int) == 0) = false := beq_eq_false_iff_ne.mpr c3
  have c3b1 : ((l1.length : Int) != 0) = true := bne_iff_ne.mpr c3
  have c3b2 : ¬ (l1 = []) := fun h_ => c3 (by rw [h_]; rfl)
  by_cases c4 : l0.length < 140737488355328
  ·
   rw [if_pos c4] at H
   have LMc4 := am c4
   clear c4
   obtain ⟨y356, hy356⟩ : ∃ y_ : List Int, y_ = (l0 ++ [(wrap64 ((l1.length : Int) - 1)) % 256]) := ⟨_, rfl⟩
   replace H : (if y356.length + l1.length < 140737488355328 then (some (y356 ++ l1)) else (none)) = some r := by first | (rw [hy356]; with_reducible exact H) | (have H2_ := (Option.bind_some _ _).symm.trans H; rw [hy356]; with_reducible exact H2_) | (have H2_ := (Option.bind_some _ _).symm.trans H; with_reducible exact H2_) | with_reducible exact H | (rw [hy356]; exact H) | exact H
   have Ny356 := am hy356
   clear hy356
   by_cases c5 : y356.length + l1.length < 140737488355328
   ·
    rw [if_pos c5] at H
    have LMc5 := am c5
    clear c5
    obtain ⟨y359, hy359⟩ : ∃ y_ : List Int, y_ = (y356 ++ l1) := ⟨_, rfl⟩
    replace H : (some y359) = some r := by first | (rw [hy359]; with_reducible exact H) | (have H2_ := (Option.bind_some _ _).symm.trans H; rw [hy359]; with_reducible exact H2_) | (have H2_ := (Option.bind_some _ _).symm.trans H; with_reducible exact H2_) | with_reducible exact H | (rw [hy359]; exact H) | exact H
    have Ny359 := am hy359
    clear hy359
    obtain rfl := Option.some.inj H
    go_enter Try.func80, Try.ntmps80
    go_wp2_with (first | ((with_reducible refine gate_builtin (b := .append) (xs := #[.tmp 9, .tmp 14]) rfl ?_); at_builtin; refine Kd.R_append (Kd.int .u8) (w0 := w0) w0.heap.size rfl (.tmp 9) (.tmp 14) 27 5 (.int .u8 0) 1 rfl Try.underlying27 info5 rfl (by decide) (by omega) u9000_ l0 ((wrap64 ((l1.length : Int) - 1)) % 256) [.int .u8 ((wrap64 ((l1.length : Int) - 1)) % 256)] (fun k_ => (P0_ k_ ∨ w.heap.size ≤ k_)) (fun _ => False) rfl rfl ?aP (fun _ hk => hk.elim) ?aF ?aO ?aB ?aS ?aL ?_; (case aP => exact rfl); (case aB => exact (zb HB)); (case aF => exact (fun k_ hk => (.inr (Nat.le_trans (by first | exact HK.out.1 | exact (show Kept w _ (fun k_ => P0_ k_) from by repeat (first | (with_reducible first | exact HK.out | apply Kept.alloc | apply Kept.drewN | apply Kept.drew) | exact HK.out)).1) hk)))); (case aO => exact (zR HO0.out)); (case aS => exact (below_size (zb HB))); (case aL => have := LMc4.out; omega); intro v357 w6 ho hb hg hat; rw [← Ny356.out] at ho; have n0_ := am (hb); have n1_ := am (Kept.of_grown (S := (fun k_ => P0_ k_)) hg (by repeat (first | (with_reducible first | exact HK.out | apply Kept.alloc | apply Kept.drewN | apply Kept.drew) | exact HK.out)) (fun k_ e_ => (HO0.out.1 k_ e_))); have n2_ := am (ho); clear HB; clear HK; clear HO0; have HB := n0_; have HK := n1_; have HO358 := n2_; clear n0_ n1_ n2_; clear ho hb hg hat) | ((with_reducible refine gate_builtin (b := .append) (xs := #[.tmp 16, .tmp 17]) rfl ?_); at_builtin; refine Kd.R_append_rows (Kd.int .u8) (w0 := w0) w0.heap.size rfl (.tmp 16) (.tmp 17) 27 5 (.int .u8 0) 1 rfl Try.underlying27 info5 rfl (by decide) (by omega) v357 y356 l1 _ _ _ (fun k_ => (P0_ k_ ∨ w.heap.size ≤ k_)) (fun _ => False) rfl rfl ?aO ?aR (fun _ _ h => h) (fun _ h => h.elim) ?aF ?aB ?aS ?aL ?_; (case aR => exact Kd.C_kept_now HR1.out (by repeat (first | (with_reducible first | exact HK.out | apply Kept.alloc | apply Kept.drewN | apply Kept.drew) | exact HK.out))); (case aB => exact (zb HB)); (case aF => exact (fun k_ hk => (.inr (Nat.le_trans (by first | exact HK.out.1 | exact (show Kept w _ (fun k_ => P0_ k_) from by repeat (first | (with_reducible first | exact HK.out | apply Kept.alloc | apply Kept.drewN | apply Kept.drew) | exact HK.out)).1) hk)))); (case aO => exact (zR HO358.out)); (case aS => exact (below_size (zb HB))); (case aL => have := LMc5.out; omega); intro v360 w7 ho hb hg hat; rw [← Ny359.out] at ho; have n0_ := am (hb); have n1_ := am (Kept.of_grown (S := (fun k_ => P0_ k_)) hg (by repeat (first | (with_reducible first | exact HK.out | apply Kept.alloc | apply Kept.drewN | apply Kept.drew) | exact HK.out)) (fun k_ e_ => (HO358.out.1 k_ e_))); have n2_ := am (ho); clear HB; clear HK; clear HO358; have HB := n0_; have HK := n1_; have HO361 := n2_; clear n0_ n1_ n2_; clear ho hb hg hat))
    go_ret
    exact ⟨_, ze, by (with_reducible repeat (first | apply Kd.R_alloc | apply Kd.R_drewN | apply Kd.R_drew)); exact HO361.out, zb HB, by repeat (first | (with_reducible first | exact HK.out | apply Kept.alloc | apply Kept.drewN | apply Kept.drew) | exact HK.out)⟩
   ·
    rw [if_neg c5] at H
    exact absurd H (by simp)
  ·
   rw [if_neg c4] at H
   exact absurd H (by simp)
def j11_Pack.l0 : Nat → List Int → List Int → List Int → Int → Option (List Int)
 | 0, _, _, _, _ => none
 | k + 1, x0, x3, x4, x5 => if x5 < (x0.length : Int) then ((j11_Match.f k x0 x5).bind fun bt365 => (if bt365.1 > 0 then ((j11_literal.f x3 x4).bind fun t367 => ((some (([(wrap64 (bt365.1 + 125)) % 256, (bt365.2) % 256] : List Int) : List Int)).bind fun y370 => (if t367.length + y370.length < 140737488355328 then (j11_Pack.l0 k x0 (t367 ++ y370) ([] : List Int) (wrap64 (x5 + bt365.1))) else (none)))) else (if 0 ≤ x5 then (if x4.length < 140737488355328 then ((some (x4 ++ [rd x0 x5] : List Int)).bind fun y377 => (if (y377.length : Int) = 128 then ((j11_literal.f x3 y377).bind fun t380 => (j11_Pack.l0 k x0 t380 ([] : List Int) (wrap64 (x5 + 1)))) else (j11_Pack.l0 k x0 x3 y377 (wrap64 (x5 + 1))))) else (none)) else (none)))) else ((j11_literal.f x3 x4).bind fun t362 => (some t362))
def j11_Pack.f (k : Nat) (l0 : List Int) : Option (List Int) := j11_Pack.l0 k l0 ([] : List Int) ([] : List Int) 0
theorem j11_Pack.mono_l : ∀ k, (∀ y0 y1 y2 y3, LeO (j11_Pack.l0 k y0 y1 y2 y3) (j11_Pack.l0 (k + 1) y0 y1 y2 y3))
 | 0 => fun _ _ _ _ r h => by simp [j11_Pack.l0] at h
 | k + 1 => by
  have ih0 := j11_Pack.mono_l k
  ·
   intro y0 y1 y2 y3
   unfold j11_Pack.l0
   repeat' first
   | (with_reducible exact ih0 _ _ _ _)
   | (with_reducible exact j11_Match.mono _ _ _)
   | (with_reducible exact LeO.refl _)
   | (with_reducible exact LeO.none _)
   | (with_reducible refine LeO.ite ?_ ?_)
   | (with_reducible refine LeO.bind ?_ (fun _ => ?_))
   | exact ih0 _ _ _ _
   | exact j11_Match.mono _ _ _
   | exact LeO.none _
   | refine LeO.ite ?_ ?_
   | refine LeO.bind ?_ (fun _ => ?_)
theorem j11_Pack.mono : ∀ a0 k, LeO (j11_Pack.f k a0) (j11_Pack.f (k + 1) a0) := by
 intro a0 k
 have ih0 := j11_Pack.mono_l k
 unfold j11_Pack.f
 repeat' first
   | (with_reducible exact ih0 _ _ _ _)
   | (with_reducible exact j11_Match.mono _ _ _)
   | (with_reducible exact LeO.refl _)
   | (with_reducible exact LeO.none _)
   | (with_reducible refine LeO.ite ?_ ?_)
   | (with_reducible refine LeO.bind ?_ (fun _ => ?_))
   | exact ih0 _ _ _ _
   | exact j11_Match.mono _ _ _
   | exact LeO.none _
   | refine LeO.ite ?_ ?_
   | refine LeO.bind ?_ (fun _ => ?_)
set_option maxHeartbeats 8000000 in
set_option maxRecDepth 100000 in
theorem j11_Pack.calls (k : Nat) (A0 : Option Addr) (c0 : Nat) (l0 : List Int) (r : List Int) (w : World) (hr0 : Kd.C (Kd.int .u8) w A0 l0.length l0) (hc0 : l0.length ≤ c0) (h : j11_Pack.f k l0 = some r) :
  Calls Try.prog 55 #[.slice A0 l0.length c0] w fun e w' => ∃ v0_ : Value, e = .returned (v0_) ∧ Kd.R (Kd.int .u8) 5 w' w.heap.size (fun _ => True) v0_ r ∧ Below w.heap.size w w' := by
 have HR0 := am hr0
 have HC0 := am hc0
 clear hr0 hc0
 have HB := am (Below.refl w.heap.size w)
 have H : (j11_Pack.l0 k l0 ([] : List Int) ([] : List Int) 0) = some r := h
 clear h
 have H' := am H
 clear H
 go_enter Try.func55, Try.ntmps55
 go_wp2
 go_loopg [3, 4, 5] k (fun kq v3 v4 v5 w' => ∃ (x3_1 : List Int) (x4_1 : List Int) (x5_1 : Int), v5 = .int .i64 x5_1 ∧ Aside0 (j11_Pack.l0 kq l0 x3_1 x4_1 x5_1 = some r) ∧ Aside0 (kq ≤ k) ∧ Aside0 (Kd.R (Kd.int .u8) 5 w' w.heap.size (fun k_ => some k_ ≠ (v4 : Value).ownBlock) v3 x3_1) ∧ Aside0 (Kd.R (Kd.int .u8) 5 w' w.heap.size (fun k_ => some k_ ≠ (v3 : Value).ownBlock) v4 x4_1) ∧ Aside0 (Below w.heap.size w w'))
 case atStart => exact ⟨(([] : List Int)), (([] : List Int)), (0), zr, H', ⟨Nat.le_refl _⟩, ⟨by first | exact Kd.R_nil _ _ _ _ _ | exact Kd.N_nil _ _ _ _ _ | exact Kd.V_nil _ _ _ _ _ | exact Kd.Q_nil _ _ _ _ _ | exact Kd.S_nil _ _ _ _ _⟩, ⟨by first | exact Kd.R_nil _ _ _ _ _ | exact Kd.N_nil _ _ _ _ _ | exact Kd.V_nil _ _ _ _ _ | exact Kd.Q_nil _ _ _ _ _ | exact Kd.S_nil _ _ _ _ _⟩, ⟨zb HB⟩⟩
 case round =>
  clear H'
  obtain ⟨x3_1, x4_1, x5_1, rfl, HA, HK1, HO_3, HO_4, HB⟩ := hrel
  cases gk with
  | zero => exact absurd HA.out (by simp [j11_Pack.l0])
  | succ k1 =>
   have H := HA.out
   clear HA
   simp only [j11_Pack.l0] at H
   by_cases c2 : x5_1 < (l0.length : Int)
   ·
    rw [if_pos c2] at H
    have c2b0 : decide (x5_1 < (l0.length : Int)) = true := decide_eq_true c2
    clear c2
    replace H := Option.bind_eq_some_iff.mp H
    obtain ⟨⟨t365, t366⟩, A30, H⟩ := H
    (try dsimp only at H)
    have A3 := am A30
    clear A30
    by_cases c4 : t365 > 0
    ·
     rw [if_pos c4] at H
     have c4b0 : decide (0 < t365) = true := decide_eq_true c4
     clear c4
     replace H := Option.bind_eq_some_iff.mp H
     obtain ⟨t367, A50, H⟩ := H
     (try dsimp only at H)
     have A5 := am A50
     clear A50
     obtain ⟨y370, hy370⟩ : ∃ y_ : List Int, y_ = (([(wrap64 (t365 + 125)) % 256, (t366) % 256] : List Int)) := ⟨_, rfl⟩
     replace H : (if t367.length + y370.length < 140737488355328 then (j11_Pack.l0 k1 l0 (t367 ++ y370) ([] : List Int) (wrap64 (x5_1 + t365))) else (none)) = some r := by first | (rw [hy370]; with_reducible exact H) | (have H2_ := (Option.bind_some _ _).symm.trans H; rw [hy370]; with_reducible exact H2_) | (have H2_ := (Option.bind_some _ _).symm.trans H; with_reducible exact H2_) | with_reducible exact H | (rw [hy370]; exact H) | exact H
     have Ny370 := am hy370
     clear hy370
     by_cases c6 : t367.length + y370.length < 140737488355328
     ·
      rw [if_pos c6] at H
      have LMc6 := am c6
      clear c6
      obtain ⟨y373, hy373⟩ : ∃ y_ : List Int, y_ = (t367 ++ y370) := ⟨_, rfl⟩
      replace H : (j11_Pack.l0 k1 l0 y373 ([] : List Int) (wrap64 (x5_1 + t365))) = some r := by first | (rw [hy373]; with_reducible exact H) | (have H2_ := (Option.bind_some _ _).symm.trans H; rw [hy373]; with_reducible exact H2_) | (have H2_ := (Option.bind_some _ _).symm.trans H; with_reducible exact H2_) | with_reducible exact H | (rw [hy373]; exact H) | exact H
      have Ny373 := am hy373
      clear hy373
      have H' := am H
      clear H
      go_wp2_with (first | ((with_reducible refine gate_callee (f := 79) rfl ?_); refine goesL_ (some 15) rfl rfl Try.func79 (by kernel_rfl) rfl #[.slice A0 l0.length c0, .int .i64 x5_1] rfl zg ?_; (with_reducible refine (j11_Match.calls k1 _ _ l0 x5_1 t365 t366 _ ?side1 ?side2 A3.out).mono ?_); (case side1 => exact zC ((Kd.C_below HR0.out HB.out))); (case side2 => exact HC0.out); rintro e w' ⟨rfl, ⟨nd, rfl⟩⟩; refine ⟨_, rfl, ?_⟩; obtain ⟨Ao7, co7, eo7⟩ := Kd.R_slice HO_3.out; subst eo7; obtain ⟨Ao8, co8, eo8⟩ := Kd.R_slice HO_4.out; subst eo8) | ((with_reducible refine gate_callee (f := 80) rfl ?_); refine goesL_ (some 22) rfl rfl Try.func80 (by kernel_rfl) rfl #[.slice Ao7 x3_1.length co7, .slice Ao8 x4_1.length co8] rfl zg ?_; (with_reducible refine (j11_literal.calls (fun k_ => some k_ = (.slice Ao7 x3_1.length co7 : Value).ownBlock) (.slice Ao7 x3_1.length co7) x3_1 _ _ x4_1 t367 w _ ?side1 ?side2 ?side3 ?side4 A5.out).mono ?_); (case side1 => repeat (first | (with_reducible first | exact HB.out | apply below_alloc | apply pw_below_drewN | apply below_drew1) | exact HB.out)); (case side2 => exact Kd.R_tight rfl HO_3.out); (case side3 => exact Kd.C_kept_own (HO_4.out) (fun k_ hk_ hs_ => (hk_) hs_)); (case side4 => exact (Kd.R_reads' HO_4.out).2.1); rintro e w9 ⟨v368, rfl, ho0, hb, hkp⟩; refine ⟨_, rfl, ?_⟩; have n0_ := am (Kd.R_mono (ok' := fun k_ => some k_ ≠ (v368 : Value).ownBlock) (Kd.R_keptB (HO_4.out) hkp (fun k_ hk_ hs_ => (hk_) hs_)) (fun k_ hk_ => fun e_ => Or.elim (ho0.1 k_ e_.symm) (fun hs_ => hk_.2.1 hs_) (fun hn_ => Nat.not_le.2 hk_.2.2 hn_))); have n1_ := am (Kd.R_mono (ok' := fun k_ => some k_ ≠ (.slice Ao8 x4_1.length co8 : Value).ownBlock) ho0 (fun k_ hk_ => Or.elim hk_ (fun hs_ => fun e_ => (((HO_4.out).1 k_ e_.symm)) hs_) (fun hn_ => (Kd.fresh' (Kd.R_lt (zR HO_4.out)) k_ hn_)))); have n2_ := am (hb); clear HO_4; clear HB; clear HO_3; have HO_4 := n0_; have HO369 := n1_; have HB := n2_; clear n0_ n1_ n2_; (try clear hb); (try clear hkp); (try clear ho0)) | ((with_reducible refine gate_dst (N := 29) rfl ?_); refine Kd.R_lit (Kd.int .u8) _ 5 ?hg (N := 29) ?hd (xs := ([(wrap64 (t365 + 125)) % 256, (t366) % 256] : List Int)) (inner := [.int .u8 ((wrap64 (t365 + 125)) % 256), .int .u8 ((t366) % 256)]) (ok := fun _ => True) (okp := fun _ => True) ?hr ?hp (fun _ hk => hk) trivial (Below.refl _ _) (Nat.le_refl _) (by simp) ?_; (case hd => rfl); (case hg => rfl); (case hr => first | (go_simp; done) | (go_simp; rfl)); (case hp => exact (Reps.one (show Kd.M (Kd.int .u8) _ _ _ ((wrap64 (t365 + 125)) % 256) [.int .u8 ((wrap64 (t365 + 125)) % 256)] from rfl) (Reps.one (show Kd.M (Kd.int .u8) _ _ _ ((t366) % 256) [.int .u8 ((t366) % 256)] from rfl) (Reps.none _ _)))); intro v371 w10 ho11 hb hg_ hnew_; clear hg_ hnew_; (first | rw [← Ny370.out] at ho11 | (simp only [Int.reduceToNat] at ho11; rw [← Ny370.out] at ho11)); have HO372 := am (Kd.R_lower (Kd.R_new' (Kd.R_new' ho11 (Kd.R_lt (zR HO_4.out))) (Kd.R_lt (zR HO369.out))) (below_size (zb HB))); replace HO_4 := am (Kd.R_elder' (zR HO_4.out) (Kd.R_base ho11) hb); replace HO369 := am (Kd.R_elder' (zR HO369.out) (Kd.R_base ho11) hb); replace HB := am (below_step (zb HB) hb); clear hb ho11; obtain ⟨Ao13, co13, eo13⟩ := Kd.R_slice HO372.out; subst eo13) | ((with_reducible refine gate_builtin (b := .append) (xs := #[.tmp 23, .tmp 29]) rfl ?_); at_builtin; refine Kd.R_append_rows (Kd.int .u8) (w0 := w) w.heap.size rfl (.tmp 23) (.tmp 29) 27 5 (.int .u8 0) 1 rfl Try.underlying27 info5 rfl (by decide) (by omega) v368 t367 y370 _ _ _ (fun k_ => some k_ ≠ (.slice Ao8 x4_1.length co8 : Value).ownBlock ∧ some k_ ≠ (.slice Ao13 y370.length co13 : Value).ownBlock) (fun _ => False) rfl rfl ?aO ?aR (fun _ _ h => h) (fun _ h => h.elim) ?aF ?aB ?aS ?aL ?_; (case aR => repeat (first | exact (Kd.R_reads' HO372.out).2.2 | (with_reducible refine Kd.C_alloc ?_ _) | (with_reducible refine Kd.C_drewN ?_ _) | (with_reducible refine Kd.C_drew ?_))); (case aB => exact (zb HB)); (case aF => exact (fun k_ hk => ⟨Kd.fresh' (Kd.R_lt (zR HO_4.out)) k_ hk, Kd.fresh' (Kd.R_lt (zR HO372.out)) k_ hk⟩)); (case aO => exact (zR HO369.out)); (case aS => exact (below_size (zb HB))); (case aL => have := LMc6.out; omega); intro v374 w12 ho hb hg hat; rw [← Ny373.out] at ho; have n0_ := am (Kd.R_after (ok := (fun k_ => some k_ ≠ (.slice Ao13 y370.length co13 : Value).ownBlock)) (by (with_reducible repeat (first | apply Kd.R_alloc | apply Kd.R_drewN | apply Kd.R_drew)); exact Kd.R_mono HO_4.out (fun _ hk => ⟨hk.2, hk.1⟩)) hg hat); have n1_ := am (Kd.R_after (ok := (fun k_ => some k_ ≠ (.slice Ao8 x4_1.length co8 : Value).ownBlock)) (by (with_reducible repeat (first | apply Kd.R_alloc | apply Kd.R_drewN | apply Kd.R_drew)); exact Kd.R_mono HO372.out (fun _ hk => ⟨hk.1.2, hk.2⟩)) hg hat); have n2_ := am (hb); have n3_ := am (ho); clear HO_4; clear HO372; clear HB; clear HO369; have HO_4 := n0_; have HO372 := n1_; have HB := n2_; have HO375 := n3_; clear n0_ n1_ n2_ n3_; clear ho hb hg hat))
      go_roundg k1
      case measure => have := HK1.out; omega
      case rel => exact ⟨(y373), (([] : List Int)), (wrap64 (x5_1 + t365)), zr, H', ⟨by have := HK1.out; omega⟩, ⟨by (with_reducible repeat (first | apply Kd.R_alloc | apply Kd.R_drewN | apply Kd.R_drew)); exact Kd.R_mono HO375.out (fun _ hk => (by simp [Value.ownBlock]))⟩, ⟨by first | exact Kd.R_nil _ _ _ _ _ | exact Kd.N_nil _ _ _ _ _ | exact Kd.V_nil _ _ _ _ _ | exact Kd.Q_nil _ _ _ _ _ | exact Kd.S_nil _ _ _ _ _⟩, ⟨zb HB⟩⟩
     ·
      rw [if_neg c6] at H
      exact absurd H (by simp)
    ·
     rw [if_neg c4] at H
     have c4b0 : decide (0 < t365) = false := decide_eq_false c4
     clear c4
     by_cases c14 : 0 ≤ x5_1
     ·
      rw [if_pos c14] at H
      have c14b0 : decide (0 ≤ x5_1) = true := decide_eq_true c14
      clear c14
      by_cases c15 : x4_1.length < 140737488355328
      ·
       rw [if_pos c15] at H
       have LMc15 := am c15
       clear c15
       obtain ⟨y377, hy377⟩ : ∃ y_ : List Int, y_ = (x4_1 ++ [rd l0 x5_1]) := ⟨_, rfl⟩
       replace H : (if (y377.length : Int) = 128 then ((j11_literal.f x3_1 y377).bind fun t380 => (j11_Pack.l0 k1 l0 t380 ([] : List Int) (wrap64 (x5_1 + 1)))) else (j11_Pack.l0 k1 l0 x3_1 y377 (wrap64 (x5_1 + 1)))) = some r := by first | (rw [hy377]; with_reducible exact H) | (have H2_ := (Option.bind_some _ _).symm.trans H; rw [hy377]; with_reducible exact H2_) | (have H2_ := (Option.bind_some _ _).symm.trans H; with_reducible exact H2_) | with_reducible exact H | (rw [hy377]; exact H) | exact H
       have Ny377 := am hy377
       clear hy377
       by_cases c16 : (y377.length : Int) = 128
       ·
        rw [if_pos c16] at H
        have c16b0 : ((y377.length : Int) == 128) = true := beq_iff_eq.mpr c16
        have c16b1 : ((y377.length : Int) != 128) = false := bne_eq_false_iff_eq.mpr c16
        clear c16
        replace H := Option.bind_eq_some_iff.mp H
        obtain ⟨t380, A170, H⟩ := H
        (try dsimp only at H)
        have A17 := am A170
        clear A170
        have H' := am H
        clear H
        go_wp2_with (first | ((with_reducible refine gate_callee (f := 79) rfl ?_); refine goesL_ (some 15) rfl rfl Try.func79 (by kernel_rfl) rfl #[.slice A0 l0.length c0, .int .i64 x5_1] rfl zg ?_; (with_reducible refine (j11_Match.calls k1 _ _ l0 x5_1 t365 t366 _ ?side1 ?side2 A3.out).mono ?_); (case side1 => exact zC ((Kd.C_below HR0.out HB.out))); (case side2 => exact HC0.out); rintro e w' ⟨rfl, ⟨nd, rfl⟩⟩; refine ⟨_, rfl, ?_⟩; have p376 : 0 ≤ (x5_1 : Int) := zo; have q376 : x5_1 < (l0.length : Int) := zo; obtain ⟨ad376, e376, hx376_0⟩ := Kd.at_int HR0.out x5_1 p376 q376; cases e376; replace hx376_0 := zx HB hx376_0; replace p376 := eq_true p376; replace q376 := eq_true q376) | ((with_reducible refine gate_builtin (b := .append) (xs := #[.tmp 34, .tmp 39]) rfl ?_); at_builtin; refine Kd.R_append (Kd.int .u8) (w0 := w) w.heap.size rfl (.tmp 34) (.tmp 39) 27 5 (.int .u8 0) 1 rfl Try.underlying27 info5 rfl (by decide) (by omega) u4 x4_1 (rd l0 x5_1) [.int .u8 (rd l0 x5_1)] (fun k_ => some k_ ≠ (u3 : Value).ownBlock) (fun _ => False) rfl rfl ?aP (fun _ hk => hk.elim) ?aF ?aO ?aB ?aS ?aL ?_; (case aP => exact rfl); (case aB => exact (zb HB)); (case aF => exact (fun k_ hk => Kd.fresh' (Kd.R_lt (zR HO_3.out)) k_ hk)); (case aO => exact (zR HO_4.out)); (case aS => exact (below_size (zb HB))); (case aL => have := LMc15.out; omega); intro v378 w18 ho hb hg hat; rw [← Ny377.out] at ho; have n0_ := am (Kd.R_after (ok := (fun _ => True)) (by (with_reducible repeat (first | apply Kd.R_alloc | apply Kd.R_drewN | apply Kd.R_drew)); exact Kd.R_mono HO_3.out (fun _ hk => ⟨trivial, hk⟩)) hg hat); have n1_ := am (hb); have n2_ := am (ho); clear HO_3; clear HB; clear HO_4; have HO_3 := n0_; have HB := n1_; have HO379 := n2_; clear n0_ n1_ n2_; clear ho hb hg hat; obtain ⟨Ao19, co19, eo19⟩ := Kd.R_slice HO379.out; subst eo19; obtain ⟨Ao20, co20, eo20⟩ := Kd.R_slice HO_3.out; subst eo20) | ((with_reducible refine gate_callee (f := 80) rfl ?_); refine goesL_ (some 48) rfl rfl Try.func80 (by kernel_rfl) rfl #[.slice Ao20 x3_1.length co20, .slice Ao19 y377.length co19] rfl zg ?_; (with_reducible refine (j11_literal.calls (fun k_ => some k_ = (.slice Ao20 x3_1.length co20 : Value).ownBlock) (.slice Ao20 x3_1.length co20) x3_1 _ _ y377 t380 w _ ?side1 ?side2 ?side3 ?side4 A17.out).mono ?_); (case side1 => repeat (first | (with_reducible first | exact HB.out | apply below_alloc | apply pw_below_drewN | apply below_drew1) | exact HB.out)); (case side2 => exact Kd.R_tight rfl HO_3.out); (case side3 => exact Kd.C_kept_own (HO379.out) (fun k_ hk_ hs_ => (hk_) hs_)); (case side4 => exact (Kd.R_reads' HO379.out).2.1); rintro e w21 ⟨v381, rfl, ho0, hb, hkp⟩; refine ⟨_, rfl, ?_⟩; have n0_ := am (Kd.R_mono (ok' := fun k_ => some k_ ≠ (v381 : Value).ownBlock) (Kd.R_keptB (HO379.out) hkp (fun k_ hk_ hs_ => (hk_) hs_)) (fun k_ hk_ => fun e_ => Or.elim (ho0.1 k_ e_.symm) (fun hs_ => hk_.2.1 hs_) (fun hn_ => Nat.not_le.2 hk_.2.2 hn_))); have n1_ := am (Kd.R_mono (ok' := fun k_ => some k_ ≠ (.slice Ao19 y377.length co19 : Value).ownBlock) ho0 (fun k_ hk_ => Or.elim hk_ (fun hs_ => fun e_ => (((HO379.out).1 k_ e_.symm)) hs_) (fun hn_ => (Kd.fresh' (Kd.R_lt (zR HO379.out)) k_ hn_)))); have n2_ := am (hb); clear HO379; clear HB; clear HO_3; have HO379 := n0_; have HO382 := n1_; have HB := n2_; clear n0_ n1_ n2_; (try clear hb); (try clear hkp); (try clear ho0)))
        go_roundg k1
        case measure => have := HK1.out; omega
        case rel => exact ⟨(t380), (([] : List Int)), (wrap64 (x5_1 + 1)), zr, H', ⟨by have := HK1.out; omega⟩, ⟨by (with_reducible repeat (first | apply Kd.R_alloc | apply Kd.R_drewN | apply Kd.R_drew)); exact Kd.R_mono HO382.out (fun _ hk => (by simp [Value.ownBlock]))⟩, ⟨by first | exact Kd.R_nil _ _ _ _ _ | exact Kd.N_nil _ _ _ _ _ | exact Kd.V_nil _ _ _ _ _ | exact Kd.Q_nil _ _ _ _ _ | exact Kd.S_nil _ _ _ _ _⟩, ⟨zb HB⟩⟩
       ·
        rw [if_neg c16] at H
        have c16b0 : ((y377.length : Int) == 128) = false := beq_eq_false_iff_ne.mpr c16
        have c16b1 : ((y377.length : Int) != 128) = true := bne_iff_ne.mpr c16
        have H' := am H
        clear H
        go_wp2_with (first | ((with_reducible refine gate_callee (f := 79) rfl ?_); refine goesL_ (some 15) rfl rfl Try.func79 (by kernel_rfl) rfl #[.slice A0 l0.length c0, .int .i64 x5_1] rfl zg ?_; (with_reducible refine (j11_Match.calls k1 _ _ l0 x5_1 t365 t366 _ ?side1 ?side2 A3.out).mono ?_); (case side1 => exact zC ((Kd.C_below HR0.out HB.out))); (case side2 => exact HC0.out); rintro e w' ⟨rfl, ⟨nd, rfl⟩⟩; refine ⟨_, rfl, ?_⟩; have p376 : 0 ≤ (x5_1 : Int) := zo; have q376 : x5_1 < (l0.length : Int) := zo; obtain ⟨ad376, e376, hx376_0⟩ := Kd.at_int HR0.out x5_1 p376 q376; cases e376; replace hx376_0 := zx HB hx376_0; replace p376 := eq_true p376; replace q376 := eq_true q376) | ((with_reducible refine gate_builtin (b := .append) (xs := #[.tmp 34, .tmp 39]) rfl ?_); at_builtin; refine Kd.R_append (Kd.int .u8) (w0 := w) w.heap.size rfl (.tmp 34) (.tmp 39) 27 5 (.int .u8 0) 1 rfl Try.underlying27 info5 rfl (by decide) (by omega) u4 x4_1 (rd l0 x5_1) [.int .u8 (rd l0 x5_1)] (fun k_ => some k_ ≠ (u3 : Value).ownBlock) (fun _ => False) rfl rfl ?aP (fun _ hk => hk.elim) ?aF ?aO ?aB ?aS ?aL ?_; (case aP => exact rfl); (case aB => exact (zb HB)); (case aF => exact (fun k_ hk => Kd.fresh' (Kd.R_lt (zR HO_3.out)) k_ hk)); (case aO => exact (zR HO_4.out)); (case aS => exact (below_size (zb HB))); (case aL => have := LMc15.out; omega); intro v378 w22 ho hb hg hat; rw [← Ny377.out] at ho; have n0_ := am (Kd.R_after (ok := (fun _ => True)) (by (with_reducible repeat (first | apply Kd.R_alloc | apply Kd.R_drewN | apply Kd.R_drew)); exact Kd.R_mono HO_3.out (fun _ hk => ⟨trivial, hk⟩)) hg hat); have n1_ := am (hb); have n2_ := am (ho); clear HO_3; clear HB; clear HO_4; have HO_3 := n0_; have HB := n1_; have HO379 := n2_; clear n0_ n1_ n2_; clear ho hb hg hat; obtain ⟨Ao23, co23, eo23⟩ := Kd.R_slice HO379.out; subst eo23))
        go_roundg k1
        case measure => have := HK1.out; omega
        case rel => exact ⟨(x3_1), (y377), (wrap64 (x5_1 + 1)), zr, H', ⟨by have := HK1.out; omega⟩, ⟨by (with_reducible repeat (first | apply Kd.R_alloc | apply Kd.R_drewN | apply Kd.R_drew)); exact Kd.R_mono HO_3.out (fun _ hk => hk.2)⟩, ⟨by (with_reducible repeat (first | apply Kd.R_alloc | apply Kd.R_drewN | apply Kd.R_drew)); exact HO379.out⟩, ⟨zb HB⟩⟩
      ·
       rw [if_neg c15] at H
       exact absurd H (by simp)
     ·
      rw [if_neg c14] at H
      exact absurd H (by simp)
   ·
    rw [if_neg c2] at H
    have c2b0 : decide (x5_1 < (l0.length : Int)) = false := decide_eq_false c2
    clear c2
    replace H := Option.bind_eq_some_iff.mp H
    obtain ⟨t362, A240, H⟩ := H
    (try dsimp only at H)
    have A24 := am A240
    clear A240
    obtain rfl := Option.some.inj H
    obtain ⟨Ao25, co25, eo25⟩ := Kd.R_slice HO_3.out
    subst eo25
    obtain ⟨Ao26, co26, eo26⟩ := Kd.R_slice HO_4.out
    subst eo26
    go_wp2_with (first | ((with_reducible refine gate_callee (f := 80) rfl ?_); refine goesL_ (some 51) rfl rfl Try.func80 (by kernel_rfl) rfl #[.slice Ao25 x3_1.length co25, .slice Ao26 x4_1.length co26] rfl zg ?_; (with_reducible refine (j11_literal.calls (fun k_ => some k_ = (.slice Ao25 x3_1.length co25 : Value).ownBlock) (.slice Ao25 x3_1.length co25) x3_1 _ _ x4_1 t362 w _ ?side1 ?side2 ?side3 ?side4 A24.out).mono ?_); (case side1 => repeat (first | (with_reducible first | exact HB.out | apply below_alloc | apply pw_below_drewN | apply below_drew1) | exact HB.out)); (case side2 => exact Kd.R_tight rfl HO_3.out); (case side3 => exact Kd.C_kept_own (HO_4.out) (fun k_ hk_ hs_ => (hk_) hs_)); (case side4 => exact (Kd.R_reads' HO_4.out).2.1); rintro e w27 ⟨v363, rfl, ho0, hb, hkp⟩; refine ⟨_, rfl, ?_⟩; have n0_ := am (Kd.R_mono (ok' := fun k_ => some k_ ≠ (v363 : Value).ownBlock) (Kd.R_keptB (HO_4.out) hkp (fun k_ hk_ hs_ => (hk_) hs_)) (fun k_ hk_ => fun e_ => Or.elim (ho0.1 k_ e_.symm) (fun hs_ => hk_.2.1 hs_) (fun hn_ => Nat.not_le.2 hk_.2.2 hn_))); have n1_ := am (Kd.R_mono (ok' := fun k_ => some k_ ≠ (.slice Ao26 x4_1.length co26 : Value).ownBlock) ho0 (fun k_ hk_ => Or.elim hk_ (fun hs_ => fun e_ => (((HO_4.out).1 k_ e_.symm)) hs_) (fun hn_ => (Kd.fresh' (Kd.R_lt (zR HO_4.out)) k_ hn_)))); have n2_ := am (hb); clear HO_4; clear HB; clear HO_3; have HO_4 := n0_; have HO364 := n1_; have HB := n2_; clear n0_ n1_ n2_; (try clear hb); (try clear hkp); (try clear ho0)))
    go_ret
    exact ⟨_, ze, by (with_reducible repeat (first | apply Kd.R_alloc | apply Kd.R_drewN | apply Kd.R_drew)); exact Kd.R_mono HO364.out (fun _ hk => trivial), zb HB⟩
end Go.Proofs.Ytnmmkgagbfniiaa.A
end
