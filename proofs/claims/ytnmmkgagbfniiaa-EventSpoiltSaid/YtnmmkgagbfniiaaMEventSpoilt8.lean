/- MEventSpoilt8: texts of this session and of the kit's printer on the road to the statement EventSpoilt, laid into one and rid of what it doesn't need. No condition beyond what each fact names. -/
import Derived.Test.YtnmmkgagbfniiaaMEventSpoilt3
import Derived.Test.YtnmmkgagbfniiaaMEventSpoilt4
import Derived.Test.YtnmmkgagbfniiaaMEventSpoilt7
section
namespace Go.Proofs.Ytnmmkgagbfniiaa.A
open Go.RowKit Go.Proofs.YtnmmkgagbfniiaaW.PrintWords Go.Proofs.YtnmmkgagbfniiaaW.PrintLast Go.Proofs.YtnmmkgagbfniiaaW.PrintMore
attribute [local go_sem] max2_int min2_int max_two min_two max_three min_three max_four min_four
set_option linter.unusedVariables false
set_option linter.unusedSimpArgs false
def interleaveref11_Append.f (k : Nat) (l0 : List Int) (a1_0 : Int) (a1_1 : Int) (a1_2 : Int) (a1_3 : Int) (a1_4 : Int) (a1_5 : Int) (l1_6 : List Int) (l1_7 : List Int) (a2 : Int) : Option (List Int) := (interleaveref11_PutInt.f k l0 (wrap64 (a1_0 - a2))).bind fun t210 => ((interleaveref11_PutInt.f k t210 a1_2).bind fun t213 => ((interleaveref11_PutInt.f k t213 a1_3).bind fun t216 => ((interleaveref11_PutInt.f k t216 a1_4).bind fun t219 => ((interleaveref11_PutInt.f k t219 a1_5).bind fun t222 => ((interleaveref11_putList.f k t222 l1_6).bind fun t225 => ((interleaveref11_putList.f k t225 l1_7).bind fun t228 => (some t228)))))))
theorem interleaveref11_Append.mono : ∀ a0 a1 a2 a3 a4 a5 a6 a7 a8 a9 k, LeO (interleaveref11_Append.f k a0 a1 a2 a3 a4 a5 a6 a7 a8 a9) (interleaveref11_Append.f (k + 1) a0 a1 a2 a3 a4 a5 a6 a7 a8 a9) := by
  intro a0 a1 a2 a3 a4 a5 a6 a7 a8 a9 k
  unfold interleaveref11_Append.f
  repeat' first
      | (with_reducible exact interleaveref11_PutInt.mono _ _ _)
      | (with_reducible exact interleaveref11_putList.mono _ _ _)
      | (with_reducible exact LeO.refl _)
      | (with_reducible exact LeO.none _)
      | (with_reducible refine LeO.ite ?_ ?_)
      | (with_reducible refine LeO.bind ?_ (fun _ => ?_))
      | exact interleaveref11_PutInt.mono _ _ _
      | exact interleaveref11_putList.mono _ _ _
      | exact LeO.none _
      | refine LeO.ite ?_ ?_
      | refine LeO.bind ?_ (fun _ => ?_)
set_option maxHeartbeats 8000000 in
set_option maxRecDepth 100000 in
theorem interleaveref11_Append.calls (k : Nat) (A0 : Option Addr) (c0 : Nat) (l0 : List Int) (a1_0 : Int) (a1_1 : Int) (a1_2 : Int) (a1_3 : Int) (a1_4 : Int) (a1_5 : Int) (A1_6 : Option Addr) (c1_6 : Nat) (l1_6 : List Int) (A1_7 : Option Addr) (c1_7 : Nat) (l1_7 : List Int) (a2 : Int) (r : List Int) (w : World) (hr0 : Kd.C (Kd.int .u8) w A0 l0.length l0) (hc0 : l0.length ≤ c0) (hr1_6 : Kd.C (Kd.int .i64) w A1_6 l1_6.length l1_6) (hc1_6 : l1_6.length ≤ c1_6) (hr1_7 : Kd.C (Kd.int .i64) w A1_7 l1_7.length l1_7) (hc1_7 : l1_7.length ≤ c1_7) (h : interleaveref11_Append.f k l0 a1_0 a1_1 a1_2 a1_3 a1_4 a1_5 l1_6 l1_7 a2 = some r) :
    Calls Try.prog 16 #[.slice A0 l0.length c0, .agg #[.int .i64 a1_0, .int .i64 a1_1, .int .i64 a1_2, .int .i64 a1_3, .int .i64 a1_4, .int .i64 a1_5, .slice A1_6 l1_6.length c1_6, .slice A1_7 l1_7.length c1_7], .int .i64 a2] w fun e w' => ∃ v0_ : Value, e = .returned (v0_) ∧ Kd.R (Kd.int .u8) 5 w' w.heap.size (fun _ => True) v0_ r ∧ Below w.heap.size w w' := by
  have hu26 := Try.underlying26
  have HR0 := Aside0.mk hr0
  have HC0 := Aside0.mk hc0
  clear hr0 hc0
  have HR1_6 := Aside0.mk hr1_6
  have HC1_6 := Aside0.mk hc1_6
  clear hr1_6 hc1_6
  have HR1_7 := Aside0.mk hr1_7
  have HC1_7 := Aside0.mk hc1_7
  clear hr1_7 hc1_7
  have HB := Aside0.mk (Below.refl w.heap.size w)
  have H : ((interleaveref11_PutInt.f k l0 (wrap64 (a1_0 - a2))).bind fun t210 => ((interleaveref11_PutInt.f k t210 a1_2).bind fun t213 => ((interleaveref11_PutInt.f k t213 a1_3).bind fun t216 => ((interleaveref11_PutInt.f k t216 a1_4).bind fun t219 => ((interleaveref11_PutInt.f k t219 a1_5).bind fun t222 => ((interleaveref11_putList.f k t222 l1_6).bind fun t225 => ((interleaveref11_putList.f k t225 l1_7).bind fun t228 => (some t228)))))))) = some r := h
  clear h
  replace H := Option.bind_eq_some_iff.mp H
  obtain ⟨t210, A40, H⟩ := H
  replace H : ((interleaveref11_PutInt.f k t210 a1_2).bind fun t213 => ((interleaveref11_PutInt.f k t213 a1_3).bind fun t216 => ((interleaveref11_PutInt.f k t216 a1_4).bind fun t219 => ((interleaveref11_PutInt.f k t219 a1_5).bind fun t222 => ((interleaveref11_putList.f k t222 l1_6).bind fun t225 => ((interleaveref11_putList.f k t225 l1_7).bind fun t228 => (some t228))))))) = some r := H
  have A4 := Aside0.mk A40
  clear A40
  replace H := Option.bind_eq_some_iff.mp H
  obtain ⟨t213, A50, H⟩ := H
  replace H : ((interleaveref11_PutInt.f k t213 a1_3).bind fun t216 => ((interleaveref11_PutInt.f k t216 a1_4).bind fun t219 => ((interleaveref11_PutInt.f k t219 a1_5).bind fun t222 => ((interleaveref11_putList.f k t222 l1_6).bind fun t225 => ((interleaveref11_putList.f k t225 l1_7).bind fun t228 => (some t228)))))) = some r := H
  have A5 := Aside0.mk A50
  clear A50
  replace H := Option.bind_eq_some_iff.mp H
  obtain ⟨t216, A60, H⟩ := H
  replace H : ((interleaveref11_PutInt.f k t216 a1_4).bind fun t219 => ((interleaveref11_PutInt.f k t219 a1_5).bind fun t222 => ((interleaveref11_putList.f k t222 l1_6).bind fun t225 => ((interleaveref11_putList.f k t225 l1_7).bind fun t228 => (some t228))))) = some r := H
  have A6 := Aside0.mk A60
  clear A60
  replace H := Option.bind_eq_some_iff.mp H
  obtain ⟨t219, A70, H⟩ := H
  replace H : ((interleaveref11_PutInt.f k t219 a1_5).bind fun t222 => ((interleaveref11_putList.f k t222 l1_6).bind fun t225 => ((interleaveref11_putList.f k t225 l1_7).bind fun t228 => (some t228)))) = some r := H
  have A7 := Aside0.mk A70
  clear A70
  replace H := Option.bind_eq_some_iff.mp H
  obtain ⟨t222, A80, H⟩ := H
  replace H : ((interleaveref11_putList.f k t222 l1_6).bind fun t225 => ((interleaveref11_putList.f k t225 l1_7).bind fun t228 => (some t228))) = some r := H
  have A8 := Aside0.mk A80
  clear A80
  replace H := Option.bind_eq_some_iff.mp H
  obtain ⟨t225, A90, H⟩ := H
  replace H : ((interleaveref11_putList.f k t225 l1_7).bind fun t228 => (some t228)) = some r := H
  have A9 := Aside0.mk A90
  clear A90
  replace H := Option.bind_eq_some_iff.mp H
  obtain ⟨t228, A100, H⟩ := H
  replace H : (some t228) = some r := H
  have A10 := Aside0.mk A100
  clear A100
  obtain rfl := Option.some.inj H
  go_enter Try.func16, Try.ntmps16
  go_wp2_with (first | ((with_reducible refine gate_dst (N := 4) rfl ?_); refine box_event ?hg (N := 4) ?hd (cs := #[.int .i64 a1_0, .int .i64 a1_1, .int .i64 a1_2, .int .i64 a1_3, .int .i64 a1_4, .int .i64 a1_5, .slice A1_6 l1_6.length c1_6, .slice A1_7 l1_7.length c1_7]) (t := 26) ?hr ?_; (case hd => rfl); (case hg => rfl); (case hr => first | (go_simp; done) | (go_simp; rfl)); intro gb209 hg w11 hbox hb; have n0_ := Aside0.mk (below_step (by repeat (first | (with_reducible first | exact HB.out | apply below_alloc | apply pw_below_drewN | apply below_drew1) | exact HB.out)) hb); have n1_ := Aside0.mk (hbox); have n2_ := Aside0.mk ((by rw [hg]; exact (below_size (by repeat (first | (with_reducible first | exact HB.out | apply below_alloc | apply pw_below_drewN | apply below_drew1) | exact HB.out))) : w.heap.size ≤ gb209)); have n3_ := Aside0.mk ((by rw [hg]; exact (below_size (by repeat (first | (with_reducible first | exact HB.out | apply below_alloc | apply pw_below_drewN | apply below_drew1) | exact HB.out))) : w.heap.size ≤ gb209)); clear HB; have HB := n0_; have BK209 := n1_; have GW209 := n2_; have GE209 := n3_; clear n0_ n1_ n2_ n3_; clear hb hbox hg; have hcz12_0 : w11.cell? ⟨gb209, 0, none⟩ = some (.int .i64 a1_0) := (blk_cell BK209.out 0).trans rfl; have hcz12_1 : w11.cell? ⟨gb209, 1, none⟩ = some (.int .i64 a1_1) := (blk_cell BK209.out 1).trans rfl; have hcz12_2 : w11.cell? ⟨gb209, 2, none⟩ = some (.int .i64 a1_2) := (blk_cell BK209.out 2).trans rfl; have hcz12_3 : w11.cell? ⟨gb209, 3, none⟩ = some (.int .i64 a1_3) := (blk_cell BK209.out 3).trans rfl; have hcz12_4 : w11.cell? ⟨gb209, 4, none⟩ = some (.int .i64 a1_4) := (blk_cell BK209.out 4).trans rfl; have hcz12_5 : w11.cell? ⟨gb209, 5, none⟩ = some (.int .i64 a1_5) := (blk_cell BK209.out 5).trans rfl; have hcz12_6 : w11.cell? ⟨gb209, 6, none⟩ = some (.slice A1_6 l1_6.length c1_6) := (blk_cell BK209.out 6).trans rfl; have hcz12_7 : w11.cell? ⟨gb209, 7, none⟩ = some (.slice A1_7 l1_7.length c1_7) := (blk_cell BK209.out 7).trans rfl; have hfz12_0 := blk_frozen BK209.out 0; have hfz12_1 := blk_frozen BK209.out 1; have hfz12_2 := blk_frozen BK209.out 2; have hfz12_3 := blk_frozen BK209.out 3; have hfz12_4 := blk_frozen BK209.out 4; have hfz12_5 := blk_frozen BK209.out 5; have hfz12_6 := blk_frozen BK209.out 6; have hfz12_7 := blk_frozen BK209.out 7) | ((with_reducible refine gate_callee (f := 45) rfl ?_); refine goesL_ (some 12) rfl rfl Try.func45 (by kernel_rfl) rfl #[.slice A0 l0.length c0, .int .i64 (wrap64 (a1_0 - a2))] rfl (by (try simp only [List.map_toArray, List.map_cons, List.map_nil]); first | done | rfl | (simp only [List.length_drop, List.length_take]; rfl)) ?_; (with_reducible refine (interleaveref11_PutInt.calls k _ _ l0 (wrap64 (a1_0 - a2)) t210 _ ?side1 ?side2 A4.out).mono ?_); (case side1 => repeat (first | exact (Kd.C_below HR0.out HB.out) | (with_reducible refine Kd.C_alloc ?_ _) | (with_reducible refine Kd.C_drewN ?_ _) | (with_reducible refine Kd.C_drew ?_))); (case side2 => exact HC0.out); rintro e w13 ⟨v211, rfl, ho0, hb⟩; refine ⟨_, rfl, ?_⟩; have n0_ := Aside0.mk (Kd.R_lower ho0 (below_size (by repeat (first | (with_reducible first | exact HB.out | apply below_alloc | apply pw_below_drewN | apply below_drew1 | refine below_set ?_ GE209.out) | exact HB.out)))); have n1_ := Aside0.mk (blk_below (g := gb209) (o := .cells #[.int .i64 a1_0, .int .i64 a1_1, .int .i64 a1_2, .int .i64 a1_3, .int .i64 a1_4, .int .i64 a1_5, .slice A1_6 l1_6.length c1_6, .slice A1_7 l1_7.length c1_7] 26 (0, 0)) (by (with_reducible repeat (first | refine blk_drewN ?_ _ | refine blk_drew ?_ | refine blk_alloc ?_ _)); exact BK209.out) hb); have n2_ := Aside0.mk (below_step (by repeat (first | (with_reducible first | exact HB.out | apply below_alloc | apply pw_below_drewN | apply below_drew1 | refine below_set ?_ GE209.out) | exact HB.out)) hb); clear BK209; clear HB; have HO212 := n0_; have BK209 := n1_; have HB := n2_; clear n0_ n1_ n2_; (try clear hb); (try clear hb2); (try clear hk); (try clear hi); (try clear ho0); have hcz14_0 : w13.cell? ⟨gb209, 0, none⟩ = some (.int .i64 a1_0) := (blk_cell BK209.out 0).trans rfl; have hcz14_1 : w13.cell? ⟨gb209, 1, none⟩ = some (.int .i64 a1_1) := (blk_cell BK209.out 1).trans rfl; have hcz14_2 : w13.cell? ⟨gb209, 2, none⟩ = some (.int .i64 a1_2) := (blk_cell BK209.out 2).trans rfl; have hcz14_3 : w13.cell? ⟨gb209, 3, none⟩ = some (.int .i64 a1_3) := (blk_cell BK209.out 3).trans rfl; have hcz14_4 : w13.cell? ⟨gb209, 4, none⟩ = some (.int .i64 a1_4) := (blk_cell BK209.out 4).trans rfl; have hcz14_5 : w13.cell? ⟨gb209, 5, none⟩ = some (.int .i64 a1_5) := (blk_cell BK209.out 5).trans rfl; have hcz14_6 : w13.cell? ⟨gb209, 6, none⟩ = some (.slice A1_6 l1_6.length c1_6) := (blk_cell BK209.out 6).trans rfl; have hcz14_7 : w13.cell? ⟨gb209, 7, none⟩ = some (.slice A1_7 l1_7.length c1_7) := (blk_cell BK209.out 7).trans rfl; have hfz14_0 := blk_frozen BK209.out 0; have hfz14_1 := blk_frozen BK209.out 1; have hfz14_2 := blk_frozen BK209.out 2; have hfz14_3 := blk_frozen BK209.out 3; have hfz14_4 := blk_frozen BK209.out 4; have hfz14_5 := blk_frozen BK209.out 5; have hfz14_6 := blk_frozen BK209.out 6; have hfz14_7 := blk_frozen BK209.out 7; obtain ⟨Ao15, co15, eo15⟩ := Kd.R_slice HO212.out; subst eo15) | ((with_reducible refine gate_callee (f := 45) rfl ?_); refine goesL_ (some 17) rfl rfl Try.func45 (by kernel_rfl) rfl #[.slice Ao15 t210.length co15, .int .i64 a1_2] rfl (by (try simp only [List.map_toArray, List.map_cons, List.map_nil]); first | done | rfl | (simp only [List.length_drop, List.length_take]; rfl)) ?_; (with_reducible refine (interleaveref11_PutInt.calls k _ _ t210 a1_2 t213 _ ?side1 ?side2 A5.out).mono ?_); (case side1 => repeat (first | exact (Kd.R_reads' HO212.out).2.2 | (with_reducible refine Kd.C_alloc ?_ _) | (with_reducible refine Kd.C_drewN ?_ _) | (with_reducible refine Kd.C_drew ?_))); (case side2 => exact (Kd.R_reads' HO212.out).2.1); rintro e w16 ⟨v214, rfl, ho0, hb⟩; refine ⟨_, rfl, ?_⟩; have n0_ := Aside0.mk (Kd.R_elder' (by (with_reducible repeat (first | apply Kd.R_alloc | apply Kd.R_drewN | apply Kd.R_drew)); exact HO212.out) (Kd.R_base ho0) hb); have n1_ := Aside0.mk (Kd.R_lower (Kd.R_new' ho0 (Kd.R_lt (by (with_reducible repeat (first | apply Kd.R_alloc | apply Kd.R_drewN | apply Kd.R_drew)); exact HO212.out))) (below_size (by repeat (first | (with_reducible first | exact HB.out | apply below_alloc | apply pw_below_drewN | apply below_drew1 | refine below_set ?_ GE209.out) | exact HB.out)))); have n2_ := Aside0.mk (blk_below (g := gb209) (o := .cells #[.int .i64 a1_0, .int .i64 a1_1, .int .i64 a1_2, .int .i64 a1_3, .int .i64 a1_4, .int .i64 a1_5, .slice A1_6 l1_6.length c1_6, .slice A1_7 l1_7.length c1_7] 26 (0, 0)) (by (with_reducible repeat (first | refine blk_drewN ?_ _ | refine blk_drew ?_ | refine blk_alloc ?_ _)); exact BK209.out) hb); have n3_ := Aside0.mk (below_step (by repeat (first | (with_reducible first | exact HB.out | apply below_alloc | apply pw_below_drewN | apply below_drew1 | refine below_set ?_ GE209.out) | exact HB.out)) hb); clear HO212; clear BK209; clear HB; have HO212 := n0_; have HO215 := n1_; have BK209 := n2_; have HB := n3_; clear n0_ n1_ n2_ n3_; (try clear hb); (try clear hb2); (try clear hk); (try clear hi); (try clear ho0); have hcz17_0 : w16.cell? ⟨gb209, 0, none⟩ = some (.int .i64 a1_0) := (blk_cell BK209.out 0).trans rfl; have hcz17_1 : w16.cell? ⟨gb209, 1, none⟩ = some (.int .i64 a1_1) := (blk_cell BK209.out 1).trans rfl; have hcz17_2 : w16.cell? ⟨gb209, 2, none⟩ = some (.int .i64 a1_2) := (blk_cell BK209.out 2).trans rfl; have hcz17_3 : w16.cell? ⟨gb209, 3, none⟩ = some (.int .i64 a1_3) := (blk_cell BK209.out 3).trans rfl; have hcz17_4 : w16.cell? ⟨gb209, 4, none⟩ = some (.int .i64 a1_4) := (blk_cell BK209.out 4).trans rfl; have hcz17_5 : w16.cell? ⟨gb209, 5, none⟩ = some (.int .i64 a1_5) := (blk_cell BK209.out 5).trans rfl; have hcz17_6 : w16.cell? ⟨gb209, 6, none⟩ = some (.slice A1_6 l1_6.length c1_6) := (blk_cell BK209.out 6).trans rfl; have hcz17_7 : w16.cell? ⟨gb209, 7, none⟩ = some (.slice A1_7 l1_7.length c1_7) := (blk_cell BK209.out 7).trans rfl; have hfz17_0 := blk_frozen BK209.out 0; have hfz17_1 := blk_frozen BK209.out 1; have hfz17_2 := blk_frozen BK209.out 2; have hfz17_3 := blk_frozen BK209.out 3; have hfz17_4 := blk_frozen BK209.out 4; have hfz17_5 := blk_frozen BK209.out 5; have hfz17_6 := blk_frozen BK209.out 6; have hfz17_7 := blk_frozen BK209.out 7; obtain ⟨Ao18, co18, eo18⟩ := Kd.R_slice HO215.out; subst eo18) | ((with_reducible refine gate_callee (f := 45) rfl ?_); refine goesL_ (some 22) rfl rfl Try.func45 (by kernel_rfl) rfl #[.slice Ao18 t213.length co18, .int .i64 a1_3] rfl (by (try simp only [List.map_toArray, List.map_cons, List.map_nil]); first | done | rfl | (simp only [List.length_drop, List.length_take]; rfl)) ?_; (with_reducible refine (interleaveref11_PutInt.calls k _ _ t213 a1_3 t216 _ ?side1 ?side2 A6.out).mono ?_); (case side1 => repeat (first | exact (Kd.R_reads' HO215.out).2.2 | (with_reducible refine Kd.C_alloc ?_ _) | (with_reducible refine Kd.C_drewN ?_ _) | (with_reducible refine Kd.C_drew ?_))); (case side2 => exact (Kd.R_reads' HO215.out).2.1); rintro e w19 ⟨v217, rfl, ho0, hb⟩; refine ⟨_, rfl, ?_⟩; have n0_ := Aside0.mk (Kd.R_elder' (by (with_reducible repeat (first | apply Kd.R_alloc | apply Kd.R_drewN | apply Kd.R_drew)); exact HO212.out) (Kd.R_base ho0) hb); have n1_ := Aside0.mk (Kd.R_elder' (by (with_reducible repeat (first | apply Kd.R_alloc | apply Kd.R_drewN | apply Kd.R_drew)); exact HO215.out) (Kd.R_base ho0) hb); have n2_ := Aside0.mk (Kd.R_lower (Kd.R_new' (Kd.R_new' ho0 (Kd.R_lt (by (with_reducible repeat (first | apply Kd.R_alloc | apply Kd.R_drewN | apply Kd.R_drew)); exact HO212.out))) (Kd.R_lt (by (with_reducible repeat (first | apply Kd.R_alloc | apply Kd.R_drewN | apply Kd.R_drew)); exact HO215.out))) (below_size (by repeat (first | (with_reducible first | exact HB.out | apply below_alloc | apply pw_below_drewN | apply below_drew1 | refine below_set ?_ GE209.out) | exact HB.out)))); have n3_ := Aside0.mk (blk_below (g := gb209) (o := .cells #[.int .i64 a1_0, .int .i64 a1_1, .int .i64 a1_2, .int .i64 a1_3, .int .i64 a1_4, .int .i64 a1_5, .slice A1_6 l1_6.length c1_6, .slice A1_7 l1_7.length c1_7] 26 (0, 0)) (by (with_reducible repeat (first | refine blk_drewN ?_ _ | refine blk_drew ?_ | refine blk_alloc ?_ _)); exact BK209.out) hb); have n4_ := Aside0.mk (below_step (by repeat (first | (with_reducible first | exact HB.out | apply below_alloc | apply pw_below_drewN | apply below_drew1 | refine below_set ?_ GE209.out) | exact HB.out)) hb); clear HO212; clear HO215; clear BK209; clear HB; have HO212 := n0_; have HO215 := n1_; have HO218 := n2_; have BK209 := n3_; have HB := n4_; clear n0_ n1_ n2_ n3_ n4_; (try clear hb); (try clear hb2); (try clear hk); (try clear hi); (try clear ho0); have hcz20_0 : w19.cell? ⟨gb209, 0, none⟩ = some (.int .i64 a1_0) := (blk_cell BK209.out 0).trans rfl; have hcz20_1 : w19.cell? ⟨gb209, 1, none⟩ = some (.int .i64 a1_1) := (blk_cell BK209.out 1).trans rfl; have hcz20_2 : w19.cell? ⟨gb209, 2, none⟩ = some (.int .i64 a1_2) := (blk_cell BK209.out 2).trans rfl; have hcz20_3 : w19.cell? ⟨gb209, 3, none⟩ = some (.int .i64 a1_3) := (blk_cell BK209.out 3).trans rfl; have hcz20_4 : w19.cell? ⟨gb209, 4, none⟩ = some (.int .i64 a1_4) := (blk_cell BK209.out 4).trans rfl; have hcz20_5 : w19.cell? ⟨gb209, 5, none⟩ = some (.int .i64 a1_5) := (blk_cell BK209.out 5).trans rfl; have hcz20_6 : w19.cell? ⟨gb209, 6, none⟩ = some (.slice A1_6 l1_6.length c1_6) := (blk_cell BK209.out 6).trans rfl; have hcz20_7 : w19.cell? ⟨gb209, 7, none⟩ = some (.slice A1_7 l1_7.length c1_7) := (blk_cell BK209.out 7).trans rfl; have hfz20_0 := blk_frozen BK209.out 0; have hfz20_1 := blk_frozen BK209.out 1; have hfz20_2 := blk_frozen BK209.out 2; have hfz20_3 := blk_frozen BK209.out 3; have hfz20_4 := blk_frozen BK209.out 4; have hfz20_5 := blk_frozen BK209.out 5; have hfz20_6 := blk_frozen BK209.out 6; have hfz20_7 := blk_frozen BK209.out 7; obtain ⟨Ao21, co21, eo21⟩ := Kd.R_slice HO218.out; subst eo21) | ((with_reducible refine gate_callee (f := 45) rfl ?_); refine goesL_ (some 27) rfl rfl Try.func45 (by kernel_rfl) rfl #[.slice Ao21 t216.length co21, .int .i64 a1_4] rfl (by (try simp only [List.map_toArray, List.map_cons, List.map_nil]); first | done | rfl | (simp only [List.length_drop, List.length_take]; rfl)) ?_; (with_reducible refine (interleaveref11_PutInt.calls k _ _ t216 a1_4 t219 _ ?side1 ?side2 A7.out).mono ?_); (case side1 => repeat (first | exact (Kd.R_reads' HO218.out).2.2 | (with_reducible refine Kd.C_alloc ?_ _) | (with_reducible refine Kd.C_drewN ?_ _) | (with_reducible refine Kd.C_drew ?_))); (case side2 => exact (Kd.R_reads' HO218.out).2.1); rintro e w22 ⟨v220, rfl, ho0, hb⟩; refine ⟨_, rfl, ?_⟩; have n0_ := Aside0.mk (Kd.R_elder' (by (with_reducible repeat (first | apply Kd.R_alloc | apply Kd.R_drewN | apply Kd.R_drew)); exact HO212.out) (Kd.R_base ho0) hb); have n1_ := Aside0.mk (Kd.R_elder' (by (with_reducible repeat (first | apply Kd.R_alloc | apply Kd.R_drewN | apply Kd.R_drew)); exact HO215.out) (Kd.R_base ho0) hb); have n2_ := Aside0.mk (Kd.R_elder' (by (with_reducible repeat (first | apply Kd.R_alloc | apply Kd.R_drewN | apply Kd.R_drew)); exact HO218.out) (Kd.R_base ho0) hb); have n3_ := Aside0.mk (Kd.R_lower (Kd.R_new' (Kd.R_new' (Kd.R_new' ho0 (Kd.R_lt (by (with_reducible repeat (first | apply Kd.R_alloc | apply Kd.R_drewN | apply Kd.R_drew)); exact HO212.out))) (Kd.R_lt (by (with_reducible repeat (first | apply Kd.R_alloc | apply Kd.R_drewN | apply Kd.R_drew)); exact HO215.out))) (Kd.R_lt (by (with_reducible repeat (first | apply Kd.R_alloc | apply Kd.R_drewN | apply Kd.R_drew)); exact HO218.out))) (below_size (by repeat (first | (with_reducible first | exact HB.out | apply below_alloc | apply pw_below_drewN | apply below_drew1 | refine below_set ?_ GE209.out) | exact HB.out)))); have n4_ := Aside0.mk (blk_below (g := gb209) (o := .cells #[.int .i64 a1_0, .int .i64 a1_1, .int .i64 a1_2, .int .i64 a1_3, .int .i64 a1_4, .int .i64 a1_5, .slice A1_6 l1_6.length c1_6, .slice A1_7 l1_7.length c1_7] 26 (0, 0)) (by (with_reducible repeat (first | refine blk_drewN ?_ _ | refine blk_drew ?_ | refine blk_alloc ?_ _)); exact BK209.out) hb); have n5_ := Aside0.mk (below_step (by repeat (first | (with_reducible first | exact HB.out | apply below_alloc | apply pw_below_drewN | apply below_drew1 | refine below_set ?_ GE209.out) | exact HB.out)) hb); clear HO212; clear HO215; clear HO218; clear BK209; clear HB; have HO212 := n0_; have HO215 := n1_; have HO218 := n2_; have HO221 := n3_; have BK209 := n4_; have HB := n5_; clear n0_ n1_ n2_ n3_ n4_ n5_; (try clear hb); (try clear hb2); (try clear hk); (try clear hi); (try clear ho0); have hcz23_0 : w22.cell? ⟨gb209, 0, none⟩ = some (.int .i64 a1_0) := (blk_cell BK209.out 0).trans rfl; have hcz23_1 : w22.cell? ⟨gb209, 1, none⟩ = some (.int .i64 a1_1) := (blk_cell BK209.out 1).trans rfl; have hcz23_2 : w22.cell? ⟨gb209, 2, none⟩ = some (.int .i64 a1_2) := (blk_cell BK209.out 2).trans rfl; have hcz23_3 : w22.cell? ⟨gb209, 3, none⟩ = some (.int .i64 a1_3) := (blk_cell BK209.out 3).trans rfl; have hcz23_4 : w22.cell? ⟨gb209, 4, none⟩ = some (.int .i64 a1_4) := (blk_cell BK209.out 4).trans rfl; have hcz23_5 : w22.cell? ⟨gb209, 5, none⟩ = some (.int .i64 a1_5) := (blk_cell BK209.out 5).trans rfl; have hcz23_6 : w22.cell? ⟨gb209, 6, none⟩ = some (.slice A1_6 l1_6.length c1_6) := (blk_cell BK209.out 6).trans rfl; have hcz23_7 : w22.cell? ⟨gb209, 7, none⟩ = some (.slice A1_7 l1_7.length c1_7) := (blk_cell BK209.out 7).trans rfl; have hfz23_0 := blk_frozen BK209.out 0; have hfz23_1 := blk_frozen BK209.out 1; have hfz23_2 := blk_frozen BK209.out 2; have hfz23_3 := blk_frozen BK209.out 3; have hfz23_4 := blk_frozen BK209.out 4; have hfz23_5 := blk_frozen BK209.out 5; have hfz23_6 := blk_frozen BK209.out 6; have hfz23_7 := blk_frozen BK209.out 7; obtain ⟨Ao24, co24, eo24⟩ := Kd.R_slice HO221.out; subst eo24) | ((with_reducible refine gate_callee (f := 45) rfl ?_); refine goesL_ (some 32) rfl rfl Try.func45 (by kernel_rfl) rfl #[.slice Ao24 t219.length co24, .int .i64 a1_5] rfl (by (try simp only [List.map_toArray, List.map_cons, List.map_nil]); first | done | rfl | (simp only [List.length_drop, List.length_take]; rfl)) ?_; (with_reducible refine (interleaveref11_PutInt.calls k _ _ t219 a1_5 t222 _ ?side1 ?side2 A8.out).mono ?_); (case side1 => repeat (first | exact (Kd.R_reads' HO221.out).2.2 | (with_reducible refine Kd.C_alloc ?_ _) | (with_reducible refine Kd.C_drewN ?_ _) | (with_reducible refine Kd.C_drew ?_))); (case side2 => exact (Kd.R_reads' HO221.out).2.1); rintro e w25 ⟨v223, rfl, ho0, hb⟩; refine ⟨_, rfl, ?_⟩; have n0_ := Aside0.mk (Kd.R_elder' (by (with_reducible repeat (first | apply Kd.R_alloc | apply Kd.R_drewN | apply Kd.R_drew)); exact HO212.out) (Kd.R_base ho0) hb); have n1_ := Aside0.mk (Kd.R_elder' (by (with_reducible repeat (first | apply Kd.R_alloc | apply Kd.R_drewN | apply Kd.R_drew)); exact HO215.out) (Kd.R_base ho0) hb); have n2_ := Aside0.mk (Kd.R_elder' (by (with_reducible repeat (first | apply Kd.R_alloc | apply Kd.R_drewN | apply Kd.R_drew)); exact HO218.out) (Kd.R_base ho0) hb); have n3_ := Aside0.mk (Kd.R_elder' (by (with_reducible repeat (first | apply Kd.R_alloc | apply Kd.R_drewN | apply Kd.R_drew)); exact HO221.out) (Kd.R_base ho0) hb); have n4_ := Aside0.mk (Kd.R_lower (Kd.R_new' (Kd.R_new' (Kd.R_new' (Kd.R_new' ho0 (Kd.R_lt (by (with_reducible repeat (first | apply Kd.R_alloc | apply Kd.R_drewN | apply Kd.R_drew)); exact HO212.out))) (Kd.R_lt (by (with_reducible repeat (first | apply Kd.R_alloc | apply Kd.R_drewN | apply Kd.R_drew)); exact HO215.out))) (Kd.R_lt (by (with_reducible repeat (first | apply Kd.R_alloc | apply Kd.R_drewN | apply Kd.R_drew)); exact HO218.out))) (Kd.R_lt (by (with_reducible repeat (first | apply Kd.R_alloc | apply Kd.R_drewN | apply Kd.R_drew)); exact HO221.out))) (below_size (by repeat (first | (with_reducible first | exact HB.out | apply below_alloc | apply pw_below_drewN | apply below_drew1 | refine below_set ?_ GE209.out) | exact HB.out)))); have n5_ := Aside0.mk (blk_below (g := gb209) (o := .cells #[.int .i64 a1_0, .int .i64 a1_1, .int .i64 a1_2, .int .i64 a1_3, .int .i64 a1_4, .int .i64 a1_5, .slice A1_6 l1_6.length c1_6, .slice A1_7 l1_7.length c1_7] 26 (0, 0)) (by (with_reducible repeat (first | refine blk_drewN ?_ _ | refine blk_drew ?_ | refine blk_alloc ?_ _)); exact BK209.out) hb); have n6_ := Aside0.mk (below_step (by repeat (first | (with_reducible first | exact HB.out | apply below_alloc | apply pw_below_drewN | apply below_drew1 | refine below_set ?_ GE209.out) | exact HB.out)) hb); clear HO212; clear HO215; clear HO218; clear HO221; clear BK209; clear HB; have HO212 := n0_; have HO215 := n1_; have HO218 := n2_; have HO221 := n3_; have HO224 := n4_; have BK209 := n5_; have HB := n6_; clear n0_ n1_ n2_ n3_ n4_ n5_ n6_; (try clear hb); (try clear hb2); (try clear hk); (try clear hi); (try clear ho0); have hcz26_0 : w25.cell? ⟨gb209, 0, none⟩ = some (.int .i64 a1_0) := (blk_cell BK209.out 0).trans rfl; have hcz26_1 : w25.cell? ⟨gb209, 1, none⟩ = some (.int .i64 a1_1) := (blk_cell BK209.out 1).trans rfl; have hcz26_2 : w25.cell? ⟨gb209, 2, none⟩ = some (.int .i64 a1_2) := (blk_cell BK209.out 2).trans rfl; have hcz26_3 : w25.cell? ⟨gb209, 3, none⟩ = some (.int .i64 a1_3) := (blk_cell BK209.out 3).trans rfl; have hcz26_4 : w25.cell? ⟨gb209, 4, none⟩ = some (.int .i64 a1_4) := (blk_cell BK209.out 4).trans rfl; have hcz26_5 : w25.cell? ⟨gb209, 5, none⟩ = some (.int .i64 a1_5) := (blk_cell BK209.out 5).trans rfl; have hcz26_6 : w25.cell? ⟨gb209, 6, none⟩ = some (.slice A1_6 l1_6.length c1_6) := (blk_cell BK209.out 6).trans rfl; have hcz26_7 : w25.cell? ⟨gb209, 7, none⟩ = some (.slice A1_7 l1_7.length c1_7) := (blk_cell BK209.out 7).trans rfl; have hfz26_0 := blk_frozen BK209.out 0; have hfz26_1 := blk_frozen BK209.out 1; have hfz26_2 := blk_frozen BK209.out 2; have hfz26_3 := blk_frozen BK209.out 3; have hfz26_4 := blk_frozen BK209.out 4; have hfz26_5 := blk_frozen BK209.out 5; have hfz26_6 := blk_frozen BK209.out 6; have hfz26_7 := blk_frozen BK209.out 7; obtain ⟨Ao27, co27, eo27⟩ := Kd.R_slice HO224.out; subst eo27) | ((with_reducible refine gate_callee (f := 46) rfl ?_); refine goesL_ (some 37) rfl rfl Try.func46 (by kernel_rfl) rfl #[.slice Ao27 t222.length co27, .slice A1_6 l1_6.length c1_6] rfl (by (try simp only [List.map_toArray, List.map_cons, List.map_nil]); first | done | rfl | (simp only [List.length_drop, List.length_take]; rfl)) ?_; (with_reducible refine (interleaveref11_putList.calls k _ _ t222 _ _ l1_6 t225 _ ?side1 ?side2 ?side3 ?side4 A9.out).mono ?_); (case side1 => repeat (first | exact (Kd.R_reads' HO224.out).2.2 | (with_reducible refine Kd.C_alloc ?_ _) | (with_reducible refine Kd.C_drewN ?_ _) | (with_reducible refine Kd.C_drew ?_))); (case side2 => exact (Kd.R_reads' HO224.out).2.1); (case side3 => repeat (first | exact (Kd.C_below HR1_6.out HB.out) | (with_reducible refine Kd.C_alloc ?_ _) | (with_reducible refine Kd.C_drewN ?_ _) | (with_reducible refine Kd.C_drew ?_))); (case side4 => exact HC1_6.out); rintro e w28 ⟨v226, rfl, ho0, hb⟩; refine ⟨_, rfl, ?_⟩; have n0_ := Aside0.mk (Kd.R_elder' (by (with_reducible repeat (first | apply Kd.R_alloc | apply Kd.R_drewN | apply Kd.R_drew)); exact HO212.out) (Kd.R_base ho0) hb); have n1_ := Aside0.mk (Kd.R_elder' (by (with_reducible repeat (first | apply Kd.R_alloc | apply Kd.R_drewN | apply Kd.R_drew)); exact HO215.out) (Kd.R_base ho0) hb); have n2_ := Aside0.mk (Kd.R_elder' (by (with_reducible repeat (first | apply Kd.R_alloc | apply Kd.R_drewN | apply Kd.R_drew)); exact HO218.out) (Kd.R_base ho0) hb); have n3_ := Aside0.mk (Kd.R_elder' (by (with_reducible repeat (first | apply Kd.R_alloc | apply Kd.R_drewN | apply Kd.R_drew)); exact HO221.out) (Kd.R_base ho0) hb); have n4_ := Aside0.mk (Kd.R_elder' (by (with_reducible repeat (first | apply Kd.R_alloc | apply Kd.R_drewN | apply Kd.R_drew)); exact HO224.out) (Kd.R_base ho0) hb); have n5_ := Aside0.mk (Kd.R_lower (Kd.R_new' (Kd.R_new' (Kd.R_new' (Kd.R_new' (Kd.R_new' ho0 (Kd.R_lt (by (with_reducible repeat (first | apply Kd.R_alloc | apply Kd.R_drewN | apply Kd.R_drew)); exact HO212.out))) (Kd.R_lt (by (with_reducible repeat (first | apply Kd.R_alloc | apply Kd.R_drewN | apply Kd.R_drew)); exact HO215.out))) (Kd.R_lt (by (with_reducible repeat (first | apply Kd.R_alloc | apply Kd.R_drewN | apply Kd.R_drew)); exact HO218.out))) (Kd.R_lt (by (with_reducible repeat (first | apply Kd.R_alloc | apply Kd.R_drewN | apply Kd.R_drew)); exact HO221.out))) (Kd.R_lt (by (with_reducible repeat (first | apply Kd.R_alloc | apply Kd.R_drewN | apply Kd.R_drew)); exact HO224.out))) (below_size (by repeat (first | (with_reducible first | exact HB.out | apply below_alloc | apply pw_below_drewN | apply below_drew1 | refine below_set ?_ GE209.out) | exact HB.out)))); have n6_ := Aside0.mk (blk_below (g := gb209) (o := .cells #[.int .i64 a1_0, .int .i64 a1_1, .int .i64 a1_2, .int .i64 a1_3, .int .i64 a1_4, .int .i64 a1_5, .slice A1_6 l1_6.length c1_6, .slice A1_7 l1_7.length c1_7] 26 (0, 0)) (by (with_reducible repeat (first | refine blk_drewN ?_ _ | refine blk_drew ?_ | refine blk_alloc ?_ _)); exact BK209.out) hb); have n7_ := Aside0.mk (below_step (by repeat (first | (with_reducible first | exact HB.out | apply below_alloc | apply pw_below_drewN | apply below_drew1 | refine below_set ?_ GE209.out) | exact HB.out)) hb); clear HO212; clear HO215; clear HO218; clear HO221; clear HO224; clear BK209; clear HB; have HO212 := n0_; have HO215 := n1_; have HO218 := n2_; have HO221 := n3_; have HO224 := n4_; have HO227 := n5_; have BK209 := n6_; have HB := n7_; clear n0_ n1_ n2_ n3_ n4_ n5_ n6_ n7_; (try clear hb); (try clear hb2); (try clear hk); (try clear hi); (try clear ho0); have hcz29_0 : w28.cell? ⟨gb209, 0, none⟩ = some (.int .i64 a1_0) := (blk_cell BK209.out 0).trans rfl; have hcz29_1 : w28.cell? ⟨gb209, 1, none⟩ = some (.int .i64 a1_1) := (blk_cell BK209.out 1).trans rfl; have hcz29_2 : w28.cell? ⟨gb209, 2, none⟩ = some (.int .i64 a1_2) := (blk_cell BK209.out 2).trans rfl; have hcz29_3 : w28.cell? ⟨gb209, 3, none⟩ = some (.int .i64 a1_3) := (blk_cell BK209.out 3).trans rfl; have hcz29_4 : w28.cell? ⟨gb209, 4, none⟩ = some (.int .i64 a1_4) := (blk_cell BK209.out 4).trans rfl; have hcz29_5 : w28.cell? ⟨gb209, 5, none⟩ = some (.int .i64 a1_5) := (blk_cell BK209.out 5).trans rfl; have hcz29_6 : w28.cell? ⟨gb209, 6, none⟩ = some (.slice A1_6 l1_6.length c1_6) := (blk_cell BK209.out 6).trans rfl; have hcz29_7 : w28.cell? ⟨gb209, 7, none⟩ = some (.slice A1_7 l1_7.length c1_7) := (blk_cell BK209.out 7).trans rfl; have hfz29_0 := blk_frozen BK209.out 0; have hfz29_1 := blk_frozen BK209.out 1; have hfz29_2 := blk_frozen BK209.out 2; have hfz29_3 := blk_frozen BK209.out 3; have hfz29_4 := blk_frozen BK209.out 4; have hfz29_5 := blk_frozen BK209.out 5; have hfz29_6 := blk_frozen BK209.out 6; have hfz29_7 := blk_frozen BK209.out 7; obtain ⟨Ao30, co30, eo30⟩ := Kd.R_slice HO227.out; subst eo30) | ((with_reducible refine gate_callee (f := 46) rfl ?_); refine goesL_ (some 42) rfl rfl Try.func46 (by kernel_rfl) rfl #[.slice Ao30 t225.length co30, .slice A1_7 l1_7.length c1_7] rfl (by (try simp only [List.map_toArray, List.map_cons, List.map_nil]); first | done | rfl | (simp only [List.length_drop, List.length_take]; rfl)) ?_; (with_reducible refine (interleaveref11_putList.calls k _ _ t225 _ _ l1_7 t228 _ ?side1 ?side2 ?side3 ?side4 A10.out).mono ?_); (case side1 => repeat (first | exact (Kd.R_reads' HO227.out).2.2 | (with_reducible refine Kd.C_alloc ?_ _) | (with_reducible refine Kd.C_drewN ?_ _) | (with_reducible refine Kd.C_drew ?_))); (case side2 => exact (Kd.R_reads' HO227.out).2.1); (case side3 => repeat (first | exact (Kd.C_below HR1_7.out HB.out) | (with_reducible refine Kd.C_alloc ?_ _) | (with_reducible refine Kd.C_drewN ?_ _) | (with_reducible refine Kd.C_drew ?_))); (case side4 => exact HC1_7.out); rintro e w31 ⟨v229, rfl, ho0, hb⟩; refine ⟨_, rfl, ?_⟩; have n0_ := Aside0.mk (Kd.R_elder' (by (with_reducible repeat (first | apply Kd.R_alloc | apply Kd.R_drewN | apply Kd.R_drew)); exact HO212.out) (Kd.R_base ho0) hb); have n1_ := Aside0.mk (Kd.R_elder' (by (with_reducible repeat (first | apply Kd.R_alloc | apply Kd.R_drewN | apply Kd.R_drew)); exact HO215.out) (Kd.R_base ho0) hb); have n2_ := Aside0.mk (Kd.R_elder' (by (with_reducible repeat (first | apply Kd.R_alloc | apply Kd.R_drewN | apply Kd.R_drew)); exact HO218.out) (Kd.R_base ho0) hb); have n3_ := Aside0.mk (Kd.R_elder' (by (with_reducible repeat (first | apply Kd.R_alloc | apply Kd.R_drewN | apply Kd.R_drew)); exact HO221.out) (Kd.R_base ho0) hb); have n4_ := Aside0.mk (Kd.R_elder' (by (with_reducible repeat (first | apply Kd.R_alloc | apply Kd.R_drewN | apply Kd.R_drew)); exact HO224.out) (Kd.R_base ho0) hb); have n5_ := Aside0.mk (Kd.R_elder' (by (with_reducible repeat (first | apply Kd.R_alloc | apply Kd.R_drewN | apply Kd.R_drew)); exact HO227.out) (Kd.R_base ho0) hb); have n6_ := Aside0.mk (Kd.R_lower (Kd.R_new' (Kd.R_new' (Kd.R_new' (Kd.R_new' (Kd.R_new' (Kd.R_new' ho0 (Kd.R_lt (by (with_reducible repeat (first | apply Kd.R_alloc | apply Kd.R_drewN | apply Kd.R_drew)); exact HO212.out))) (Kd.R_lt (by (with_reducible repeat (first | apply Kd.R_alloc | apply Kd.R_drewN | apply Kd.R_drew)); exact HO215.out))) (Kd.R_lt (by (with_reducible repeat (first | apply Kd.R_alloc | apply Kd.R_drewN | apply Kd.R_drew)); exact HO218.out))) (Kd.R_lt (by (with_reducible repeat (first | apply Kd.R_alloc | apply Kd.R_drewN | apply Kd.R_drew)); exact HO221.out))) (Kd.R_lt (by (with_reducible repeat (first | apply Kd.R_alloc | apply Kd.R_drewN | apply Kd.R_drew)); exact HO224.out))) (Kd.R_lt (by (with_reducible repeat (first | apply Kd.R_alloc | apply Kd.R_drewN | apply Kd.R_drew)); exact HO227.out))) (below_size (by repeat (first | (with_reducible first | exact HB.out | apply below_alloc | apply pw_below_drewN | apply below_drew1 | refine below_set ?_ GE209.out) | exact HB.out)))); have n7_ := Aside0.mk (blk_below (g := gb209) (o := .cells #[.int .i64 a1_0, .int .i64 a1_1, .int .i64 a1_2, .int .i64 a1_3, .int .i64 a1_4, .int .i64 a1_5, .slice A1_6 l1_6.length c1_6, .slice A1_7 l1_7.length c1_7] 26 (0, 0)) (by (with_reducible repeat (first | refine blk_drewN ?_ _ | refine blk_drew ?_ | refine blk_alloc ?_ _)); exact BK209.out) hb); have n8_ := Aside0.mk (below_step (by repeat (first | (with_reducible first | exact HB.out | apply below_alloc | apply pw_below_drewN | apply below_drew1 | refine below_set ?_ GE209.out) | exact HB.out)) hb); clear HO212; clear HO215; clear HO218; clear HO221; clear HO224; clear HO227; clear BK209; clear HB; have HO212 := n0_; have HO215 := n1_; have HO218 := n2_; have HO221 := n3_; have HO224 := n4_; have HO227 := n5_; have HO230 := n6_; have BK209 := n7_; have HB := n8_; clear n0_ n1_ n2_ n3_ n4_ n5_ n6_ n7_ n8_; (try clear hb); (try clear hb2); (try clear hk); (try clear hi); (try clear ho0)))
  go_ret
  exact ⟨_, by first | rfl | (simp [errW_none, errW_some] <;> rfl) | (simp [*, errW_none, errW_some] <;> rfl), by (with_reducible repeat (first | apply Kd.R_alloc | apply Kd.R_drewN | apply Kd.R_drew)); exact Kd.R_mono HO230.out (fun _ hk => trivial), by repeat (first | (with_reducible first | exact HB.out | apply below_alloc | apply pw_below_drewN | apply below_drew1 | refine below_set ?_ GE209.out) | exact HB.out)⟩
end Go.Proofs.Ytnmmkgagbfniiaa.A
end
section
namespace Go.Proofs.Ytnmmkgagbfniiaa.Pl
open Go.RowKit Go.Proofs.YtnmmkgagbfniiaaW.PrintWords Go.Proofs.YtnmmkgagbfniiaaW.PrintMore Go.Proofs.Ytnmmkgagbfniiaa.A
set_option linter.unusedVariables false
def I64 (a : Int) : Prop := -9223372036854775808 ≤ a ∧ a < 9223372036854775808
theorem wrap64_I64 (x : Int) : I64 (wrap64 x) := by unfold I64 wrap64; omega
def encDiffs : Int → List Int → List Int
  | _, [] => []
  | last, n :: t => enc (wrap64 (n - last)) ++ encDiffs n t
def encL (l : List Int) : List Int := enc (l.length : Int) ++ encDiffs 0 l
def encR (d kind obj val site : Int) (deps frm : List Int) : List Int := enc d ++ (enc kind ++ (enc obj ++ (enc val ++ (enc site ++ (encL deps ++ encL frm)))))
theorem enc_le {a : Int} (h : I64 a) : (enc a).length ≤ 10 := (enc_len h.1 h.2).2
theorem encDiffs_len : ∀ (l : List Int) (last : Int), (encDiffs last l).length ≤ 10 * l.length
  | [], _ => by simp [encDiffs]
  | n :: t, last => by
    have h1 := enc_le (wrap64_I64 (n - last))
    have h2 := encDiffs_len t n
    simp only [encDiffs, List.length_append, List.length_cons]
    omega
theorem encL_len (l : List Int) (hl : l.length ≤ 400) : (encL l).length ≤ 10 * l.length + 10 := by
  have h1 := encDiffs_len l 0
  have h2 := enc_le (a := (l.length : Int)) ⟨by omega, by omega⟩
  unfold encL
  rw [List.length_append]
  omega
theorem encR_len (d kind obj val site : Int) (deps frm : List Int) (h0 : I64 d) (h1 : I64 kind) (h2 : I64 obj) (h3 : I64 val) (h4 : I64 site) (h5 : deps.length ≤ 400) (h6 : frm.length ≤ 400) : (encR d kind obj val site deps frm).length ≤ 10 * (deps.length + frm.length) + 70 := by
  have a0 := enc_le h0
  have a1 := enc_le h1
  have a2 := enc_le h2
  have a3 := enc_le h3
  have a4 := enc_le h4
  have a5 := encL_len deps h5
  have a6 := encL_len frm h6
  unfold encR
  simp only [List.length_append]
  omega
theorem appendList_loop (l : List Int) (hl : l.length ≤ 140737488355328) : ∀ (d i : Nat) (x : List Int) (last : Int), i + d = l.length → x.length + 10 * d ≤ 140737488355318 →
    Ev (fun k => event_appendList.l0 k x last l (l.length : Int) (i : Int)) (x ++ encDiffs last (l.drop i)) := by
  intro d
  induction d with
  | zero =>
    intro i x last hi hx
    refine Ev.step (f := fun _ => some _) (fun k => ?_) (Ev.now _)
    simp only [event_appendList.l0]
    rw [if_neg (by omega), List.drop_of_length_le (by omega)]
    simp [encDiffs]
  | succ d ih =>
    intro i x last hi hx
    have hlt : i < l.length := by omega
    have hw := wrap64_I64 (l[i] - last)
    refine Ev.step (f := fun k => (event_appendInt.f k x (wrap64 (l[i] - last))).bind fun t => event_appendList.l0 k t l[i] l (l.length : Int) ((i + 1 : Nat) : Int)) (fun k => ?_) ?_
    · simp only [event_appendList.l0]
      rw [if_pos (by omega), if_pos (by omega), if_pos (by omega), rd_at hlt, wrap64_id (x := (i : Int) + 1) (by omega) (by omega)]
      rfl
    · refine Ev.bind (appendInt_f hw.1 hw.2 x (by omega)) ?_
      have h10 := enc_le hw
      have := ih (i + 1) (x ++ enc (wrap64 (l[i] - last))) l[i] (by omega) (by rw [List.length_append]; omega)
      rw [List.drop_eq_getElem_cons hlt]
      simpa [encDiffs] using this
theorem appendList_f (l x : List Int) (hl : l.length ≤ 400) (hx : x.length ≤ 140737488300000) : Ev (fun k => event_appendList.f k x l) (x ++ encL l) := by
  have h10 := enc_le (a := (l.length : Int)) ⟨by omega, by omega⟩
  refine Ev.bind (appendInt_f (a := (l.length : Int)) (by omega) (by omega) x (by omega)) ?_
  have := appendList_loop l (by omega) l.length 0 (x ++ enc (l.length : Int)) 0 (by omega) (by rw [List.length_append]; omega)
  simpa [encL] using this
theorem putList_loop (l : List Int) (hl : l.length ≤ 140737488355328) : ∀ (d i : Nat) (x : List Int) (last : Int), i + d = l.length → x.length + 10 * d ≤ 140737488355318 →
    Ev (fun k => interleaveref11_putList.l0 k x l last (i : Int)) (x ++ encDiffs last (l.drop i)) := by
  intro d
  induction d with
  | zero =>
    intro i x last hi hx
    refine Ev.step (f := fun _ => some _) (fun k => ?_) (Ev.now _)
    simp only [interleaveref11_putList.l0]
    rw [if_neg (by omega), List.drop_of_length_le (by omega)]
    simp [encDiffs]
  | succ d ih =>
    intro i x last hi hx
    have hlt : i < l.length := by omega
    have hw := wrap64_I64 (l[i] - last)
    refine Ev.step (f := fun k => (interleaveref11_PutInt.f k x (wrap64 (l[i] - last))).bind fun t => interleaveref11_putList.l0 k t l l[i] ((i + 1 : Nat) : Int)) (fun k => ?_) ?_
    · simp only [interleaveref11_putList.l0]
      rw [if_pos (by omega), if_pos (by omega), rd_at hlt, wrap64_id (x := (i : Int) + 1) (by omega) (by omega)]
      rfl
    · refine Ev.bind (refPutInt_f hw.1 hw.2 x (by omega)) ?_
      have h10 := enc_le hw
      have := ih (i + 1) (x ++ enc (wrap64 (l[i] - last))) l[i] (by omega) (by rw [List.length_append]; omega)
      rw [List.drop_eq_getElem_cons hlt]
      simpa [encDiffs] using this
theorem putList_f (l x : List Int) (hl : l.length ≤ 400) (hx : x.length ≤ 140737488300000) : Ev (fun k => interleaveref11_putList.f k x l) (x ++ encL l) := by
  have h10 := enc_le (a := (l.length : Int)) ⟨by omega, by omega⟩
  refine Ev.bind (refPutInt_f (a := (l.length : Int)) (by omega) (by omega) x (by omega)) ?_
  have := putList_loop l (by omega) l.length 0 (x ++ enc (l.length : Int)) 0 (by omega) (by rw [List.length_append]; omega)
  simpa [encL] using this
theorem append_f (x : List Int) (seq thread kind obj val site : Int) (deps frm : List Int) (q : Int) (hx : x.length ≤ 140737488200000) (h1 : I64 kind) (h2 : I64 obj) (h3 : I64 val) (h4 : I64 site) (h5 : deps.length ≤ 400) (h6 : frm.length ≤ 400) :
    Ev (fun k => event_Append.f k x seq thread kind obj val site deps frm q) (x ++ encR (wrap64 (seq - q)) kind obj val site deps frm) := by
  have hw := wrap64_I64 (seq - q)
  have a0 := enc_le hw
  have a1 := enc_le h1
  have a2 := enc_le h2
  have a3 := enc_le h3
  have a4 := enc_le h4
  have a5 := encL_len deps h5
  refine Ev.bind (appendInt_f hw.1 hw.2 x (by omega)) ?_
  refine Ev.bind (appendInt_f h1.1 h1.2 _ (by rw [List.length_append]; omega)) ?_
  refine Ev.bind (appendInt_f h2.1 h2.2 _ (by simp only [List.length_append]; omega)) ?_
  refine Ev.bind (appendInt_f h3.1 h3.2 _ (by simp only [List.length_append]; omega)) ?_
  refine Ev.bind (appendInt_f h4.1 h4.2 _ (by simp only [List.length_append]; omega)) ?_
  refine Ev.bind (appendList_f deps _ h5 (by simp only [List.length_append]; omega)) ?_
  have := appendList_f frm (x ++ enc (wrap64 (seq - q)) ++ enc kind ++ enc obj ++ enc val ++ enc site ++ encL deps) h6 (by simp only [List.length_append]; omega)
  simpa [encR, List.append_assoc] using this
theorem refAppend_f (x : List Int) (seq thread kind obj val site : Int) (deps frm : List Int) (q : Int) (hx : x.length ≤ 140737488200000) (h1 : I64 kind) (h2 : I64 obj) (h3 : I64 val) (h4 : I64 site) (h5 : deps.length ≤ 400) (h6 : frm.length ≤ 400) :
    Ev (fun k => interleaveref11_Append.f k x seq thread kind obj val site deps frm q) (x ++ encR (wrap64 (seq - q)) kind obj val site deps frm) := by
  have hw := wrap64_I64 (seq - q)
  have a0 := enc_le hw
  have a1 := enc_le h1
  have a2 := enc_le h2
  have a3 := enc_le h3
  have a4 := enc_le h4
  have a5 := encL_len deps h5
  refine Ev.bind (refPutInt_f hw.1 hw.2 x (by omega)) ?_
  refine Ev.bind (refPutInt_f h1.1 h1.2 _ (by rw [List.length_append]; omega)) ?_
  refine Ev.bind (refPutInt_f h2.1 h2.2 _ (by simp only [List.length_append]; omega)) ?_
  refine Ev.bind (refPutInt_f h3.1 h3.2 _ (by simp only [List.length_append]; omega)) ?_
  refine Ev.bind (refPutInt_f h4.1 h4.2 _ (by simp only [List.length_append]; omega)) ?_
  refine Ev.bind (putList_f deps _ h5 (by simp only [List.length_append]; omega)) ?_
  have := putList_f frm (x ++ enc (wrap64 (seq - q)) ++ enc kind ++ enc obj ++ enc val ++ enc site ++ encL deps) h6 (by simp only [List.length_append]; omega)
  refine Ev.bind this ?_
  simpa [encR, List.append_assoc] using Ev.now (x ++ encR (wrap64 (seq - q)) kind obj val site deps frm)
end Go.Proofs.Ytnmmkgagbfniiaa.Pl
end
section
namespace Go.Proofs.Ytnmmkgagbfniiaa.Pl
open Go.RowKit Go.Proofs.YtnmmkgagbfniiaaW.PrintWords Go.Proofs.YtnmmkgagbfniiaaW.PrintMore Go.Proofs.Ytnmmkgagbfniiaa.A
set_option linter.unusedVariables false
theorem nx_zero {l : List Int} {at_ : Nat} {e : Int} (h : (nx l at_ e).2.2 = 0) : e = 0 := by
  unfold nx at h
  by_cases c : e = 0
  · exact c
  · rw [if_neg c] at h
    exact h
theorem nx_once {l : List Int} (hx : ∀ c ∈ l, 0 ≤ c ∧ c < 256) {at_ : Nat} (hat : at_ ≤ l.length) {e : Int} (h : (nx l at_ e).2.2 = 0) :
    e = 0 ∧ I64 (nx l at_ e).1 ∧ l.take (nx l at_ e).2.1 = l.take at_ ++ enc (nx l at_ e).1 := by
  have he := nx_zero h
  unfold nx at h ⊢
  rw [if_pos he] at h ⊢
  dsimp only at h ⊢
  obtain ⟨h1, h2, rest, h3, h4⟩ := dec_once (l := l.drop at_) (n := (dec 10 0 (l.drop at_)).1) (s := (dec 10 0 (l.drop at_)).2.1) (fun z hz => hx z (List.mem_of_mem_drop hz)) (Prod.ext rfl (Prod.ext rfl h))
  refine ⟨he, ⟨h1, h2⟩, ?_⟩
  rw [h4, Int.toNat_natCast, List.take_add]
  congr 1
  generalize (dec 10 0 (l.drop at_)).1 = n at h3
  rw [h3, List.take_left]
theorem wrap_back {last d : Int} (hd : I64 d) : wrap64 (wrap64 (last + d) - last) = d := by
  unfold I64 at hd
  unfold wrap64
  omega
theorem ls_once {l : List Int} (hx : ∀ c ∈ l, 0 ≤ c ∧ c < 256) : ∀ m (last : Int) (acc : List Int) (at_ : Nat) (e : Int), at_ ≤ l.length → (ls l m last acc at_ e).2.2 = 0 →
    e = 0 ∧ ∃ ys, (ls l m last acc at_ e).1 = acc ++ ys ∧ ys.length = m ∧ l.take (ls l m last acc at_ e).2.1 = l.take at_ ++ encDiffs last ys := by
  intro m
  induction m with
  | zero =>
    intro last acc at_ e hat h
    exact ⟨h, [], by simp [ls], rfl, by simp [ls, encDiffs]⟩
  | succ m ih =>
    intro last acc at_ e hat h
    by_cases c : e = 0
    · rw [ls, if_pos c] at h ⊢
      obtain ⟨h1, ys, h2, h3, h4⟩ := ih _ _ _ _ (nx_le hat) h
      obtain ⟨_, h5, h6⟩ := nx_once hx hat h1
      refine ⟨c, wrap64 (last + (nx l at_ e).1) :: ys, by rw [h2, List.append_assoc]; rfl, by rw [List.length_cons, h3], ?_⟩
      rw [h4, h6, encDiffs, wrap_back h5, List.append_assoc]
    · rw [ls_err l c] at h
      exact absurd h c
theorem li_once {l : List Int} (hx : ∀ c ∈ l, 0 ≤ c ∧ c < 256) {at_ : Nat} (hat : at_ ≤ l.length) {e : Int} (h : (li l at_ e).2.2 = 0) :
    e = 0 ∧ l.take (li l at_ e).2.1 = l.take at_ ++ encL (li l at_ e).1 := by
  unfold li at h ⊢
  dsimp only at h ⊢
  by_cases c : (nx l at_ e).2.2 = 0
  · rw [if_pos c] at h ⊢
    obtain ⟨h1, h2, h3⟩ := nx_once hx hat c
    by_cases c1 : (nx l at_ e).1 < 0 ∨ (nx l at_ e).1 > 400
    · rw [if_pos c1] at h
      exact absurd h (by simp)
    · rw [if_neg c1] at h ⊢
      obtain ⟨_, ys, h4, h5, h6⟩ := ls_once hx _ _ _ _ _ (nx_le hat) h
      refine ⟨h1, ?_⟩
      rw [h6, h4, List.nil_append, h3]
      unfold encL
      rw [List.append_assoc, show (ys.length : Int) = (nx l at_ e).1 by omega]
  · rw [if_neg c] at h
    exact absurd h c
end Go.Proofs.Ytnmmkgagbfniiaa.Pl
end
section
namespace Go.Proofs.Ytnmmkgagbfniiaa.Pl
open Go.RowKit Go.Proofs.YtnmmkgagbfniiaaW.PrintWords Go.Proofs.YtnmmkgagbfniiaaW.PrintMore Go.Proofs.Ytnmmkgagbfniiaa.A
set_option linter.unusedVariables false
theorem once_take {l : List Int} (hx : ∀ c ∈ l, 0 ≤ c ∧ c < 256) (h : (r6 l).2.2 = 0) :
    I64 (r0 l).1 ∧ I64 (r1 l).1 ∧ I64 (r2 l).1 ∧ I64 (r3 l).1 ∧ I64 (r4 l).1 ∧ l.take (r6 l).2.1 = encR (r0 l).1 (r1 l).1 (r2 l).1 (r3 l).1 (r4 l).1 (r5 l).1 (r6 l).1 := by
  obtain ⟨h0, h1, h2, h3, h4, h5, h6⟩ := r_le l
  obtain ⟨e6, t6⟩ := li_once hx h5 h
  obtain ⟨e5, t5⟩ := li_once hx h4 e6
  obtain ⟨e4, i4, t4⟩ := nx_once hx h3 e5
  obtain ⟨e3, i3, t3⟩ := nx_once hx h2 e4
  obtain ⟨e2, i2, t2⟩ := nx_once hx h1 e3
  obtain ⟨e1, i1, t1⟩ := nx_once hx h0 e2
  obtain ⟨e0, i0, t0⟩ := nx_once hx (Nat.zero_le _) e1
  refine ⟨i0, i1, i2, i3, i4, ?_⟩
  have t0' : l.take (r0 l).2.1 = enc (r0 l).1 := t0
  have t1' : l.take (r1 l).2.1 = l.take (r0 l).2.1 ++ enc (r1 l).1 := t1
  have t2' : l.take (r2 l).2.1 = l.take (r1 l).2.1 ++ enc (r2 l).1 := t2
  have t3' : l.take (r3 l).2.1 = l.take (r2 l).2.1 ++ enc (r3 l).1 := t3
  have t4' : l.take (r4 l).2.1 = l.take (r3 l).2.1 ++ enc (r4 l).1 := t4
  have t5' : l.take (r5 l).2.1 = l.take (r4 l).2.1 ++ encL (r5 l).1 := t5
  have t6' : l.take (r6 l).2.1 = l.take (r5 l).2.1 ++ encL (r6 l).1 := t6
  rw [t6', t5', t4', t3', t2', t1', t0']
  unfold encR
  simp only [List.append_assoc]
end Go.Proofs.Ytnmmkgagbfniiaa.Pl
end
section
namespace Go.Proofs.Ytnmmkgagbfniiaa.A
open Go.RowKit Go.Proofs.YtnmmkgagbfniiaaW.PrintWords Go.Proofs.YtnmmkgagbfniiaaW.PrintLast Go.Proofs.YtnmmkgagbfniiaaW.PrintMore
attribute [local go_sem] max2_int min2_int max_two min_two max_three min_three max_four min_four
set_option linter.unusedVariables false
set_option linter.unusedSimpArgs false
def interleavelaw11_awake.f (k : Nat)  : Option (Bool) := (event_PutInt.f k ([] : List Int) 64).bind fun t246 => (if (t246.length : Int) = 2 then (if 0 < (t246.length : Int) then (if (rd t246 0) = 128 then (if 1 < (t246.length : Int) then (some ((rd t246 1) == 1)) else (none)) else (some false)) else (none)) else (some false))
theorem interleavelaw11_awake.mono : ∀ k, LeO (interleavelaw11_awake.f k ) (interleavelaw11_awake.f (k + 1) ) := by
  intro  k
  unfold interleavelaw11_awake.f
  repeat' first
      | (with_reducible exact event_PutInt.mono _ _ _)
      | (with_reducible exact LeO.refl _)
      | (with_reducible exact LeO.none _)
      | (with_reducible refine LeO.ite ?_ ?_)
      | (with_reducible refine LeO.bind ?_ (fun _ => ?_))
      | exact event_PutInt.mono _ _ _
      | exact LeO.none _
      | refine LeO.ite ?_ ?_
      | refine LeO.bind ?_ (fun _ => ?_)
set_option maxHeartbeats 8000000 in
set_option maxRecDepth 100000 in
theorem interleavelaw11_awake.calls (k : Nat)  (r : Bool) (w : World) (h : interleavelaw11_awake.f k  = some r) :
    Calls Try.prog 19 #[] w fun e w' => e = .returned (.bool r) ∧ Below w.heap.size w w' := by
  have HB := Aside0.mk (Below.refl w.heap.size w)
  have H : ((event_PutInt.f k ([] : List Int) 64).bind fun t246 => (if (t246.length : Int) = 2 then (if 0 < (t246.length : Int) then (if (rd t246 0) = 128 then (if 1 < (t246.length : Int) then (some ((rd t246 1) == 1)) else (none)) else (some false)) else (none)) else (some false))) = some r := h
  clear h
  replace H := Option.bind_eq_some_iff.mp H
  obtain ⟨t246, A10, H⟩ := H
  replace H : (if (t246.length : Int) = 2 then (if 0 < (t246.length : Int) then (if (rd t246 0) = 128 then (if 1 < (t246.length : Int) then (some ((rd t246 1) == 1)) else (none)) else (some false)) else (none)) else (some false)) = some r := H
  have A1 := Aside0.mk A10
  clear A10
  by_cases c2 : (t246.length : Int) = 2
  · rw [if_pos c2] at H
    have c2b0 : ((t246.length : Int) == 2) = true := beq_iff_eq.mpr c2
    have c2b1 : ((t246.length : Int) != 2) = false := bne_eq_false_iff_eq.mpr c2
    clear c2
    by_cases c3 : 0 < (t246.length : Int)
    · rw [if_pos c3] at H
      have c3b0 : decide (0 < (t246.length : Int)) = true := decide_eq_true c3
      have c3b1 : decide (0 < t246.length) = true := decide_eq_true (by omega)
      clear c3
      by_cases c4 : (rd t246 0) = 128
      · rw [if_pos c4] at H
        have c4b0 : ((rd t246 0) == 128) = true := beq_iff_eq.mpr c4
        have c4b1 : ((rd t246 0) != 128) = false := bne_eq_false_iff_eq.mpr c4
        clear c4
        by_cases c5 : 1 < (t246.length : Int)
        · rw [if_pos c5] at H
          have c5b0 : decide (1 < (t246.length : Int)) = true := decide_eq_true c5
          have c5b1 : decide (1 < t246.length) = true := decide_eq_true (by omega)
          clear c5
          obtain rfl := Option.some.inj H
          go_enter Try.func19, Try.ntmps19
          go_wp2_with (first | ((with_reducible refine gate_callee (f := 49) rfl ?_); refine goesL_ (some 2) rfl rfl Try.func49 (by kernel_rfl) rfl #[.slice none 0 0, .int .i64 64] rfl (by (try simp only [List.map_toArray, List.map_cons, List.map_nil]); first | done | rfl | (simp only [List.length_drop, List.length_take]; rfl)) ?_; (refine (event_PutInt.calls k _ _ ([] : List Int) 64 t246 _ ?side1 ?side2 A1.out).mono ?_); (case side1 => exact Kd.C_nil _ _); (case side2 => exact Nat.le_refl _); rintro e w6 ⟨v247, rfl, ho0, hb⟩; refine ⟨_, rfl, ?_⟩; have n0_ := Aside0.mk (Kd.R_lower ho0 (below_size (by repeat (first | (with_reducible first | exact HB.out | apply below_alloc | apply pw_below_drewN | apply below_drew1) | exact HB.out)))); have n1_ := Aside0.mk (below_step (by repeat (first | (with_reducible first | exact HB.out | apply below_alloc | apply pw_below_drewN | apply below_drew1) | exact HB.out)) hb); clear HB; have HO248 := n0_; have HB := n1_; clear n0_ n1_; (try clear hb); (try clear hb2); (try clear hk); (try clear hi); (try clear ho0); obtain ⟨Ao7, co7, eo7⟩ := Kd.R_slice HO248.out; subst eo7; have p249 : 0 ≤ (0 : Int) := (by omega); have q249 : 0 < (t246.length : Int) := of_decide_eq_true (by first | (with_reducible assumption) | assumption); obtain ⟨ad249, e249, hx249_0⟩ := Kd.at_int (Kd.R_reads' HO248.out).2.2 0 p249 q249; cases e249; have qi249 : (0 < t246.length) = True := eq_true (by omega); (try rw [show ((0 : Int)).toNat = 0 from rfl] at hx249_0); (try rw [Addr.add_zero'] at hx249_0); replace p249 := eq_true p249; replace q249 := eq_true q249; have p250 : 0 ≤ (1 : Int) := (by omega); have q250 : 1 < (t246.length : Int) := of_decide_eq_true (by first | (with_reducible assumption) | assumption); obtain ⟨ad250, e250, hx250_0⟩ := Kd.at_int (Kd.R_reads' HO248.out).2.2 1 p250 q250; obtain rfl : ad249 = ad250 := (by injection e250); (try simp only [show (1 : Int).toNat = 1 from rfl, Nat.reduceMul, Nat.reduceEqDiff, Go.Addr.add, ↓reduceIte] at hx250_0); have qi250 : (1 < t246.length) = True := eq_true (by omega); (try rw [show ((1 : Int)).toNat = 1 from rfl] at hx250_0); replace p250 := eq_true p250; replace q250 := eq_true q250))
          go_ret
          exact ⟨by first | rfl | (simp [errW_none, errW_some] <;> rfl) | (simp [*, errW_none, errW_some] <;> rfl), by repeat (first | (with_reducible first | exact HB.out | apply below_alloc | apply pw_below_drewN | apply below_drew1) | exact HB.out)⟩
        · rw [if_neg c5] at H
          exact absurd H (by simp)
      · rw [if_neg c4] at H
        have c4b0 : ((rd t246 0) == 128) = false := beq_eq_false_iff_ne.mpr c4
        have c4b1 : ((rd t246 0) != 128) = true := bne_iff_ne.mpr c4
        obtain rfl := Option.some.inj H
        go_enter Try.func19, Try.ntmps19
        go_wp2_with (first | ((with_reducible refine gate_callee (f := 49) rfl ?_); refine goesL_ (some 2) rfl rfl Try.func49 (by kernel_rfl) rfl #[.slice none 0 0, .int .i64 64] rfl (by (try simp only [List.map_toArray, List.map_cons, List.map_nil]); first | done | rfl | (simp only [List.length_drop, List.length_take]; rfl)) ?_; (refine (event_PutInt.calls k _ _ ([] : List Int) 64 t246 _ ?side1 ?side2 A1.out).mono ?_); (case side1 => exact Kd.C_nil _ _); (case side2 => exact Nat.le_refl _); rintro e w8 ⟨v247, rfl, ho0, hb⟩; refine ⟨_, rfl, ?_⟩; have n0_ := Aside0.mk (Kd.R_lower ho0 (below_size (by repeat (first | (with_reducible first | exact HB.out | apply below_alloc | apply pw_below_drewN | apply below_drew1) | exact HB.out)))); have n1_ := Aside0.mk (below_step (by repeat (first | (with_reducible first | exact HB.out | apply below_alloc | apply pw_below_drewN | apply below_drew1) | exact HB.out)) hb); clear HB; have HO248 := n0_; have HB := n1_; clear n0_ n1_; (try clear hb); (try clear hb2); (try clear hk); (try clear hi); (try clear ho0); obtain ⟨Ao9, co9, eo9⟩ := Kd.R_slice HO248.out; subst eo9; have p249 : 0 ≤ (0 : Int) := (by omega); have q249 : 0 < (t246.length : Int) := of_decide_eq_true (by first | (with_reducible assumption) | assumption); obtain ⟨ad249, e249, hx249_0⟩ := Kd.at_int (Kd.R_reads' HO248.out).2.2 0 p249 q249; cases e249; have qi249 : (0 < t246.length) = True := eq_true (by omega); (try rw [show ((0 : Int)).toNat = 0 from rfl] at hx249_0); (try rw [Addr.add_zero'] at hx249_0); replace p249 := eq_true p249; replace q249 := eq_true q249))
        go_ret
        exact ⟨by first | rfl | (simp [errW_none, errW_some] <;> rfl) | (simp [*, errW_none, errW_some] <;> rfl), by repeat (first | (with_reducible first | exact HB.out | apply below_alloc | apply pw_below_drewN | apply below_drew1) | exact HB.out)⟩
    · rw [if_neg c3] at H
      exact absurd H (by simp)
  · rw [if_neg c2] at H
    have c2b0 : ((t246.length : Int) == 2) = false := beq_eq_false_iff_ne.mpr c2
    have c2b1 : ((t246.length : Int) != 2) = true := bne_iff_ne.mpr c2
    obtain rfl := Option.some.inj H
    go_enter Try.func19, Try.ntmps19
    go_wp2_with (first | ((with_reducible refine gate_callee (f := 49) rfl ?_); refine goesL_ (some 2) rfl rfl Try.func49 (by kernel_rfl) rfl #[.slice none 0 0, .int .i64 64] rfl (by (try simp only [List.map_toArray, List.map_cons, List.map_nil]); first | done | rfl | (simp only [List.length_drop, List.length_take]; rfl)) ?_; (refine (event_PutInt.calls k _ _ ([] : List Int) 64 t246 _ ?side1 ?side2 A1.out).mono ?_); (case side1 => exact Kd.C_nil _ _); (case side2 => exact Nat.le_refl _); rintro e w10 ⟨v247, rfl, ho0, hb⟩; refine ⟨_, rfl, ?_⟩; have n0_ := Aside0.mk (Kd.R_lower ho0 (below_size (by repeat (first | (with_reducible first | exact HB.out | apply below_alloc | apply pw_below_drewN | apply below_drew1) | exact HB.out)))); have n1_ := Aside0.mk (below_step (by repeat (first | (with_reducible first | exact HB.out | apply below_alloc | apply pw_below_drewN | apply below_drew1) | exact HB.out)) hb); clear HB; have HO248 := n0_; have HB := n1_; clear n0_ n1_; (try clear hb); (try clear hb2); (try clear hk); (try clear hi); (try clear ho0); obtain ⟨Ao11, co11, eo11⟩ := Kd.R_slice HO248.out; subst eo11))
    go_ret
    exact ⟨by first | rfl | (simp [errW_none, errW_some] <;> rfl) | (simp [*, errW_none, errW_some] <;> rfl), by repeat (first | (with_reducible first | exact HB.out | apply below_alloc | apply pw_below_drewN | apply below_drew1) | exact HB.out)⟩
end Go.Proofs.Ytnmmkgagbfniiaa.A
end
section
namespace Go.Proofs.Ytnmmkgagbfniiaa.Pl
open Go.RowKit Go.Proofs.YtnmmkgagbfniiaaW.PrintWords Go.Proofs.YtnmmkgagbfniiaaW.PrintMore Go.Proofs.Ytnmmkgagbfniiaa.A
theorem enc64 : enc 64 = [128, 1] := by
  unfold enc
  rw [show (zz 64).toNat = 128 from rfl, encN_big (by omega), encN_small (by omega)]
  rfl
theorem event_awake : Ev (fun k => interleavelaw11_awake.f k) true := by
  have h := putInt_f (a := 64) (by omega) (by omega) [] (by simp)
  rw [enc64] at h
  exact Ev.bind h ⟨0, fun k _ => by simp [rd]⟩
end Go.Proofs.Ytnmmkgagbfniiaa.Pl
end
section
namespace Go.Proofs.Ytnmmkgagbfniiaa.A
open Go.RowKit Go.Proofs.YtnmmkgagbfniiaaW.PrintWords Go.Proofs.YtnmmkgagbfniiaaW.PrintLast Go.Proofs.YtnmmkgagbfniiaaW.PrintMore
attribute [local go_sem] max2_int min2_int max_two min_two max_three min_three max_four min_four
set_option linter.unusedVariables false
set_option linter.unusedSimpArgs false
def interleavelaw11_long.f (a0_0 : Int) (a0_1 : Int) (a0_2 : Int) (a0_3 : Int) (a0_4 : Int) (a0_5 : Int) (l0_6 : List Int) (l0_7 : List Int) : Option (Bool) := if (l0_6.length : Int) > 400 then (some true) else (some (decide ((l0_7.length : Int) > 400)))
set_option maxHeartbeats 8000000 in
set_option maxRecDepth 100000 in
theorem interleavelaw11_long.calls (a0_0 : Int) (a0_1 : Int) (a0_2 : Int) (a0_3 : Int) (a0_4 : Int) (a0_5 : Int) (A0_6 : Option Addr) (c0_6 : Nat) (l0_6 : List Int) (A0_7 : Option Addr) (c0_7 : Nat) (l0_7 : List Int) (r : Bool) (w : World) (hr0_6 : Kd.C (Kd.int .i64) w A0_6 l0_6.length l0_6) (hc0_6 : l0_6.length ≤ c0_6) (hr0_7 : Kd.C (Kd.int .i64) w A0_7 l0_7.length l0_7) (hc0_7 : l0_7.length ≤ c0_7) (h : interleavelaw11_long.f a0_0 a0_1 a0_2 a0_3 a0_4 a0_5 l0_6 l0_7 = some r) :
    Calls Try.prog 11 #[.agg #[.int .i64 a0_0, .int .i64 a0_1, .int .i64 a0_2, .int .i64 a0_3, .int .i64 a0_4, .int .i64 a0_5, .slice A0_6 l0_6.length c0_6, .slice A0_7 l0_7.length c0_7]] w fun e w' => e = .returned (.bool r) ∧ Below w.heap.size w w' := by
  have hu26 := Try.underlying26
  have HR0_6 := Aside0.mk hr0_6
  have HC0_6 := Aside0.mk hc0_6
  clear hr0_6 hc0_6
  have HR0_7 := Aside0.mk hr0_7
  have HC0_7 := Aside0.mk hc0_7
  clear hr0_7 hc0_7
  have HB := Aside0.mk (Below.refl w.heap.size w)
  have H : (if (l0_6.length : Int) > 400 then (some true) else (some (decide ((l0_7.length : Int) > 400)))) = some r := h
  clear h
  by_cases c2 : (l0_6.length : Int) > 400
  · rw [if_pos c2] at H
    have c2b0 : decide (400 < (l0_6.length : Int)) = true := decide_eq_true c2
    have c2b1 : decide (400 < l0_6.length) = true := decide_eq_true (by omega)
    clear c2
    obtain rfl := Option.some.inj H
    go_enter Try.func11, Try.ntmps11
    go_wp2_with (first | ((with_reducible refine gate_dst (N := 1) rfl ?_); (try (refine gate_guard (by rfl) ?_; dsimp only)); refine box_event ?hg (N := 1) ?hd (cs := #[.int .i64 a0_0, .int .i64 a0_1, .int .i64 a0_2, .int .i64 a0_3, .int .i64 a0_4, .int .i64 a0_5, .slice A0_6 l0_6.length c0_6, .slice A0_7 l0_7.length c0_7]) (t := 26) ?hr ?_; (case hd => rfl); (case hg => rfl); (case hr => first | (go_simp; done) | (go_simp; rfl)); intro gb101 hg w3 hbox hb; have n0_ := Aside0.mk (below_step (by repeat (first | (with_reducible first | exact HB.out | apply below_alloc | apply pw_below_drewN | apply below_drew1) | exact HB.out)) hb); have n1_ := Aside0.mk (hbox); have n2_ := Aside0.mk ((by rw [hg]; exact (below_size (by repeat (first | (with_reducible first | exact HB.out | apply below_alloc | apply pw_below_drewN | apply below_drew1) | exact HB.out))) : w.heap.size ≤ gb101)); have n3_ := Aside0.mk ((by rw [hg]; exact (below_size (by repeat (first | (with_reducible first | exact HB.out | apply below_alloc | apply pw_below_drewN | apply below_drew1) | exact HB.out))) : w.heap.size ≤ gb101)); clear HB; have HB := n0_; have BK101 := n1_; have GW101 := n2_; have GE101 := n3_; clear n0_ n1_ n2_ n3_; clear hb hbox hg; have hcz4_0 : w3.cell? ⟨gb101, 0, none⟩ = some (.int .i64 a0_0) := (blk_cell BK101.out 0).trans rfl; have hcz4_1 : w3.cell? ⟨gb101, 1, none⟩ = some (.int .i64 a0_1) := (blk_cell BK101.out 1).trans rfl; have hcz4_2 : w3.cell? ⟨gb101, 2, none⟩ = some (.int .i64 a0_2) := (blk_cell BK101.out 2).trans rfl; have hcz4_3 : w3.cell? ⟨gb101, 3, none⟩ = some (.int .i64 a0_3) := (blk_cell BK101.out 3).trans rfl; have hcz4_4 : w3.cell? ⟨gb101, 4, none⟩ = some (.int .i64 a0_4) := (blk_cell BK101.out 4).trans rfl; have hcz4_5 : w3.cell? ⟨gb101, 5, none⟩ = some (.int .i64 a0_5) := (blk_cell BK101.out 5).trans rfl; have hcz4_6 : w3.cell? ⟨gb101, 6, none⟩ = some (.slice A0_6 l0_6.length c0_6) := (blk_cell BK101.out 6).trans rfl; have hcz4_7 : w3.cell? ⟨gb101, 7, none⟩ = some (.slice A0_7 l0_7.length c0_7) := (blk_cell BK101.out 7).trans rfl; have hfz4_0 := blk_frozen BK101.out 0; have hfz4_1 := blk_frozen BK101.out 1; have hfz4_2 := blk_frozen BK101.out 2; have hfz4_3 := blk_frozen BK101.out 3; have hfz4_4 := blk_frozen BK101.out 4; have hfz4_5 := blk_frozen BK101.out 5; have hfz4_6 := blk_frozen BK101.out 6; have hfz4_7 := blk_frozen BK101.out 7))
    go_ret
    exact ⟨by first | rfl | (simp [errW_none, errW_some] <;> rfl) | (simp [*, errW_none, errW_some] <;> rfl), by repeat (first | (with_reducible first | exact HB.out | apply below_alloc | apply pw_below_drewN | apply below_drew1 | refine below_set ?_ GE101.out) | exact HB.out)⟩
  · rw [if_neg c2] at H
    have c2b0 : decide (400 < (l0_6.length : Int)) = false := decide_eq_false c2
    have c2b1 : decide (400 < l0_6.length) = false := decide_eq_false (by omega)
    clear c2
    obtain rfl := Option.some.inj H
    go_enter Try.func11, Try.ntmps11
    go_wp2_with (first | ((with_reducible refine gate_dst (N := 1) rfl ?_); (try (refine gate_guard (by rfl) ?_; dsimp only)); refine box_event ?hg (N := 1) ?hd (cs := #[.int .i64 a0_0, .int .i64 a0_1, .int .i64 a0_2, .int .i64 a0_3, .int .i64 a0_4, .int .i64 a0_5, .slice A0_6 l0_6.length c0_6, .slice A0_7 l0_7.length c0_7]) (t := 26) ?hr ?_; (case hd => rfl); (case hg => rfl); (case hr => first | (go_simp; done) | (go_simp; rfl)); intro gb101 hg w5 hbox hb; have n0_ := Aside0.mk (below_step (by repeat (first | (with_reducible first | exact HB.out | apply below_alloc | apply pw_below_drewN | apply below_drew1) | exact HB.out)) hb); have n1_ := Aside0.mk (hbox); have n2_ := Aside0.mk ((by rw [hg]; exact (below_size (by repeat (first | (with_reducible first | exact HB.out | apply below_alloc | apply pw_below_drewN | apply below_drew1) | exact HB.out))) : w.heap.size ≤ gb101)); have n3_ := Aside0.mk ((by rw [hg]; exact (below_size (by repeat (first | (with_reducible first | exact HB.out | apply below_alloc | apply pw_below_drewN | apply below_drew1) | exact HB.out))) : w.heap.size ≤ gb101)); clear HB; have HB := n0_; have BK101 := n1_; have GW101 := n2_; have GE101 := n3_; clear n0_ n1_ n2_ n3_; clear hb hbox hg; have hcz6_0 : w5.cell? ⟨gb101, 0, none⟩ = some (.int .i64 a0_0) := (blk_cell BK101.out 0).trans rfl; have hcz6_1 : w5.cell? ⟨gb101, 1, none⟩ = some (.int .i64 a0_1) := (blk_cell BK101.out 1).trans rfl; have hcz6_2 : w5.cell? ⟨gb101, 2, none⟩ = some (.int .i64 a0_2) := (blk_cell BK101.out 2).trans rfl; have hcz6_3 : w5.cell? ⟨gb101, 3, none⟩ = some (.int .i64 a0_3) := (blk_cell BK101.out 3).trans rfl; have hcz6_4 : w5.cell? ⟨gb101, 4, none⟩ = some (.int .i64 a0_4) := (blk_cell BK101.out 4).trans rfl; have hcz6_5 : w5.cell? ⟨gb101, 5, none⟩ = some (.int .i64 a0_5) := (blk_cell BK101.out 5).trans rfl; have hcz6_6 : w5.cell? ⟨gb101, 6, none⟩ = some (.slice A0_6 l0_6.length c0_6) := (blk_cell BK101.out 6).trans rfl; have hcz6_7 : w5.cell? ⟨gb101, 7, none⟩ = some (.slice A0_7 l0_7.length c0_7) := (blk_cell BK101.out 7).trans rfl; have hfz6_0 := blk_frozen BK101.out 0; have hfz6_1 := blk_frozen BK101.out 1; have hfz6_2 := blk_frozen BK101.out 2; have hfz6_3 := blk_frozen BK101.out 3; have hfz6_4 := blk_frozen BK101.out 4; have hfz6_5 := blk_frozen BK101.out 5; have hfz6_6 := blk_frozen BK101.out 6; have hfz6_7 := blk_frozen BK101.out 7))
    go_ret
    exact ⟨by first | rfl | (simp [errW_none, errW_some] <;> rfl) | (simp [*, errW_none, errW_some] <;> rfl), by repeat (first | (with_reducible first | exact HB.out | apply below_alloc | apply pw_below_drewN | apply below_drew1 | refine below_set ?_ GE101.out) | exact HB.out)⟩
end Go.Proofs.Ytnmmkgagbfniiaa.A
end
section
namespace Go.Proofs.Ytnmmkgagbfniiaa.Pl
open Go.RowKit Go.Proofs.YtnmmkgagbfniiaaW.PrintWords Go.Proofs.YtnmmkgagbfniiaaW.PrintMore Go.Proofs.Ytnmmkgagbfniiaa.A
set_option linter.unusedVariables false
theorem i64_of {a : Int} (h : (Lit.int .i64 a).wf = true) : I64 a := i64_bounds h
theorem long_f (a0 a1 a2 a3 a4 a5 : Int) (l6 l7 : List Int) : interleavelaw11_long.f a0 a1 a2 a3 a4 a5 l6 l7 = some (decide (¬ (l6.length ≤ 400 ∧ l7.length ≤ 400))) := by
  unfold interleavelaw11_long.f
  by_cases h : (l6.length : Int) > 400
  · rw [if_pos h, decide_eq_true (by omega)]
  · rw [if_neg h]
    congr 1
    apply decide_eq_decide.mpr
    omega
end Go.Proofs.Ytnmmkgagbfniiaa.Pl
end
section
namespace Go.Proofs.Ytnmmkgagbfniiaa.A
open Go.RowKit Go.Proofs.YtnmmkgagbfniiaaW.PrintWords Go.Proofs.YtnmmkgagbfniiaaW.PrintLast Go.Proofs.YtnmmkgagbfniiaaW.PrintMore
attribute [local go_sem] max2_int min2_int max_two min_two max_three min_three max_four min_four
set_option linter.unusedVariables false
set_option linter.unusedSimpArgs false
def interleaveref07_SameInts.l0 : Nat → List Int → List Int → Int → Option (Bool)
  | 0, _, _, _ => none
  | k + 1, x0, x1, x5 => if x5 < (x0.length : Int) then (if 0 ≤ x5 then (if x5 < (x1.length : Int) then (if (rd x0 x5) = (rd x1 x5) then (interleaveref07_SameInts.l0 k x0 x1 (wrap64 (x5 + 1))) else (some false)) else (none)) else (none)) else (some true)
def interleaveref07_SameInts.f (k : Nat) (l0 : List Int) (l1 : List Int) : Option (Bool) := if (l0.length : Int) = (l1.length : Int) then (interleaveref07_SameInts.l0 k l0 l1 0) else (some false)
theorem interleaveref07_SameInts.mono_l : ∀ k, (∀ y0 y1 y2, LeO (interleaveref07_SameInts.l0 k y0 y1 y2) (interleaveref07_SameInts.l0 (k + 1) y0 y1 y2))
  | 0 => fun _ _ _ r h => by simp [interleaveref07_SameInts.l0] at h
  | k + 1 => by
    have ih0 := interleaveref07_SameInts.mono_l k
    · intro y0 y1 y2
      unfold interleaveref07_SameInts.l0
      repeat' first
      | (with_reducible exact ih0 _ _ _)
      | (with_reducible exact LeO.refl _)
      | (with_reducible exact LeO.none _)
      | (with_reducible refine LeO.ite ?_ ?_)
      | (with_reducible refine LeO.bind ?_ (fun _ => ?_))
      | exact ih0 _ _ _
      | exact LeO.none _
      | refine LeO.ite ?_ ?_
      | refine LeO.bind ?_ (fun _ => ?_)
theorem interleaveref07_SameInts.mono : ∀ a0 a1 k, LeO (interleaveref07_SameInts.f k a0 a1) (interleaveref07_SameInts.f (k + 1) a0 a1) := by
  intro a0 a1 k
  have ih0 := interleaveref07_SameInts.mono_l k
  unfold interleaveref07_SameInts.f
  repeat' first
      | (with_reducible exact ih0 _ _ _)
      | (with_reducible exact LeO.refl _)
      | (with_reducible exact LeO.none _)
      | (with_reducible refine LeO.ite ?_ ?_)
      | (with_reducible refine LeO.bind ?_ (fun _ => ?_))
      | exact ih0 _ _ _
      | exact LeO.none _
      | refine LeO.ite ?_ ?_
      | refine LeO.bind ?_ (fun _ => ?_)
set_option maxHeartbeats 8000000 in
set_option maxRecDepth 100000 in
theorem interleaveref07_SameInts.calls (k : Nat) (A0 : Option Addr) (c0 : Nat) (l0 : List Int) (A1 : Option Addr) (c1 : Nat) (l1 : List Int) (r : Bool) (w : World) (hr0 : Kd.C (Kd.int .i64) w A0 l0.length l0) (hc0 : l0.length ≤ c0) (hr1 : Kd.C (Kd.int .i64) w A1 l1.length l1) (hc1 : l1.length ≤ c1) (h : interleaveref07_SameInts.f k l0 l1 = some r) :
    Calls Try.prog 44 #[.slice A0 l0.length c0, .slice A1 l1.length c1] w fun e w' => e = .returned (.bool r) ∧ Drawn0 w w' := by
  have HR0 := Aside0.mk hr0
  have HC0 := Aside0.mk hc0
  clear hr0 hc0
  have HR1 := Aside0.mk hr1
  have HC1 := Aside0.mk hc1
  clear hr1 hc1
  have H : (if (l0.length : Int) = (l1.length : Int) then (interleaveref07_SameInts.l0 k l0 l1 0) else (some false)) = some r := h
  clear h
  by_cases c3 : (l0.length : Int) = (l1.length : Int)
  · rw [if_pos c3] at H
    have c3b0 : ((l0.length : Int) == (l1.length : Int)) = true := beq_iff_eq.mpr c3
    have c3b1 : ((l0.length : Int) != (l1.length : Int)) = false := bne_eq_false_iff_eq.mpr c3
    have c3b2 : (l0.length == l1.length) = true := by first | simpa using c3 | (simp at c3 ⊢; omega)
    clear c3
    have H' := Aside0.mk H
    clear H
    go_enter Try.func44, Try.ntmps44
    go_wp2
    repeat (go_quiet (fail); try go_wp2)
    go_loopg [5] k (fun kq v5 w' => ∃ (x5_1 : Int), v5 = .int .i64 x5_1 ∧ Aside0 (interleaveref07_SameInts.l0 kq l0 l1 x5_1 = some r) ∧ Aside0 (kq ≤ k) ∧ Drawn0 w w')
    case atStart => exact ⟨(0), (by first | rfl | (simp; done) | (simp [*]; done)), H', ⟨Nat.le_refl _⟩, by repeat (first | exact Drawn0.refl _ | apply Drawn0.step)⟩
    case round =>
      clear H'
      try clear c1
      try clear p2
      try clear c3
      try clear c3b0
      try clear c3b1
      try clear c3b2
      obtain ⟨x5_1, rfl, HA, HK1, ⟨m1, rfl⟩⟩ := hrel
      cases gk with
      | zero => exact absurd HA.out (by simp [interleaveref07_SameInts.l0])
      | succ k1 =>
        have H := HA.out
        clear HA
        simp only [interleaveref07_SameInts.l0] at H
        by_cases c4 : x5_1 < (l0.length : Int)
        · rw [if_pos c4] at H
          have c4b0 : decide (x5_1 < (l0.length : Int)) = true := decide_eq_true c4
          clear c4
          by_cases c5 : 0 ≤ x5_1
          · rw [if_pos c5] at H
            have c5b0 : decide (0 ≤ x5_1) = true := decide_eq_true c5
            clear c5
            by_cases c6 : x5_1 < (l1.length : Int)
            · rw [if_pos c6] at H
              have c6b0 : decide (x5_1 < (l1.length : Int)) = true := decide_eq_true c6
              clear c6
              by_cases c7 : (rd l0 x5_1) = (rd l1 x5_1)
              · rw [if_pos c7] at H
                have c7b0 : ((rd l0 x5_1) == (rd l1 x5_1)) = true := beq_iff_eq.mpr c7
                have c7b1 : ((rd l0 x5_1) != (rd l1 x5_1)) = false := bne_eq_false_iff_eq.mpr c7
                clear c7
                have H' := Aside0.mk H
                clear H
                have p125 : 0 ≤ (x5_1 : Int) := of_decide_eq_true (by first | (with_reducible assumption) | assumption)
                have q125 : x5_1 < (l0.length : Int) := of_decide_eq_true (by first | (with_reducible assumption) | assumption)
                obtain ⟨ad125, e125, hx125_0⟩ := Kd.at_int HR0.out x5_1 p125 q125
                cases e125
                replace p125 := eq_true p125
                replace q125 := eq_true q125
                have p126 : 0 ≤ (x5_1 : Int) := of_decide_eq_true (by first | (with_reducible assumption) | assumption)
                have q126 : x5_1 < (l1.length : Int) := of_decide_eq_true (by first | (with_reducible assumption) | assumption)
                obtain ⟨ad126, e126, hx126_0⟩ := Kd.at_int HR1.out x5_1 p126 q126
                cases e126
                replace p126 := eq_true p126
                replace q126 := eq_true q126
                go_wp2
                repeat (go_quiet (fail); try go_wp2)
                go_roundg k1
                case measure => have := HK1.out; omega
                case rel => exact ⟨(wrap64 (x5_1 + 1)), (by first | rfl | (simp; done) | (simp [*]; done)), H', ⟨by have := HK1.out; omega⟩, by repeat (first | exact Drawn0.refl _ | apply Drawn0.step)⟩
              · rw [if_neg c7] at H
                have c7b0 : ((rd l0 x5_1) == (rd l1 x5_1)) = false := beq_eq_false_iff_ne.mpr c7
                have c7b1 : ((rd l0 x5_1) != (rd l1 x5_1)) = true := bne_iff_ne.mpr c7
                obtain rfl := Option.some.inj H
                have p125 : 0 ≤ (x5_1 : Int) := of_decide_eq_true (by first | (with_reducible assumption) | assumption)
                have q125 : x5_1 < (l0.length : Int) := of_decide_eq_true (by first | (with_reducible assumption) | assumption)
                obtain ⟨ad125, e125, hx125_0⟩ := Kd.at_int HR0.out x5_1 p125 q125
                cases e125
                replace p125 := eq_true p125
                replace q125 := eq_true q125
                have p126 : 0 ≤ (x5_1 : Int) := of_decide_eq_true (by first | (with_reducible assumption) | assumption)
                have q126 : x5_1 < (l1.length : Int) := of_decide_eq_true (by first | (with_reducible assumption) | assumption)
                obtain ⟨ad126, e126, hx126_0⟩ := Kd.at_int HR1.out x5_1 p126 q126
                cases e126
                replace p126 := eq_true p126
                replace q126 := eq_true q126
                go_wp2
                repeat (go_quiet (fail); try go_wp2)
                go_ret
                exact ⟨by first | rfl | (simp; done) | (simp [*]; done), by repeat (first | exact Drawn0.refl _ | apply Drawn0.step)⟩
            · rw [if_neg c6] at H
              exact absurd H (by simp)
          · rw [if_neg c5] at H
            exact absurd H (by simp)
        · rw [if_neg c4] at H
          have c4b0 : decide (x5_1 < (l0.length : Int)) = false := decide_eq_false c4
          clear c4
          obtain rfl := Option.some.inj H
          go_wp2
          repeat (go_quiet (fail); try go_wp2)
          go_ret
          exact ⟨by first | rfl | (simp; done) | (simp [*]; done), by repeat (first | exact Drawn0.refl _ | apply Drawn0.step)⟩
  · rw [if_neg c3] at H
    have c3b0 : ((l0.length : Int) == (l1.length : Int)) = false := beq_eq_false_iff_ne.mpr c3
    have c3b1 : ((l0.length : Int) != (l1.length : Int)) = true := bne_iff_ne.mpr c3
    have c3b2 : (l0.length == l1.length) = false := by first | simpa using c3 | (simp at c3 ⊢; omega)
    obtain rfl := Option.some.inj H
    go_enter Try.func44, Try.ntmps44
    go_wp2
    repeat (go_quiet (fail); try go_wp2)
    go_ret
    exact ⟨by first | rfl | (simp; done) | (simp [*]; done), by repeat (first | exact Drawn0.refl _ | apply Drawn0.step)⟩
end Go.Proofs.Ytnmmkgagbfniiaa.A
end
