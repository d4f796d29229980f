/- MRecordTells8: texts of this session and of the kit's printer on the road to the statement RecordTells, laid into one and rid of what it doesn't need. No condition beyond what each fact names. -/
import Derived.Test.YtnmmkgagbfniiaaMRecordTells4
import Derived.Test.YtnmmkgagbfniiaaMRecordTells3
import Derived.Test.YtnmmkgagbfniiaaMRecordTells7
section
namespace Go.Proofs.Ytnmmkgagbfniiaa.A
open Go.RowKit Go.Proofs.YtnmmkgagbfniiaaW.PrintWords Go.Proofs.YtnmmkgagbfniiaaW.PrintLast Go.Proofs.YtnmmkgagbfniiaaW.PrintMore
attribute [local go_sem] max2_int min2_int max_two min_two max_three min_three max_four min_four
set_option linter.unusedVariables false
set_option linter.unusedSimpArgs false
def j11_putList.l0 : Nat → List Int → List Int → Int → Int → Option (List Int)
 | 0, _, _, _, _ => none
 | k + 1, x0, x1, x5, x6 => if x6 < (x1.length : Int) then (if 0 ≤ x6 then ((j11_PutInt.f k x0 (wrap64 ((rd x1 x6) - x5))).bind fun t205 => (j11_putList.l0 k t205 x1 (rd x1 x6) (wrap64 (x6 + 1)))) else (none)) else (some x0)
def j11_putList.f (k : Nat) (l0 : List Int) (l1 : List Int) : Option (List Int) := (j11_PutInt.f k l0 (l1.length : Int)).bind fun t201 => (j11_putList.l0 k t201 l1 0 0)
theorem j11_putList.mono_l : ∀ k, (∀ y0 y1 y2 y3, LeO (j11_putList.l0 k y0 y1 y2 y3) (j11_putList.l0 (k + 1) y0 y1 y2 y3))
 | 0 => fun _ _ _ _ r h => by simp [j11_putList.l0] at h
 | k + 1 => by
  have ih0 := j11_putList.mono_l k
  ·
   intro y0 y1 y2 y3
   unfold j11_putList.l0
   exact zM
theorem j11_putList.mono : ∀ a0 a1 k, LeO (j11_putList.f k a0 a1) (j11_putList.f (k + 1) a0 a1) := by
 intro a0 a1 k
 have ih0 := j11_putList.mono_l k
 unfold j11_putList.f
 exact zM
set_option maxHeartbeats 8000000 in
set_option maxRecDepth 100000 in
theorem j11_putList.calls (k : Nat) (A0 : Option Addr) (c0 : Nat) (l0 : List Int) (A1 : Option Addr) (c1 : Nat) (l1 : List Int) (r : List Int) (w : World) (hr0 : Kd.C (Kd.int .u8) w A0 l0.length l0) (hc0 : l0.length ≤ c0) (hr1 : Kd.C (Kd.int .i64) w A1 l1.length l1) (hc1 : l1.length ≤ c1) (h : j11_putList.f k l0 l1 = some r) :
  Calls Try.prog 46 #[.slice A0 l0.length c0, .slice A1 l1.length c1] w fun e w' => ∃ v0_ : Value, e = .returned (v0_) ∧ Kd.R (Kd.int .u8) 5 w' w.heap.size (fun _ => True) v0_ r ∧ Below w.heap.size w w' := by
 have HR0 := am hr0
 have HC0 := am hc0
 clear hr0 hc0
 have HR1 := am hr1
 have HC1 := am hc1
 clear hr1 hc1
 have HB := am (Below.refl w.heap.size w)
 have H : ((j11_PutInt.f k l0 (l1.length : Int)).bind fun t201 => (j11_putList.l0 k t201 l1 0 0)) = some r := h
 clear h
 replace H := Option.bind_eq_some_iff.mp H
 obtain ⟨t201, A30, H⟩ := H
 (try dsimp only at H)
 have A3 := am A30
 clear A30
 have H' := am H
 clear H
 go_enter Try.func46, Try.ntmps46
 go_wp2_with (first | ((with_reducible refine gate_callee (f := 45) rfl ?_); refine goesL_ (some 10) rfl rfl Try.func45 (by kernel_rfl) rfl #[.slice A0 l0.length c0, .int .i64 (l1.length : Int)] rfl zg ?_; (with_reducible refine (j11_PutInt.calls k _ _ l0 (l1.length : Int) t201 _ ?side1 ?side2 A3.out).mono ?_); (case side1 => exact zC (HR0.out)); (case side2 => exact HC0.out); rintro e w4 ⟨v202, rfl, ho0, hb⟩; refine ⟨_, rfl, ?_⟩; have HO203 := am (Kd.R_lower ho0 (below_size (zb HB))); replace HB := am (below_step (zb HB) hb); clear hb ho0))
 go_loopg [0, 5, 6] k (fun kq v0 v5 v6 w' => ∃ (x0_1 : List Int) (x5_1 : Int) (x6_1 : Int), v5 = .int .i64 x5_1 ∧ v6 = .int .i64 x6_1 ∧ Aside0 (j11_putList.l0 kq x0_1 l1 x5_1 x6_1 = some r) ∧ Aside0 (kq ≤ k) ∧ Aside0 (Kd.R (Kd.int .u8) 5 w' w.heap.size (fun _ => True) v0 x0_1) ∧ Aside0 (Below w.heap.size w w'))
 case atStart => exact ⟨(t201), (0), (0), zr, zr, H', ⟨Nat.le_refl _⟩, ⟨by (with_reducible repeat (first | apply Kd.R_alloc | apply Kd.R_drewN | apply Kd.R_drew)); exact HO203.out⟩, ⟨zb HB⟩⟩
 case round =>
  clear H'
  obtain ⟨x0_1, x5_1, x6_1, rfl, rfl, HA, HK1, HO_0, HB⟩ := hrel
  cases gk with
  | zero => exact absurd HA.out (by simp [j11_putList.l0])
  | succ k1 =>
   have H := HA.out
   clear HA
   simp only [j11_putList.l0] at H
   by_cases c5 : x6_1 < (l1.length : Int)
   ·
    rw [if_pos c5] at H
    have c5b0 := decide_eq_true c5
    clear c5
    by_cases c6 : 0 ≤ x6_1
    ·
     rw [if_pos c6] at H
     have c6b0 := decide_eq_true c6
     clear c6
     replace H := Option.bind_eq_some_iff.mp H
     obtain ⟨t205, A70, H⟩ := H
     (try dsimp only at H)
     have A7 := am A70
     clear A70
     have H' := am H
     clear H
     have p204 : 0 ≤ (x6_1 : Int) := zo
     have q204 : x6_1 < (l1.length : Int) := zo
     obtain ⟨ad204, e204, hx204_0⟩ := Kd.at_int HR1.out x6_1 p204 q204
     cases e204
     replace hx204_0 := zx HB hx204_0
     replace p204 := eq_true p204
     replace q204 := eq_true q204
     obtain ⟨Ao8, co8, eo8⟩ := Kd.R_slice HO_0.out
     subst eo8
     go_wp2_with (first | ((with_reducible refine gate_callee (f := 45) rfl ?_); refine goesL_ (some 24) rfl rfl Try.func45 (by kernel_rfl) rfl #[.slice Ao8 x0_1.length co8, .int .i64 (wrap64 ((rd l1 x6_1) - x5_1))] rfl zg ?_; (with_reducible refine (j11_PutInt.calls k1 _ _ x0_1 (wrap64 ((rd l1 x6_1) - x5_1)) t205 _ ?side1 ?side2 A7.out).mono ?_); (case side1 => exact zC ((Kd.R_reads' HO_0.out).2.2)); (case side2 => exact (Kd.R_reads' HO_0.out).2.1); rintro e w9 ⟨v206, rfl, ho0, hb⟩; refine ⟨_, rfl, ?_⟩; have HO207 := am (Kd.R_lower (Kd.R_new' ho0 (Kd.R_lt (zR HO_0.out))) (below_size (zb HB))); replace HO_0 := am (Kd.R_elder' (zR HO_0.out) (Kd.R_base ho0) hb); replace HB := am (below_step (zb HB) hb); clear hb ho0; have p208 : 0 ≤ (x6_1 : Int) := zo; have q208 : x6_1 < (l1.length : Int) := zo; obtain ⟨ad208, e208, hx208_0⟩ := Kd.at_int HR1.out x6_1 p208 q208; obtain rfl : ad204 = ad208 := (by injection e208); replace hx208_0 := zx HB hx208_0; replace p208 := eq_true p208; replace q208 := eq_true q208))
     go_roundg k1
     case measure => have := HK1.out; omega
     case rel => exact ⟨(t205), (rd l1 x6_1), (wrap64 (x6_1 + 1)), zr, zr, H', ⟨by have := HK1.out; omega⟩, ⟨by (with_reducible repeat (first | apply Kd.R_alloc | apply Kd.R_drewN | apply Kd.R_drew)); exact Kd.R_mono HO207.out (fun _ hk => trivial)⟩, ⟨zb HB⟩⟩
    ·
     rw [if_neg c6] at H
     exact absurd H (by simp)
   ·
    rw [if_neg c5] at H
    have c5b0 := decide_eq_false c5
    clear c5
    obtain rfl := Option.some.inj H
    go_wp2
    go_ret
    exact ⟨_, ze, by (with_reducible repeat (first | apply Kd.R_alloc | apply Kd.R_drewN | apply Kd.R_drew)); exact HO_0.out, zb HB⟩
def j11_Append.f (k : Nat) (l0 : List Int) (a1_0 : Int) (a1_1 : Int) (a1_2 : Int) (a1_3 : Int) (a1_4 : Int) (a1_5 : Int) (l1_6 : List Int) (l1_7 : List Int) (a2 : Int) : Option (List Int) := (j11_PutInt.f k l0 (wrap64 (a1_0 - a2))).bind fun t210 => ((j11_PutInt.f k t210 a1_2).bind fun t213 => ((j11_PutInt.f k t213 a1_3).bind fun t216 => ((j11_PutInt.f k t216 a1_4).bind fun t219 => ((j11_PutInt.f k t219 a1_5).bind fun t222 => ((j11_putList.f k t222 l1_6).bind fun t225 => ((j11_putList.f k t225 l1_7).bind fun t228 => (some t228)))))))
theorem j11_Append.mono : ∀ a0 a1 a2 a3 a4 a5 a6 a7 a8 a9 k, LeO (j11_Append.f k a0 a1 a2 a3 a4 a5 a6 a7 a8 a9) (j11_Append.f (k + 1) a0 a1 a2 a3 a4 a5 a6 a7 a8 a9) := by
 intro a0 a1 a2 a3 a4 a5 a6 a7 a8 a9 k
 unfold j11_Append.f
 exact zM
set_option maxHeartbeats 8000000 in
set_option maxRecDepth 100000 in
theorem j11_Append.calls (k : Nat) (A0 : Option Addr) (c0 : Nat) (l0 : List Int) (a1_0 : Int) (a1_1 : Int) (a1_2 : Int) (a1_3 : Int) (a1_4 : Int) (a1_5 : Int) (A1_6 : Option Addr) (c1_6 : Nat) (l1_6 : List Int) (A1_7 : Option Addr) (c1_7 : Nat) (l1_7 : List Int) (a2 : Int) (r : List Int) (w : World) (hr0 : Kd.C (Kd.int .u8) w A0 l0.length l0) (hc0 : l0.length ≤ c0) (hr1_6 : Kd.C (Kd.int .i64) w A1_6 l1_6.length l1_6) (hc1_6 : l1_6.length ≤ c1_6) (hr1_7 : Kd.C (Kd.int .i64) w A1_7 l1_7.length l1_7) (hc1_7 : l1_7.length ≤ c1_7) (h : j11_Append.f k l0 a1_0 a1_1 a1_2 a1_3 a1_4 a1_5 l1_6 l1_7 a2 = some r) :
  Calls Try.prog 16 #[.slice A0 l0.length c0, .agg #[.int .i64 a1_0, .int .i64 a1_1, .int .i64 a1_2, .int .i64 a1_3, .int .i64 a1_4, .int .i64 a1_5, .slice A1_6 l1_6.length c1_6, .slice A1_7 l1_7.length c1_7], .int .i64 a2] w fun e w' => ∃ v0_ : Value, e = .returned (v0_) ∧ Kd.R (Kd.int .u8) 5 w' w.heap.size (fun _ => True) v0_ r ∧ Below w.heap.size w w' := by
 have hu26 := Try.underlying26
 have HR0 := am hr0
 have HC0 := am hc0
 clear hr0 hc0
 have HR1_6 := am hr1_6
 have HC1_6 := am hc1_6
 clear hr1_6 hc1_6
 have HR1_7 := am hr1_7
 have HC1_7 := am hc1_7
 clear hr1_7 hc1_7
 have HB := am (Below.refl w.heap.size w)
 have H : ((j11_PutInt.f k l0 (wrap64 (a1_0 - a2))).bind fun t210 => ((j11_PutInt.f k t210 a1_2).bind fun t213 => ((j11_PutInt.f k t213 a1_3).bind fun t216 => ((j11_PutInt.f k t216 a1_4).bind fun t219 => ((j11_PutInt.f k t219 a1_5).bind fun t222 => ((j11_putList.f k t222 l1_6).bind fun t225 => ((j11_putList.f k t225 l1_7).bind fun t228 => (some t228)))))))) = some r := h
 clear h
 replace H := Option.bind_eq_some_iff.mp H
 obtain ⟨t210, A40, H⟩ := H
 (try dsimp only at H)
 have A4 := am A40
 clear A40
 replace H := Option.bind_eq_some_iff.mp H
 obtain ⟨t213, A50, H⟩ := H
 (try dsimp only at H)
 have A5 := am A50
 clear A50
 replace H := Option.bind_eq_some_iff.mp H
 obtain ⟨t216, A60, H⟩ := H
 (try dsimp only at H)
 have A6 := am A60
 clear A60
 replace H := Option.bind_eq_some_iff.mp H
 obtain ⟨t219, A70, H⟩ := H
 (try dsimp only at H)
 have A7 := am A70
 clear A70
 replace H := Option.bind_eq_some_iff.mp H
 obtain ⟨t222, A80, H⟩ := H
 (try dsimp only at H)
 have A8 := am A80
 clear A80
 replace H := Option.bind_eq_some_iff.mp H
 obtain ⟨t225, A90, H⟩ := H
 (try dsimp only at H)
 have A9 := am A90
 clear A90
 replace H := Option.bind_eq_some_iff.mp H
 obtain ⟨t228, A100, H⟩ := H
 (try dsimp only at H)
 have A10 := am A100
 clear A100
 obtain rfl := Option.some.inj H
 go_enter Try.func16, Try.ntmps16
 go_wp2_with (first | ((with_reducible refine gate_dst (N := 4) rfl ?_); refine zB 4 #[.int .i64 a1_0, .int .i64 a1_1, .int .i64 a1_2, .int .i64 a1_3, .int .i64 a1_4, .int .i64 a1_5, .slice A1_6 l1_6.length c1_6, .slice A1_7 l1_7.length c1_7] 26 ?_; intro gb209 hg w11 hbox hb; have BK209 := am (hbox); have GE209 := zG hg (zb HB); replace HB := am (below_step (zb HB) hb); clear hb hbox hg; obtain ⟨_, _, _, _, _, _, _, _, _, _, _, _, _, _, _, _⟩ := zq8 BK209) | ((with_reducible refine gate_callee (f := 45) rfl ?_); refine goesL_ (some 12) rfl rfl Try.func45 (by kernel_rfl) rfl #[.slice A0 l0.length c0, .int .i64 (wrap64 (a1_0 - a2))] rfl zg ?_; (with_reducible refine (j11_PutInt.calls k _ _ l0 (wrap64 (a1_0 - a2)) t210 _ ?side1 ?side2 A4.out).mono ?_); (case side1 => exact y11); (case side2 => exact HC0.out); rintro e w13 ⟨v211, rfl, ho0, hb⟩; refine ⟨_, rfl, ?_⟩; have HO212 := am (Kd.R_lower ho0 (below_size (zb HB))); replace BK209 := zk BK209 hb; replace HB := am (below_step (zb HB) hb); clear hb ho0; obtain ⟨_, _, _, _, _, _, _, _, _, _, _, _, _, _, _, _⟩ := zq8 BK209; obtain ⟨Ao15, co15, eo15⟩ := Kd.R_slice HO212.out; subst eo15) | ((with_reducible refine gate_callee (f := 45) rfl ?_); refine goesL_ (some 17) rfl rfl Try.func45 (by kernel_rfl) rfl #[.slice Ao15 t210.length co15, .int .i64 a1_2] rfl zg ?_; (with_reducible refine (j11_PutInt.calls k _ _ t210 a1_2 t213 _ ?side1 ?side2 A5.out).mono ?_); (case side1 => exact zC ((Kd.R_reads' HO212.out).2.2)); (case side2 => exact (Kd.R_reads' HO212.out).2.1); rintro e w16 ⟨v214, rfl, ho0, hb⟩; refine ⟨_, rfl, ?_⟩; have HO215 := am (Kd.R_lower (Kd.R_new' ho0 (Kd.R_lt (zR HO212.out))) (below_size (zb HB))); replace HO212 := am (Kd.R_elder' (zR HO212.out) (Kd.R_base ho0) hb); replace BK209 := zk BK209 hb; replace HB := am (below_step (zb HB) hb); clear hb ho0; obtain ⟨_, _, _, _, _, _, _, _, _, _, _, _, _, _, _, _⟩ := zq8 BK209; obtain ⟨Ao18, co18, eo18⟩ := Kd.R_slice HO215.out; subst eo18) | ((with_reducible refine gate_callee (f := 45) rfl ?_); refine goesL_ (some 22) rfl rfl Try.func45 (by kernel_rfl) rfl #[.slice Ao18 t213.length co18, .int .i64 a1_3] rfl zg ?_; (with_reducible refine (j11_PutInt.calls k _ _ t213 a1_3 t216 _ ?side1 ?side2 A6.out).mono ?_); (case side1 => exact zC ((Kd.R_reads' HO215.out).2.2)); (case side2 => exact (Kd.R_reads' HO215.out).2.1); rintro e w19 ⟨v217, rfl, ho0, hb⟩; refine ⟨_, rfl, ?_⟩; have HO218 := am (Kd.R_lower (Kd.R_new' (Kd.R_new' ho0 (Kd.R_lt (zR HO212.out))) (Kd.R_lt (zR HO215.out))) (below_size (zb HB))); replace HO212 := am (Kd.R_elder' (zR HO212.out) (Kd.R_base ho0) hb); replace HO215 := am (Kd.R_elder' (zR HO215.out) (Kd.R_base ho0) hb); replace BK209 := zk BK209 hb; replace HB := am (below_step (zb HB) hb); clear hb ho0; obtain ⟨_, _, _, _, _, _, _, _, _, _, _, _, _, _, _, _⟩ := zq8 BK209; obtain ⟨Ao21, co21, eo21⟩ := Kd.R_slice HO218.out; subst eo21) | ((with_reducible refine gate_callee (f := 45) rfl ?_); refine goesL_ (some 27) rfl rfl Try.func45 (by kernel_rfl) rfl #[.slice Ao21 t216.length co21, .int .i64 a1_4] rfl zg ?_; (with_reducible refine (j11_PutInt.calls k _ _ t216 a1_4 t219 _ ?side1 ?side2 A7.out).mono ?_); (case side1 => exact zC ((Kd.R_reads' HO218.out).2.2)); (case side2 => exact (Kd.R_reads' HO218.out).2.1); rintro e w22 ⟨v220, rfl, ho0, hb⟩; refine ⟨_, rfl, ?_⟩; have HO221 := am (Kd.R_lower (Kd.R_new' (Kd.R_new' (Kd.R_new' ho0 (Kd.R_lt (zR HO212.out))) (Kd.R_lt (zR HO215.out))) (Kd.R_lt (zR HO218.out))) (below_size (zb HB))); replace HO212 := am (Kd.R_elder' (zR HO212.out) (Kd.R_base ho0) hb); replace HO215 := am (Kd.R_elder' (zR HO215.out) (Kd.R_base ho0) hb); replace HO218 := am (Kd.R_elder' (zR HO218.out) (Kd.R_base ho0) hb); replace BK209 := zk BK209 hb; replace HB := am (below_step (zb HB) hb); clear hb ho0; obtain ⟨_, _, _, _, _, _, _, _, _, _, _, _, _, _, _, _⟩ := zq8 BK209; obtain ⟨Ao24, co24, eo24⟩ := Kd.R_slice HO221.out; subst eo24) | ((with_reducible refine gate_callee (f := 45) rfl ?_); refine goesL_ (some 32) rfl rfl Try.func45 (by kernel_rfl) rfl #[.slice Ao24 t219.length co24, .int .i64 a1_5] rfl zg ?_; (with_reducible refine (j11_PutInt.calls k _ _ t219 a1_5 t222 _ ?side1 ?side2 A8.out).mono ?_); (case side1 => exact zC ((Kd.R_reads' HO221.out).2.2)); (case side2 => exact (Kd.R_reads' HO221.out).2.1); rintro e w25 ⟨v223, rfl, ho0, hb⟩; refine ⟨_, rfl, ?_⟩; have HO224 := am (Kd.R_lower (Kd.R_new' (Kd.R_new' (Kd.R_new' (Kd.R_new' ho0 (Kd.R_lt (zR HO212.out))) (Kd.R_lt (zR HO215.out))) (Kd.R_lt (zR HO218.out))) (Kd.R_lt (zR HO221.out))) (below_size (zb HB))); replace HO212 := am (Kd.R_elder' (zR HO212.out) (Kd.R_base ho0) hb); replace HO215 := am (Kd.R_elder' (zR HO215.out) (Kd.R_base ho0) hb); replace HO218 := am (Kd.R_elder' (zR HO218.out) (Kd.R_base ho0) hb); replace HO221 := am (Kd.R_elder' (zR HO221.out) (Kd.R_base ho0) hb); replace BK209 := zk BK209 hb; replace HB := am (below_step (zb HB) hb); clear hb ho0; obtain ⟨_, _, _, _, _, _, _, _, _, _, _, _, _, _, _, _⟩ := zq8 BK209; obtain ⟨Ao27, co27, eo27⟩ := Kd.R_slice HO224.out; subst eo27) | ((with_reducible refine gate_callee (f := 46) rfl ?_); refine goesL_ (some 37) rfl rfl Try.func46 (by kernel_rfl) rfl #[.slice Ao27 t222.length co27, .slice A1_6 l1_6.length c1_6] rfl zg ?_; (with_reducible refine (j11_putList.calls k _ _ t222 _ _ l1_6 t225 _ ?side1 ?side2 ?side3 ?side4 A9.out).mono ?_); (case side1 => exact zC ((Kd.R_reads' HO224.out).2.2)); (case side2 => exact (Kd.R_reads' HO224.out).2.1); (case side3 => exact zC ((Kd.C_below HR1_6.out HB.out))); (case side4 => exact HC1_6.out); rintro e w28 ⟨v226, rfl, ho0, hb⟩; refine ⟨_, rfl, ?_⟩; have HO227 := am (Kd.R_lower (Kd.R_new' (Kd.R_new' (Kd.R_new' (Kd.R_new' (Kd.R_new' ho0 (Kd.R_lt (zR HO212.out))) (Kd.R_lt (zR HO215.out))) (Kd.R_lt (zR HO218.out))) (Kd.R_lt (zR HO221.out))) (Kd.R_lt (zR HO224.out))) (below_size (zb HB))); replace HO212 := am (Kd.R_elder' (zR HO212.out) (Kd.R_base ho0) hb); replace HO215 := am (Kd.R_elder' (zR HO215.out) (Kd.R_base ho0) hb); replace HO218 := am (Kd.R_elder' (zR HO218.out) (Kd.R_base ho0) hb); replace HO221 := am (Kd.R_elder' (zR HO221.out) (Kd.R_base ho0) hb); replace HO224 := am (Kd.R_elder' (zR HO224.out) (Kd.R_base ho0) hb); replace BK209 := zk BK209 hb; replace HB := am (below_step (zb HB) hb); clear hb ho0; obtain ⟨_, _, _, _, _, _, _, _, _, _, _, _, _, _, _, _⟩ := zq8 BK209; obtain ⟨Ao30, co30, eo30⟩ := Kd.R_slice HO227.out; subst eo30) | ((with_reducible refine gate_callee (f := 46) rfl ?_); refine goesL_ (some 42) rfl rfl Try.func46 (by kernel_rfl) rfl #[.slice Ao30 t225.length co30, .slice A1_7 l1_7.length c1_7] rfl zg ?_; (with_reducible refine (j11_putList.calls k _ _ t225 _ _ l1_7 t228 _ ?side1 ?side2 ?side3 ?side4 A10.out).mono ?_); (case side1 => exact zC ((Kd.R_reads' HO227.out).2.2)); (case side2 => exact (Kd.R_reads' HO227.out).2.1); (case side3 => exact zC ((Kd.C_below HR1_7.out HB.out))); (case side4 => exact HC1_7.out); rintro e w31 ⟨v229, rfl, ho0, hb⟩; refine ⟨_, rfl, ?_⟩; have HO230 := am (Kd.R_lower (Kd.R_new' (Kd.R_new' (Kd.R_new' (Kd.R_new' (Kd.R_new' (Kd.R_new' ho0 (Kd.R_lt (zR HO212.out))) (Kd.R_lt (zR HO215.out))) (Kd.R_lt (zR HO218.out))) (Kd.R_lt (zR HO221.out))) (Kd.R_lt (zR HO224.out))) (Kd.R_lt (zR HO227.out))) (below_size (zb HB))); replace HO212 := am (Kd.R_elder' (zR HO212.out) (Kd.R_base ho0) hb); replace HO215 := am (Kd.R_elder' (zR HO215.out) (Kd.R_base ho0) hb); replace HO218 := am (Kd.R_elder' (zR HO218.out) (Kd.R_base ho0) hb); replace HO221 := am (Kd.R_elder' (zR HO221.out) (Kd.R_base ho0) hb); replace HO224 := am (Kd.R_elder' (zR HO224.out) (Kd.R_base ho0) hb); replace HO227 := am (Kd.R_elder' (zR HO227.out) (Kd.R_base ho0) hb); replace BK209 := zk BK209 hb; replace HB := am (below_step (zb HB) hb); clear hb ho0))
 go_ret
 exact ⟨_, ze, by (with_reducible repeat (first | apply Kd.R_alloc | apply Kd.R_drewN | apply Kd.R_drew)); exact Kd.R_mono HO230.out (fun _ hk => trivial), zb HB⟩
end Go.Proofs.Ytnmmkgagbfniiaa.A
end
section
namespace Go.Proofs.Ytnmmkgagbfniiaa.Pl
open Go.RowKit Go.Proofs.YtnmmkgagbfniiaaW.PrintWords Go.Proofs.YtnmmkgagbfniiaaW.PrintMore Go.Proofs.Ytnmmkgagbfniiaa.A
set_option linter.unusedVariables false
def I64 (a : Int) : Prop := -9223372036854775808 ≤ a ∧ a < 9223372036854775808
theorem wrap64_I64 (x : Int) : I64 (wrap64 x) := by unfold I64 wrap64; omega
def encDiffs : Int → List Int → List Int
 | _, [] => []
 | last, n :: t => enc (wrap64 (n - last)) ++ encDiffs n t
def encL (l : List Int) : List Int := enc (l.length : Int) ++ encDiffs 0 l
def encR (d kind obj val site : Int) (deps frm : List Int) : List Int := enc d ++ (enc kind ++ (enc obj ++ (enc val ++ (enc site ++ (encL deps ++ encL frm)))))
theorem enc_le {a : Int} (h : I64 a) : (enc a).length ≤ 10 := (enc_len h.1 h.2).2
theorem encDiffs_len : ∀ (l : List Int) (last : Int), (encDiffs last l).length ≤ 10 * l.length
 | [], _ => by simp [encDiffs]
 | n :: t, last => by
  have h1 := enc_le (wrap64_I64 (n - last))
  have h2 := encDiffs_len t n
  simp only [encDiffs, List.length_append, List.length_cons]
  omega
theorem encL_len (l : List Int) (hl : l.length ≤ 400) : (encL l).length ≤ 10 * l.length + 10 := by
 have h1 := encDiffs_len l 0
 have h2 := enc_le (a := (l.length : Int)) ⟨by omega, by omega⟩
 unfold encL
 rw [List.length_append]
 omega
theorem encDiffs_bytes : ∀ (l : List Int) (last : Int), ∀ x ∈ encDiffs last l, 0 ≤ x ∧ x < 256
 | [], _ => fun x hx => by simp [encDiffs] at hx
 | n :: t, last => fun x hx => by
  simp only [encDiffs, List.mem_append] at hx
  rcases hx with hx | hx
  ·
   exact enc_bytes _ x hx
  ·
   exact encDiffs_bytes t n x hx
theorem encL_bytes (l : List Int) : ∀ x ∈ encL l, 0 ≤ x ∧ x < 256 := fun x hx => by
 rcases List.mem_append.1 hx with hx | hx
 ·
  exact enc_bytes _ x hx
 ·
  exact encDiffs_bytes _ _ x hx
theorem encR_bytes (d kind obj val site : Int) (deps frm : List Int) : ∀ x ∈ encR d kind obj val site deps frm, 0 ≤ x ∧ x < 256 := fun x hx => by
 simp only [encR, List.mem_append] at hx
 rcases hx with hx | hx | hx | hx | hx | hx | hx
 ·
  exact enc_bytes _ x hx
 ·
  exact enc_bytes _ x hx
 ·
  exact enc_bytes _ x hx
 ·
  exact enc_bytes _ x hx
 ·
  exact enc_bytes _ x hx
 ·
  exact encL_bytes _ x hx
 ·
  exact encL_bytes _ x hx
theorem encR_len (d kind obj val site : Int) (deps frm : List Int) (h0 : I64 d) (h1 : I64 kind) (h2 : I64 obj) (h3 : I64 val) (h4 : I64 site) (h5 : deps.length ≤ 400) (h6 : frm.length ≤ 400) : (encR d kind obj val site deps frm).length ≤ 10 * (deps.length + frm.length) + 70 := by
 have a0 := enc_le h0
 have a1 := enc_le h1
 have a2 := enc_le h2
 have a3 := enc_le h3
 have a4 := enc_le h4
 have a5 := encL_len deps h5
 have a6 := encL_len frm h6
 unfold encR
 simp only [List.length_append]
 omega
theorem appendList_loop (l : List Int) (hl : l.length ≤ 140737488355328) : ∀ (d i : Nat) (x : List Int) (last : Int), i + d = l.length → x.length + 10 * d ≤ 140737488355318 →
  Ev (fun k => event_appendList.l0 k x last l (l.length : Int) (i : Int)) (x ++ encDiffs last (l.drop i)) := by
 intro d
 induction d with
 | zero =>
  intro i x last hi hx
  refine Ev.step (f := fun _ => some _) (fun k => ?_) (Ev.now _)
  simp only [event_appendList.l0]
  rw [if_neg (by omega), List.drop_of_length_le (by omega)]
  simp [encDiffs]
 | succ d ih =>
  intro i x last hi hx
  have hlt : i < l.length := by omega
  have hw := wrap64_I64 (l[i] - last)
  refine Ev.step (f := fun k => (event_appendInt.f k x (wrap64 (l[i] - last))).bind fun t => event_appendList.l0 k t l[i] l (l.length : Int) ((i + 1 : Nat) : Int)) (fun k => ?_) ?_
  ·
   simp only [event_appendList.l0]
   rw [if_pos (by omega), if_pos (by omega), if_pos (by omega), rd_at hlt, wrap64_id (x := (i : Int) + 1) (by omega) (by omega)]
   rfl
  ·
   refine Ev.bind (appendInt_f hw.1 hw.2 x (by omega)) ?_
   have h10 := enc_le hw
   have := ih (i + 1) (x ++ enc (wrap64 (l[i] - last))) l[i] (by omega) (by rw [List.length_append]; omega)
   rw [List.drop_eq_getElem_cons hlt]
   simpa [encDiffs] using this
theorem appendList_f (l x : List Int) (hl : l.length ≤ 400) (hx : x.length ≤ 140737488300000) : Ev (fun k => event_appendList.f k x l) (x ++ encL l) := by
 have h10 := enc_le (a := (l.length : Int)) ⟨by omega, by omega⟩
 refine Ev.bind (appendInt_f (a := (l.length : Int)) (by omega) (by omega) x (by omega)) ?_
 have := appendList_loop l (by omega) l.length 0 (x ++ enc (l.length : Int)) 0 (by omega) (by rw [List.length_append]; omega)
 simpa [encL] using this
theorem putList_loop (l : List Int) (hl : l.length ≤ 140737488355328) : ∀ (d i : Nat) (x : List Int) (last : Int), i + d = l.length → x.length + 10 * d ≤ 140737488355318 →
  Ev (fun k => j11_putList.l0 k x l last (i : Int)) (x ++ encDiffs last (l.drop i)) := by
 intro d
 induction d with
 | zero =>
  intro i x last hi hx
  refine Ev.step (f := fun _ => some _) (fun k => ?_) (Ev.now _)
  simp only [j11_putList.l0]
  rw [if_neg (by omega), List.drop_of_length_le (by omega)]
  simp [encDiffs]
 | succ d ih =>
  intro i x last hi hx
  have hlt : i < l.length := by omega
  have hw := wrap64_I64 (l[i] - last)
  refine Ev.step (f := fun k => (j11_PutInt.f k x (wrap64 (l[i] - last))).bind fun t => j11_putList.l0 k t l l[i] ((i + 1 : Nat) : Int)) (fun k => ?_) ?_
  ·
   simp only [j11_putList.l0]
   rw [if_pos (by omega), if_pos (by omega), rd_at hlt, wrap64_id (x := (i : Int) + 1) (by omega) (by omega)]
   rfl
  ·
   refine Ev.bind (refPutInt_f hw.1 hw.2 x (by omega)) ?_
   have h10 := enc_le hw
   have := ih (i + 1) (x ++ enc (wrap64 (l[i] - last))) l[i] (by omega) (by rw [List.length_append]; omega)
   rw [List.drop_eq_getElem_cons hlt]
   simpa [encDiffs] using this
theorem putList_f (l x : List Int) (hl : l.length ≤ 400) (hx : x.length ≤ 140737488300000) : Ev (fun k => j11_putList.f k x l) (x ++ encL l) := by
 have h10 := enc_le (a := (l.length : Int)) ⟨by omega, by omega⟩
 refine Ev.bind (refPutInt_f (a := (l.length : Int)) (by omega) (by omega) x (by omega)) ?_
 have := putList_loop l (by omega) l.length 0 (x ++ enc (l.length : Int)) 0 (by omega) (by rw [List.length_append]; omega)
 simpa [encL] using this
theorem append_f (x : List Int) (seq thread kind obj val site : Int) (deps frm : List Int) (q : Int) (hx : x.length ≤ 140737488200000) (h1 : I64 kind) (h2 : I64 obj) (h3 : I64 val) (h4 : I64 site) (h5 : deps.length ≤ 400) (h6 : frm.length ≤ 400) :
  Ev (fun k => event_Append.f k x seq thread kind obj val site deps frm q) (x ++ encR (wrap64 (seq - q)) kind obj val site deps frm) := by
 have hw := wrap64_I64 (seq - q)
 have a0 := enc_le hw
 have a1 := enc_le h1
 have a2 := enc_le h2
 have a3 := enc_le h3
 have a4 := enc_le h4
 have a5 := encL_len deps h5
 refine Ev.bind (appendInt_f hw.1 hw.2 x (by omega)) ?_
 refine Ev.bind (appendInt_f h1.1 h1.2 _ (by rw [List.length_append]; omega)) ?_
 refine Ev.bind (appendInt_f h2.1 h2.2 _ (by simp only [List.length_append]; omega)) ?_
 refine Ev.bind (appendInt_f h3.1 h3.2 _ (by simp only [List.length_append]; omega)) ?_
 refine Ev.bind (appendInt_f h4.1 h4.2 _ (by simp only [List.length_append]; omega)) ?_
 refine Ev.bind (appendList_f deps _ h5 (by simp only [List.length_append]; omega)) ?_
 have := appendList_f frm (x ++ enc (wrap64 (seq - q)) ++ enc kind ++ enc obj ++ enc val ++ enc site ++ encL deps) h6 (by simp only [List.length_append]; omega)
 simpa [encR, List.append_assoc] using this
theorem refAppend_f (x : List Int) (seq thread kind obj val site : Int) (deps frm : List Int) (q : Int) (hx : x.length ≤ 140737488200000) (h1 : I64 kind) (h2 : I64 obj) (h3 : I64 val) (h4 : I64 site) (h5 : deps.length ≤ 400) (h6 : frm.length ≤ 400) :
  Ev (fun k => j11_Append.f k x seq thread kind obj val site deps frm q) (x ++ encR (wrap64 (seq - q)) kind obj val site deps frm) := by
 have hw := wrap64_I64 (seq - q)
 have a0 := enc_le hw
 have a1 := enc_le h1
 have a2 := enc_le h2
 have a3 := enc_le h3
 have a4 := enc_le h4
 have a5 := encL_len deps h5
 refine Ev.bind (refPutInt_f hw.1 hw.2 x (by omega)) ?_
 refine Ev.bind (refPutInt_f h1.1 h1.2 _ (by rw [List.length_append]; omega)) ?_
 refine Ev.bind (refPutInt_f h2.1 h2.2 _ (by simp only [List.length_append]; omega)) ?_
 refine Ev.bind (refPutInt_f h3.1 h3.2 _ (by simp only [List.length_append]; omega)) ?_
 refine Ev.bind (refPutInt_f h4.1 h4.2 _ (by simp only [List.length_append]; omega)) ?_
 refine Ev.bind (putList_f deps _ h5 (by simp only [List.length_append]; omega)) ?_
 have := putList_f frm (x ++ enc (wrap64 (seq - q)) ++ enc kind ++ enc obj ++ enc val ++ enc site ++ encL deps) h6 (by simp only [List.length_append]; omega)
 refine Ev.bind this ?_
 simpa [encR, List.append_assoc] using Ev.now (x ++ encR (wrap64 (seq - q)) kind obj val site deps frm)
end Go.Proofs.Ytnmmkgagbfniiaa.Pl
end
section
namespace Go.Proofs.Ytnmmkgagbfniiaa.A
open Go.RowKit Go.Proofs.YtnmmkgagbfniiaaW.PrintWords Go.Proofs.YtnmmkgagbfniiaaW.PrintLast Go.Proofs.YtnmmkgagbfniiaaW.PrintMore
attribute [local go_sem] max2_int min2_int max_two min_two max_three min_three max_four min_four
set_option linter.unusedVariables false
set_option linter.unusedSimpArgs false
end Go.Proofs.Ytnmmkgagbfniiaa.A
end
section
namespace Go.Proofs.Ytnmmkgagbfniiaa.Pl
open Go.RowKit Go.Proofs.YtnmmkgagbfniiaaW.PrintWords Go.Proofs.YtnmmkgagbfniiaaW.PrintMore Go.Proofs.Ytnmmkgagbfniiaa.A
set_option linter.unusedVariables false
theorem i64_of {a : Int} (h : (Lit.int .i64 a).wf = true) : I64 a := i64_bounds h
end Go.Proofs.Ytnmmkgagbfniiaa.Pl
end
section
namespace Go.Proofs.Ytnmmkgagbfniiaa.A
open Go.RowKit Go.Proofs.YtnmmkgagbfniiaaW.PrintWords Go.Proofs.YtnmmkgagbfniiaaW.PrintLast Go.Proofs.YtnmmkgagbfniiaaW.PrintMore
attribute [local go_sem] max2_int min2_int max_two min_two max_three min_three max_four min_four
set_option linter.unusedVariables false
set_option linter.unusedSimpArgs false
mutual
def block_check.j0 : Nat → Bool → Int → Int → List (S26) → Option (Int)
 | 0, _, _, _, _ => none
 | k + 1, x33, x303000, x303001, x303002 => if x33 = true then (some 1) else (block_check.l0 k (-1) x303002 (x303002.length : Int) 0 x303000 x303001 x303002)
def block_check.l0 : Nat → Int → List (S26) → Int → Int → Int → Int → List (S26) → Option (Int)
 | 0, _, _, _, _, _, _, _ => none
 | k + 1, x3, x35, x36, x37, x303000, x303001, x303002 => if x37 < x36 then (if 0 ≤ x37 then (if x37 < (x35.length : Int) then (if ((rd_T26 x35 x37).f1.f0) = x303000 then (if ((rd_T26 x35 x37).f0) ≤ x3 then (some 1) else (if (((rd_T26 x35 x37).f1.f5).length : Int) > 400 then (some 1) else (if (((rd_T26 x35 x37).f1.f6).length : Int) > 400 then (some 1) else (block_check.l0 k ((rd_T26 x35 x37).f0) x35 x36 (wrap64 (x37 + 1)) x303000 x303001 x303002)))) else (some 1)) else (none)) else (none)) else (some 0)
end
def block_check.f (k : Nat) (a0_0 : Int) (a0_1 : Int) (l0_2 : List (S26)) : Option (Int) := if (l0_2.length : Int) > 64 then (some 2) else (if (l0_2.length : Int) = 0 then (block_check.j0 k true a0_0 a0_1 l0_2) else (if a0_0 < 0 then (block_check.j0 k true a0_0 a0_1 l0_2) else (if a0_0 ≥ 4 then (block_check.j0 k true a0_0 a0_1 l0_2) else (if a0_1 < 0 then (block_check.j0 k true a0_0 a0_1 l0_2) else (block_check.j0 k (decide (a0_1 > 400)) a0_0 a0_1 l0_2)))))
theorem block_check.mono_l : ∀ k, (∀ y0 y1 y2 y3, LeO (block_check.j0 k y0 y1 y2 y3) (block_check.j0 (k + 1) y0 y1 y2 y3)) ∧ (∀ y0 y1 y2 y3 y4 y5 y6, LeO (block_check.l0 k y0 y1 y2 y3 y4 y5 y6) (block_check.l0 (k + 1) y0 y1 y2 y3 y4 y5 y6))
 | 0 => ⟨fun _ _ _ _ r h => by simp [block_check.j0] at h, fun _ _ _ _ _ _ _ r h => by simp [block_check.l0] at h⟩
 | k + 1 => by
  obtain ⟨ih0, ih1⟩ := block_check.mono_l k
  refine ⟨?_, ?_⟩
  ·
   intro y0 y1 y2 y3
   unfold block_check.j0
   exact zM
  ·
   intro y0 y1 y2 y3 y4 y5 y6
   unfold block_check.l0
   exact zM
theorem block_check.mono : ∀ a0 a1 a2 k, LeO (block_check.f k a0 a1 a2) (block_check.f (k + 1) a0 a1 a2) := by
 intro a0 a1 a2 k
 obtain ⟨ih0, ih1⟩ := block_check.mono_l k
 unfold block_check.f
 exact zM
set_option maxHeartbeats 8000000 in
set_option maxRecDepth 100000 in
theorem block_check.calls (k : Nat) (a0_0 : Int) (a0_1 : Int) (A0_2 : Option Addr) (c0_2 : Nat) (l0_2 : List (S26)) (r : Int) (w : World) (hr0_2 : Kd.C k26 w A0_2 l0_2.length l0_2) (hc0_2 : l0_2.length ≤ c0_2) (h : block_check.f k a0_0 a0_1 l0_2 = some r) :
  Calls Try.prog 50 #[.agg #[.int .i64 a0_0, .int .i64 a0_1, .slice A0_2 l0_2.length c0_2]] w fun e w' => e = .returned (.int .i64 r) ∧ Below w.heap.size w w' := by
 have hu42 := Try.underlying42
 have hu26 := Try.underlying26
 have HR0_2 := am hr0_2
 have HC0_2 := am hc0_2
 clear hr0_2 hc0_2
 have HB := am (Below.refl w.heap.size w)
 have H : (if (l0_2.length : Int) > 64 then (some 2) else (if (l0_2.length : Int) = 0 then (block_check.j0 k true a0_0 a0_1 l0_2) else (if a0_0 < 0 then (block_check.j0 k true a0_0 a0_1 l0_2) else (if a0_0 ≥ 4 then (block_check.j0 k true a0_0 a0_1 l0_2) else (if a0_1 < 0 then (block_check.j0 k true a0_0 a0_1 l0_2) else (block_check.j0 k (decide (a0_1 > 400)) a0_0 a0_1 l0_2)))))) = some r := h
 clear h
 by_cases c2 : (l0_2.length : Int) > 64
 ·
  rw [if_pos c2] at H
  have c2b0 : decide (64 < (l0_2.length : Int)) = true := decide_eq_true c2
  have c2b1 : decide (64 < l0_2.length) = true := decide_eq_true (by omega)
  clear c2
  obtain rfl := Option.some.inj H
  go_enter Try.func50, Try.ntmps50
  go_wp2_with (first | ((with_reducible refine gate_dst (N := 1) rfl ?_); (try (refine gate_guard (by rfl) ?_; dsimp only)); refine zB 1 #[.int .i64 a0_0, .int .i64 a0_1, .slice A0_2 l0_2.length c0_2] 42 ?_; intro gb302 hg w3 hbox hb; have BK302 := am (hbox); have GE302 := zG hg (zb HB); replace HB := am (below_step (zb HB) hb); clear hb hbox hg; obtain ⟨hcz4_0, hcz4_1, hcz4_2⟩ := zc3 BK302; obtain ⟨hfz4_0, hfz4_1, hfz4_2⟩ := zf3 BK302))
  go_ret
  exact ⟨ze, zb HB⟩
 ·
  rw [if_neg c2] at H
  have c2b0 : decide (64 < (l0_2.length : Int)) = false := decide_eq_false c2
  have c2b1 : decide (64 < l0_2.length) = false := decide_eq_false (by omega)
  clear c2
  have HC5 := am H
  clear H
  go_enter Try.func50, Try.ntmps50
  go_upto_region 3 with (first | ((with_reducible refine gate_dst (N := 1) rfl ?_); (try (refine gate_guard (by rfl) ?_; dsimp only)); refine zB 1 #[.int .i64 a0_0, .int .i64 a0_1, .slice A0_2 l0_2.length c0_2] 42 ?_; intro gb302 hg w6 hbox hb; have BK302 := am (hbox); have GE302 := zG hg (zb HB); replace HB := am (below_step (zb HB) hb); clear hb hbox hg; obtain ⟨hcz7_0, hcz7_1, hcz7_2⟩ := zc3 BK302; obtain ⟨hfz7_0, hfz7_1, hfz7_2⟩ := zf3 BK302))
  (try simp only [Act.put, List.setIfInBounds_toArray, List.set_cons_zero, List.set_cons_succ])
  go_cut [33] (fun v33 wc => ∃ (kq : Nat) (x33_4 : Bool), v33 = .bool x33_4 ∧ Aside0 (block_check.j0 kq x33_4 a0_0 a0_1 l0_2 = some r) ∧ Aside0 (kq ≤ k) ∧ Aside0 (wc.heap[gb302]? = some (.cells #[.int .i64 a0_0, .int .i64 a0_1, (.slice A0_2 l0_2.length c0_2)] 42 (0, 0))) ∧ Aside0 (Below w.heap.size w wc))
  case first =>
   have H := HC5.out
   clear HC5
   by_cases c8 : (l0_2.length : Int) = 0
   ·
    rw [if_pos c8] at H
    obtain ⟨c8b0, c8b1⟩ := zt c8
    clear c8
    (first | rw [c8b0] | (simp only [i64_w, i32_w]; rw [c8b0]) | skip)
    have H' := am H
    clear H
    obtain ⟨hcz9_0, hcz9_1, hcz9_2⟩ := zc3 BK302
    obtain ⟨hfz9_0, hfz9_1, hfz9_2⟩ := zf3 BK302
    go_wp2
    go_meet
    case rel => exact y19
   ·
    rw [if_neg c8] at H
    obtain ⟨c8b0, c8b1⟩ := zs c8
    have c8b2 : ¬ (l0_2 = []) := fun h_ => c8 (by rw [h_]; rfl)
    (first | rw [c8b0] | (simp only [i64_w, i32_w]; rw [c8b0]) | skip)
    by_cases c10 : a0_0 < 0
    ·
     rw [if_pos c10] at H
     have c10b0 := decide_eq_true c10
     clear c10
     have H' := am H
     clear H
     obtain ⟨hcz11_0, hcz11_1, hcz11_2⟩ := zc3 BK302
     obtain ⟨hfz11_0, hfz11_1, hfz11_2⟩ := zf3 BK302
     go_wp2
     go_meet
     case rel => exact y19
    ·
     rw [if_neg c10] at H
     have c10b0 := decide_eq_false c10
     clear c10
     by_cases c12 : a0_0 ≥ 4
     ·
      rw [if_pos c12] at H
      have c12b0 : decide (4 ≤ a0_0) = true := decide_eq_true c12
      clear c12
      have H' := am H
      clear H
      obtain ⟨hcz13_0, hcz13_1, hcz13_2⟩ := zc3 BK302
      obtain ⟨hfz13_0, hfz13_1, hfz13_2⟩ := zf3 BK302
      go_wp2
      go_meet
      case rel => exact y19
     ·
      rw [if_neg c12] at H
      have c12b0 : decide (4 ≤ a0_0) = false := decide_eq_false c12
      clear c12
      by_cases c14 : a0_1 < 0
      ·
       rw [if_pos c14] at H
       have c14b0 := decide_eq_true c14
       clear c14
       have H' := am H
       clear H
       obtain ⟨hcz15_0, hcz15_1, hcz15_2⟩ := zc3 BK302
       obtain ⟨hfz15_0, hfz15_1, hfz15_2⟩ := zf3 BK302
       go_wp2
       go_meet
       case rel => exact y19
      ·
       rw [if_neg c14] at H
       have c14b0 := decide_eq_false c14
       clear c14
       have H' := am H
       clear H
       obtain ⟨hcz16_0, hcz16_1, hcz16_2⟩ := zc3 BK302
       obtain ⟨hfz16_0, hfz16_1, hfz16_2⟩ := zf3 BK302
       go_wp2
       go_meet
       case rel => exact ⟨_, (decide (a0_1 > 400)), zr, H', ⟨by first | omega | exact Nat.le_refl _⟩, ⟨by refine zu ?_; exact BK302.out⟩, ⟨zb HB⟩⟩
  case rest =>
   clear HC5
   obtain ⟨kq, x33_4, rfl, HA, HJ4, BK302, HB⟩ := hcut
   cases kq with
   | zero => exact absurd HA.out (by simp [block_check.j0])
   | succ kj4 =>
    have H := HA.out
    clear HA
    simp only [block_check.j0] at H
    by_cases c17 : x33_4 = true
    ·
     subst c17
     have H1 : (some 1) = some r := by rw [if_pos rfl] at H; exact H
     clear H
     have H := H1
     clear H1
     obtain rfl := Option.some.inj H
     go_wp2
     go_ret
     exact ⟨ze, zb HB⟩
    ·
     replace c17 := Bool.eq_false_iff.mpr c17
     subst c17
     have H1 : (block_check.l0 kj4 (-1) l0_2 (l0_2.length : Int) 0 a0_0 a0_1 l0_2) = some r := by rw [if_neg (show ¬ (false = true) by decide)] at H; exact H
     clear H
     have H := H1
     clear H1
     have H' := am H
     clear H
     obtain ⟨hcz18_0, hcz18_1, hcz18_2⟩ := zc3 BK302
     obtain ⟨hfz18_0, hfz18_1, hfz18_2⟩ := zf3 BK302
     go_wp2
     go_loopg [3, 37] kj4 (fun kq v3 v37 w' => ∃ (x3_2 : Int) (x37_2 : Int), v3 = .int .i64 x3_2 ∧ v37 = .int .i64 x37_2 ∧ Aside0 (block_check.l0 kq x3_2 l0_2 (l0_2.length : Int) x37_2 a0_0 a0_1 l0_2 = some r) ∧ Aside0 (kq ≤ kj4) ∧ Aside0 (w'.heap[gb302]? = some (.cells #[.int .i64 a0_0, .int .i64 a0_1, (.slice A0_2 l0_2.length c0_2)] 42 (0, 0))) ∧ Aside0 (Below w.heap.size w w'))
     case atStart => exact ⟨((-1)), (0), zr, zr, H', ⟨Nat.le_refl _⟩, ⟨by refine zu ?_; exact BK302.out⟩, ⟨zb HB⟩⟩
     case round =>
      clear H'
      obtain ⟨x3_2, x37_2, rfl, rfl, HA, HK2, BK302, HB⟩ := hrel
      cases gk with
      | zero => exact absurd HA.out (by simp [block_check.l0])
      | succ k2 =>
       have H := HA.out
       clear HA
       simp only [block_check.l0] at H
       by_cases c19 : x37_2 < (l0_2.length : Int)
       ·
        rw [if_pos c19] at H
        have c19b0 := decide_eq_true c19
        clear c19
        by_cases c20 : 0 ≤ x37_2
        ·
         rw [if_pos c20] at H
         have c20b0 := decide_eq_true c20
         clear c20
         by_cases c21 : x37_2 < (l0_2.length : Int)
         ·
          rw [if_pos c21] at H
          have c21b0 := decide_eq_true c21
          clear c21
          by_cases c22 : ((rd_T26 l0_2 x37_2).f1.f0) = a0_0
          ·
           rw [if_pos c22] at H
           obtain ⟨c22b0, c22b1⟩ := zt c22
           clear c22
           by_cases c23 : ((rd_T26 l0_2 x37_2).f0) ≤ x3_2
           ·
            rw [if_pos c23] at H
            have c23b0 := decide_eq_true c23
            clear c23
            obtain rfl := Option.some.inj H
            have p303 : 0 ≤ (x37_2 : Int) := zo
            have q303 : x37_2 < (l0_2.length : Int) := zo
            obtain ⟨ad303, A303_6, c303_6, A303_7, c303_7, e303, hx303_0, hx303_1, hx303_2, hx303_3, hx303_4, hx303_5, hx303_6, hx303_7, hl303_6, hi303_6, hl303_7, hi303_7⟩ := at_T26 HR0_2.out x37_2 p303 q303
            cases e303
            replace hx303_0 := zx HB hx303_0
            replace hx303_1 := zx HB hx303_1
            replace hx303_2 := zx HB hx303_2
            replace hx303_3 := zx HB hx303_3
            replace hx303_4 := zx HB hx303_4
            replace hx303_5 := zx HB hx303_5
            replace hx303_6 := zx HB hx303_6
            replace hx303_7 := zx HB hx303_7
            have HR303_6 := am hi303_6
            have HC303_6 := am hl303_6
            clear hi303_6 hl303_6
            have HR303_7 := am hi303_7
            have HC303_7 := am hl303_7
            clear hi303_7 hl303_7
            replace p303 := eq_true p303
            replace q303 := eq_true q303
            go_wp2_with (first | ((with_reducible refine gate_dst (N := 5) rfl ?_); (try (refine gate_guard (by rfl) ?_; dsimp only)); refine zB 5 #[.int .i64 0, .int .i64 0, .int .i64 0, .int .i64 0, .int .i64 0, .int .i64 0, .slice none 0 0, .slice none 0 0] 26 ?_; intro gb304 hg w24 hbox hb; have BK304 := am (hbox); have GE304 := zG hg (zb HB); replace HB := am (below_step (zb HB) hb); have NB302_304 := zn hg BK302; have NB304_302 := zm hg BK302; replace BK302 := zk BK302 hb; clear hb hbox hg; have hnb25 := NB304_302.out; have hnc25 := NB302_304.out; obtain ⟨_, _, _, _, _, _, _, _, _, _, _, _, _, _, _, _⟩ := zq8 BK304; obtain ⟨_, _, _, _, _, _⟩ := zq3 BK302))
            go_ret
            exact ⟨ze, zb HB⟩
           ·
            rw [if_neg c23] at H
            have c23b0 := decide_eq_false c23
            clear c23
            by_cases c28 : (((rd_T26 l0_2 x37_2).f1.f5).length : Int) > 400
            ·
             rw [if_pos c28] at H
             have c28b0 : decide (400 < (((rd_T26 l0_2 x37_2).f1.f5).length : Int)) = true := decide_eq_true c28
             have c28b1 : decide (400 < ((rd_T26 l0_2 x37_2).f1.f5).length) = true := decide_eq_true (by omega)
             clear c28
             obtain rfl := Option.some.inj H
             have p303 : 0 ≤ (x37_2 : Int) := zo
             have q303 : x37_2 < (l0_2.length : Int) := zo
             obtain ⟨ad303, A303_6, c303_6, A303_7, c303_7, e303, hx303_0, hx303_1, hx303_2, hx303_3, hx303_4, hx303_5, hx303_6, hx303_7, hl303_6, hi303_6, hl303_7, hi303_7⟩ := at_T26 HR0_2.out x37_2 p303 q303
             cases e303
             replace hx303_0 := zx HB hx303_0
             replace hx303_1 := zx HB hx303_1
             replace hx303_2 := zx HB hx303_2
             replace hx303_3 := zx HB hx303_3
             replace hx303_4 := zx HB hx303_4
             replace hx303_5 := zx HB hx303_5
             replace hx303_6 := zx HB hx303_6
             replace hx303_7 := zx HB hx303_7
             have HR303_6 := am hi303_6
             have HC303_6 := am hl303_6
             clear hi303_6 hl303_6
             have HR303_7 := am hi303_7
             have HC303_7 := am hl303_7
             clear hi303_7 hl303_7
             replace p303 := eq_true p303
             replace q303 := eq_true q303
             go_wp2_with (first | ((with_reducible refine gate_dst (N := 5) rfl ?_); (try (refine gate_guard (by rfl) ?_; dsimp only)); refine zB 5 #[.int .i64 0, .int .i64 0, .int .i64 0, .int .i64 0, .int .i64 0, .int .i64 0, .slice none 0 0, .slice none 0 0] 26 ?_; intro gb304 hg w29 hbox hb; have BK304 := am (hbox); have GE304 := zG hg (zb HB); replace HB := am (below_step (zb HB) hb); have NB302_304 := zn hg BK302; have NB304_302 := zm hg BK302; replace BK302 := zk BK302 hb; clear hb hbox hg; have hnb30 := NB304_302.out; have hnc30 := NB302_304.out; obtain ⟨_, _, _, _, _, _, _, _, _, _, _, _, _, _, _, _⟩ := zq8 BK304; obtain ⟨_, _, _, _, _, _⟩ := zq3 BK302))
             go_ret
             exact ⟨ze, zb HB⟩
            ·
             rw [if_neg c28] at H
             have c28b0 : decide (400 < (((rd_T26 l0_2 x37_2).f1.f5).length : Int)) = false := decide_eq_false c28
             have c28b1 : decide (400 < ((rd_T26 l0_2 x37_2).f1.f5).length) = false := decide_eq_false (by omega)
             clear c28
             by_cases c33 : (((rd_T26 l0_2 x37_2).f1.f6).length : Int) > 400
             ·
              rw [if_pos c33] at H
              have c33b0 : decide (400 < (((rd_T26 l0_2 x37_2).f1.f6).length : Int)) = true := decide_eq_true c33
              have c33b1 : decide (400 < ((rd_T26 l0_2 x37_2).f1.f6).length) = true := decide_eq_true (by omega)
              clear c33
              obtain rfl := Option.some.inj H
              have p303 : 0 ≤ (x37_2 : Int) := zo
              have q303 : x37_2 < (l0_2.length : Int) := zo
              obtain ⟨ad303, A303_6, c303_6, A303_7, c303_7, e303, hx303_0, hx303_1, hx303_2, hx303_3, hx303_4, hx303_5, hx303_6, hx303_7, hl303_6, hi303_6, hl303_7, hi303_7⟩ := at_T26 HR0_2.out x37_2 p303 q303
              cases e303
              replace hx303_0 := zx HB hx303_0
              replace hx303_1 := zx HB hx303_1
              replace hx303_2 := zx HB hx303_2
              replace hx303_3 := zx HB hx303_3
              replace hx303_4 := zx HB hx303_4
              replace hx303_5 := zx HB hx303_5
              replace hx303_6 := zx HB hx303_6
              replace hx303_7 := zx HB hx303_7
              have HR303_6 := am hi303_6
              have HC303_6 := am hl303_6
              clear hi303_6 hl303_6
              have HR303_7 := am hi303_7
              have HC303_7 := am hl303_7
              clear hi303_7 hl303_7
              replace p303 := eq_true p303
              replace q303 := eq_true q303
              go_wp2_with (first | ((with_reducible refine gate_dst (N := 5) rfl ?_); (try (refine gate_guard (by rfl) ?_; dsimp only)); refine zB 5 #[.int .i64 0, .int .i64 0, .int .i64 0, .int .i64 0, .int .i64 0, .int .i64 0, .slice none 0 0, .slice none 0 0] 26 ?_; intro gb304 hg w34 hbox hb; have BK304 := am (hbox); have GE304 := zG hg (zb HB); replace HB := am (below_step (zb HB) hb); have NB302_304 := zn hg BK302; have NB304_302 := zm hg BK302; replace BK302 := zk BK302 hb; clear hb hbox hg; have hnb35 := NB304_302.out; have hnc35 := NB302_304.out; obtain ⟨_, _, _, _, _, _, _, _, _, _, _, _, _, _, _, _⟩ := zq8 BK304; obtain ⟨_, _, _, _, _, _⟩ := zq3 BK302))
              go_ret
              exact ⟨ze, zb HB⟩
             ·
              rw [if_neg c33] at H
              have c33b0 : decide (400 < (((rd_T26 l0_2 x37_2).f1.f6).length : Int)) = false := decide_eq_false c33
              have c33b1 : decide (400 < ((rd_T26 l0_2 x37_2).f1.f6).length) = false := decide_eq_false (by omega)
              clear c33
              have H' := am H
              clear H
              have p303 : 0 ≤ (x37_2 : Int) := zo
              have q303 : x37_2 < (l0_2.length : Int) := zo
              obtain ⟨ad303, A303_6, c303_6, A303_7, c303_7, e303, hx303_0, hx303_1, hx303_2, hx303_3, hx303_4, hx303_5, hx303_6, hx303_7, hl303_6, hi303_6, hl303_7, hi303_7⟩ := at_T26 HR0_2.out x37_2 p303 q303
              cases e303
              replace hx303_0 := zx HB hx303_0
              replace hx303_1 := zx HB hx303_1
              replace hx303_2 := zx HB hx303_2
              replace hx303_3 := zx HB hx303_3
              replace hx303_4 := zx HB hx303_4
              replace hx303_5 := zx HB hx303_5
              replace hx303_6 := zx HB hx303_6
              replace hx303_7 := zx HB hx303_7
              have HR303_6 := am hi303_6
              have HC303_6 := am hl303_6
              clear hi303_6 hl303_6
              have HR303_7 := am hi303_7
              have HC303_7 := am hl303_7
              clear hi303_7 hl303_7
              replace p303 := eq_true p303
              replace q303 := eq_true q303
              go_wp2_with (first | ((with_reducible refine gate_dst (N := 5) rfl ?_); (try (refine gate_guard (by rfl) ?_; dsimp only)); refine zB 5 #[.int .i64 0, .int .i64 0, .int .i64 0, .int .i64 0, .int .i64 0, .int .i64 0, .slice none 0 0, .slice none 0 0] 26 ?_; intro gb304 hg w38 hbox hb; have BK304 := am (hbox); have GE304 := zG hg (zb HB); replace HB := am (below_step (zb HB) hb); have NB302_304 := zn hg BK302; have NB304_302 := zm hg BK302; replace BK302 := zk BK302 hb; clear hb hbox hg; have hnb39 := NB304_302.out; have hnc39 := NB302_304.out; obtain ⟨_, _, _, _, _, _, _, _, _, _, _, _, _, _, _, _⟩ := zq8 BK304; obtain ⟨_, _, _, _, _, _⟩ := zq3 BK302))
              go_roundg k2
              case measure => have := HJ4.out; have := HK2.out; omega
              case rel => exact ⟨((rd_T26 l0_2 x37_2).f0), (wrap64 (x37_2 + 1)), zr, zr, H', ⟨by have := HJ4.out; have := HK2.out; omega⟩, ⟨by refine zu ?_; refine blk_far ?_ NB302_304.out _; refine zu ?_; refine blk_far ?_ NB302_304.out _; refine zu ?_; refine blk_far ?_ NB302_304.out _; refine zu ?_; refine blk_far ?_ NB302_304.out _; refine zu ?_; refine blk_far ?_ NB302_304.out _; refine zu ?_; refine blk_far ?_ NB302_304.out _; refine zu ?_; refine blk_far ?_ NB302_304.out _; refine zu ?_; refine blk_far ?_ NB302_304.out _; refine zu ?_; exact BK302.out⟩, ⟨zb HB⟩⟩
          ·
           rw [if_neg c22] at H
           obtain ⟨c22b0, c22b1⟩ := zs c22
           obtain rfl := Option.some.inj H
           have p303 : 0 ≤ (x37_2 : Int) := zo
           have q303 : x37_2 < (l0_2.length : Int) := zo
           obtain ⟨ad303, A303_6, c303_6, A303_7, c303_7, e303, hx303_0, hx303_1, hx303_2, hx303_3, hx303_4, hx303_5, hx303_6, hx303_7, hl303_6, hi303_6, hl303_7, hi303_7⟩ := at_T26 HR0_2.out x37_2 p303 q303
           cases e303
           replace hx303_0 := zx HB hx303_0
           replace hx303_1 := zx HB hx303_1
           replace hx303_2 := zx HB hx303_2
           replace hx303_3 := zx HB hx303_3
           replace hx303_4 := zx HB hx303_4
           replace hx303_5 := zx HB hx303_5
           replace hx303_6 := zx HB hx303_6
           replace hx303_7 := zx HB hx303_7
           have HR303_6 := am hi303_6
           have HC303_6 := am hl303_6
           clear hi303_6 hl303_6
           have HR303_7 := am hi303_7
           have HC303_7 := am hl303_7
           clear hi303_7 hl303_7
           replace p303 := eq_true p303
           replace q303 := eq_true q303
           go_wp2_with (first | ((with_reducible refine gate_dst (N := 5) rfl ?_); (try (refine gate_guard (by rfl) ?_; dsimp only)); refine zB 5 #[.int .i64 0, .int .i64 0, .int .i64 0, .int .i64 0, .int .i64 0, .int .i64 0, .slice none 0 0, .slice none 0 0] 26 ?_; intro gb304 hg w42 hbox hb; have BK304 := am (hbox); have GE304 := zG hg (zb HB); replace HB := am (below_step (zb HB) hb); have NB302_304 := zn hg BK302; have NB304_302 := zm hg BK302; replace BK302 := zk BK302 hb; clear hb hbox hg; have hnb43 := NB304_302.out; have hnc43 := NB302_304.out; obtain ⟨_, _, _, _, _, _, _, _, _, _, _, _, _, _, _, _⟩ := zq8 BK304; obtain ⟨_, _, _, _, _, _⟩ := zq3 BK302))
           go_ret
           exact ⟨ze, zb HB⟩
         ·
          rw [if_neg c21] at H
          exact absurd H (by simp)
        ·
         rw [if_neg c20] at H
         exact absurd H (by simp)
       ·
        rw [if_neg c19] at H
        have c19b0 := decide_eq_false c19
        clear c19
        obtain rfl := Option.some.inj H
        go_wp2
        go_ret
        exact ⟨ze, zb HB⟩
def block_seal.f (k : Nat) (l0 : List Int) : Option (Int × Int × Int × Int) := (block_Sum.f k l0).bind fun t309 => (some ((t309 / 16777216) % 256, (t309 / 65536) % 256, (t309 / 256) % 256, (t309) % 256))
theorem block_seal.mono : ∀ a0 k, LeO (block_seal.f k a0) (block_seal.f (k + 1) a0) := by
 intro a0 k
 unfold block_seal.f
 exact zM
set_option maxHeartbeats 8000000 in
set_option maxRecDepth 100000 in
theorem block_seal.calls (k : Nat) (A0 : Option Addr) (c0 : Nat) (l0 : List Int) (r1 : Int) (r2 : Int) (r3 : Int) (r4 : Int) (w : World) (hr0 : Kd.C (Kd.int .u8) w A0 l0.length l0) (hc0 : l0.length ≤ c0) (h : block_seal.f k l0 = some (r1, r2, r3, r4)) :
  Calls Try.prog 52 #[.slice A0 l0.length c0] w fun e w' => e = .returned (.agg #[.int .u8 r1, .int .u8 r2, .int .u8 r3, .int .u8 r4]) ∧ Below w.heap.size w w' := by
 have hu97 := Try.underlying97
 have HR0 := am hr0
 have HC0 := am hc0
 clear hr0 hc0
 have HB := am (Below.refl w.heap.size w)
 have H : ((block_Sum.f k l0).bind fun t309 => (some ((t309 / 16777216) % 256, (t309 / 65536) % 256, (t309 / 256) % 256, (t309) % 256))) = some (r1, r2, r3, r4) := h
 clear h
 replace H := Option.bind_eq_some_iff.mp H
 obtain ⟨t309, A20, H⟩ := H
 (try dsimp only at H)
 have A2 := am A20
 clear A20
 simp only [Option.some.injEq, Prod.mk.injEq] at H
 obtain ⟨rfl, rfl, rfl, rfl⟩ := H
 go_enter Try.func52, Try.ntmps52
 go_wp2_with (first | ((with_reducible refine gate_dst (N := 2) rfl ?_); refine zB 2 #[.int .u8 0, .int .u8 0, .int .u8 0, .int .u8 0] 97 ?_; intro gb308 hg w3 hbox hb; have BK308 := am (hbox); have GE308 := zG hg (zb HB); replace HB := am (below_step (zb HB) hb); clear hb hbox hg) | ((with_reducible refine gate_callee (f := 57) rfl ?_); refine goesL_ (some 5) rfl rfl Try.func57 (by kernel_rfl) rfl #[.slice A0 l0.length c0] rfl zg ?_; (with_reducible refine (block_Sum.calls k _ _ l0 t309 _ ?side1 ?side2 A2.out).mono ?_); (case side1 => exact y11); (case side2 => exact HC0.out); rintro e w' ⟨rfl, ⟨nd, rfl⟩⟩; refine ⟨_, rfl, ?_⟩; (try (rw [drewN_self w3]; generalize hq_ : World.drewN w3 _ = w3; have n0_ : Aside0 (w3.heap[gb308]? = some (.cells #[.int .u8 0, .int .u8 0, .int .u8 0, .int .u8 0] 97 (0, 0))) := ⟨by rw [← hq_]; exact (zu BK308.out)⟩; have n1_ : Aside0 (Below w.heap.size w w3) := ⟨by rw [← hq_]; exact (zb HB)⟩; clear BK308 HB hq_; have BK308 := n0_; have HB := n1_; clear n0_ n1_)); obtain ⟨_, _, _, _, _, _, _, _⟩ := zq4 BK308))
 refine bodyPost_ret (results_cell_row rfl _ _ gb308 97 #[.int .u8 ((t309 / 16777216) % 256), .int .u8 ((t309 / 65536) % 256), .int .u8 ((t309 / 256) % 256), .int .u8 ((t309) % 256)] (0, 0) _ rfl (by refine zu ?_; refine blk_put (cs := #[.int .u8 ((t309 / 16777216) % 256), .int .u8 ((t309 / 65536) % 256), .int .u8 ((t309 / 256) % 256), .int .u8 0]) ?_ 3 _ rfl; refine zu ?_; refine blk_put (cs := #[.int .u8 ((t309 / 16777216) % 256), .int .u8 ((t309 / 65536) % 256), .int .u8 0, .int .u8 0]) ?_ 2 _ rfl; refine zu ?_; refine blk_put (cs := #[.int .u8 ((t309 / 16777216) % 256), .int .u8 0, .int .u8 0, .int .u8 0]) ?_ 1 _ rfl; refine zu ?_; refine blk_put (cs := #[.int .u8 0, .int .u8 0, .int .u8 0, .int .u8 0]) ?_ 0 _ rfl; refine zu ?_; exact BK308.out) Try.underlying97 rfl (by kernel_rfl)) rfl ?_
 exact ⟨ze, zb HB⟩
end Go.Proofs.Ytnmmkgagbfniiaa.A
end
