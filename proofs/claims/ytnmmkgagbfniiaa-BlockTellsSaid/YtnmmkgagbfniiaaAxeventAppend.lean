/- Made by a program of this session (drv.py) over the kit's printer: plain functions, and the proofs that the program's functions come to their answers. No condition. -/
import Derived.Test.YtnmmkgagbfniiaaAx0
import Derived.Test.YtnmmkgagbfniiaaAxownwords
import Derived.Test.YtnmmkgagbfniiaaAxeventappendInt
import Derived.Test.YtnmmkgagbfniiaaAxeventappendList
import Derived.Test.YtnmmkgagbfniiaaAxeventPutInt
namespace Go.Proofs.Ytnmmkgagbfniiaa.A
open Go.RowKit Go.Proofs.YtnmmkgagbfniiaaW.PrintWords Go.Proofs.YtnmmkgagbfniiaaW.PrintLast Go.Proofs.YtnmmkgagbfniiaaW.PrintMore
attribute [local go_sem] max2_int min2_int max_two min_two max_three min_three max_four min_four   -- for this text's walks alone
set_option linter.unusedVariables false
set_option linter.unusedSimpArgs false

/-! HAND event_Append: function 12 -/
def event_Append.f (k : Nat) (l0 : List Int) (a1_0 : Int) (a1_1 : Int) (a1_2 : Int) (a1_3 : Int) (a1_4 : Int) (a1_5 : Int) (l1_6 : List Int) (l1_7 : List Int) (a2 : Int) : Option (List Int) :=
  (event_appendInt.f k l0 (wrap64 (a1_0 - a2))).bind fun t1 => (event_appendInt.f k t1 a1_2).bind fun t2 => (event_appendInt.f k t2 a1_3).bind fun t3 => (event_appendInt.f k t3 a1_4).bind fun t4 => (event_appendInt.f k t4 a1_5).bind fun t5 => (event_appendList.f k t5 l1_6).bind fun t6 => event_appendList.f k t6 l1_7
theorem event_Append.mono : ∀ a0 a1 a2 a3 a4 a5 a6 a7 a8 a9 k, LeO (event_Append.f k a0 a1 a2 a3 a4 a5 a6 a7 a8 a9) (event_Append.f (k + 1) a0 a1 a2 a3 a4 a5 a6 a7 a8 a9) := by
  intro a0 a1 a2 a3 a4 a5 a6 a7 a8 a9 k
  unfold event_Append.f
  exact LeO.bind (event_appendInt.mono _ _ _) fun _ => LeO.bind (event_appendInt.mono _ _ _) fun _ => LeO.bind (event_appendInt.mono _ _ _) fun _ => LeO.bind (event_appendInt.mono _ _ _) fun _ => LeO.bind (event_appendInt.mono _ _ _) fun _ => LeO.bind (event_appendList.mono _ _ _) fun _ => event_appendList.mono _ _ _
set_option maxHeartbeats 4000000 in
set_option maxRecDepth 100000 in
theorem event_Append.calls (k : Nat) (A0 : Option Addr) (c0 : Nat) (l0 : List Int) (a1_0 : Int) (a1_1 : Int) (a1_2 : Int) (a1_3 : Int) (a1_4 : Int) (a1_5 : Int) (A1_6 : Option Addr) (c1_6 : Nat) (l1_6 : List Int) (A1_7 : Option Addr) (c1_7 : Nat) (l1_7 : List Int) (a2 : Int) (r : List Int) (w : World) (hr0 : Kd.C (Kd.int .u8) w A0 l0.length l0) (hc0 : l0.length ≤ c0) (hr1_6 : Kd.C (Kd.int .i64) w A1_6 l1_6.length l1_6) (hc1_6 : l1_6.length ≤ c1_6) (hr1_7 : Kd.C (Kd.int .i64) w A1_7 l1_7.length l1_7) (hc1_7 : l1_7.length ≤ c1_7) (h : event_Append.f k l0 a1_0 a1_1 a1_2 a1_3 a1_4 a1_5 l1_6 l1_7 a2 = some r) :
    Calls Try.prog 12 #[.slice A0 l0.length c0, .agg #[.int .i64 a1_0, .int .i64 a1_1, .int .i64 a1_2, .int .i64 a1_3, .int .i64 a1_4, .int .i64 a1_5, .slice A1_6 l1_6.length c1_6, .slice A1_7 l1_7.length c1_7], .int .i64 a2] w fun e w' => ∃ v0_ : Value, e = .returned (v0_) ∧ Kd.R (Kd.int .u8) 5 w' w.heap.size (fun _ => True) v0_ r ∧ Below w.heap.size w w' := by
  obtain ⟨t1, h1, h⟩ := Option.bind_eq_some_iff.mp h
  obtain ⟨t2, h2, h⟩ := Option.bind_eq_some_iff.mp h
  obtain ⟨t3, h3, h⟩ := Option.bind_eq_some_iff.mp h
  obtain ⟨t4, h4, h⟩ := Option.bind_eq_some_iff.mp h
  obtain ⟨t5, h5, h⟩ := Option.bind_eq_some_iff.mp h
  obtain ⟨t6, h6, h7⟩ := Option.bind_eq_some_iff.mp h
  have HT0 := Aside0.mk h1
  obtain ⟨ns, hns⟩ : ∃ f : Nat → Int, f = fun j => [wrap64 (a1_0 - a2), a1_2, a1_3, a1_4, a1_5].getD j 0 := ⟨_, rfl⟩
  obtain ⟨ts, hts⟩ : ∃ f : Nat → List Int, f = fun j => [l0, t1, t2, t3, t4, t5].getD j [] := ⟨_, rfl⟩
  have HT := Aside0.mk (show ∀ j, j < 5 → event_appendInt.f k (ts j) (ns j) = some (ts (j + 1)) by
    subst hns hts
    intro j hj
    match j, hj with
    | 0, _ => exact h1
    | 1, _ => exact h2
    | 2, _ => exact h3
    | 3, _ => exact h4
    | 4, _ => exact h5)
  have HR0 := Aside0.mk hr0
  have HN0 := Aside0.mk (ow_none hr0)
  have HR6 := Aside0.mk hr1_6
  have HC6 := Aside0.mk hc1_6
  have HR7 := Aside0.mk hr1_7
  have HC7 := Aside0.mk hc1_7
  have HT6 := Aside0.mk h6
  have HT7 := Aside0.mk h7
  have HT5 := Aside0.mk (show ts 5 = t5 by rw [hts]; rfl)
  have HTZ := Aside0.mk (show ts 0 = l0 by rw [hts]; rfl)
  have HNS := Aside0.mk hns
  clear hr0 hr1_6 hc1_6 hr1_7 hc1_7 h h1 h2 h3 h4 h5 h6 h7 hts hns HT0
  go_enter Try.func12, Try.ntmps12
  go_wp2
  obtain ⟨W3, hW3⟩ : ∃ W3 : World, W3 = ((w.alloc (.cells #[.int .i64 a1_0, .int .i64 a1_1, .int .i64 a1_2, .int .i64 a1_3, .int .i64 a1_4, .int .i64 a1_5, .slice A1_6 l1_6.length c1_6, .slice A1_7 l1_7.length c1_7] 26)).alloc (.cells #[.int .i64 a1_1, .int .i64 a1_2, .int .i64 a1_3, .int .i64 a1_4, .int .i64 a1_5, .slice A1_6 l1_6.length c1_6, .slice A1_7 l1_7.length c1_7] 24)).alloc (.cells #[.int .i64 (wrap64 (a1_0 - a2)), .int .i64 a1_2, .int .i64 a1_3, .int .i64 a1_4, .int .i64 a1_5] 2) := ⟨_, rfl⟩
  rw [← hW3]
  have HZ := Aside0.mk (show W3.heap.size = w.heap.size + 3 by rw [hW3]; simp)
  have HB0 := Aside0.mk (show Below w.heap.size w W3 by rw [hW3]; exact below_alloc (below_alloc (below_alloc (Below.refl _ _) _) _) _)
  have HE := Aside0.mk (show ∀ j, j < 5 → W3.cell? ⟨w.heap.size + 1 + 1, j, none⟩ = some (.int .i64 (ns j)) by
    intro j hj
    rw [hW3]
    have := World.cell?_alloc_mark ((w.alloc (.cells #[.int .i64 a1_0, .int .i64 a1_1, .int .i64 a1_2, .int .i64 a1_3, .int .i64 a1_4, .int .i64 a1_5, .slice A1_6 l1_6.length c1_6, .slice A1_7 l1_7.length c1_7] 26)).alloc (.cells #[.int .i64 a1_1, .int .i64 a1_2, .int .i64 a1_3, .int .i64 a1_4, .int .i64 a1_5, .slice A1_6 l1_6.length c1_6, .slice A1_7 l1_7.length c1_7] 24)) #[.int .i64 (wrap64 (a1_0 - a2)), .int .i64 a1_2, .int .i64 a1_3, .int .i64 a1_4, .int .i64 a1_5] 2 (0, 0) j
    rw [show ((w.alloc (.cells #[.int .i64 a1_0, .int .i64 a1_1, .int .i64 a1_2, .int .i64 a1_3, .int .i64 a1_4, .int .i64 a1_5, .slice A1_6 l1_6.length c1_6, .slice A1_7 l1_7.length c1_7] 26)).alloc (.cells #[.int .i64 a1_1, .int .i64 a1_2, .int .i64 a1_3, .int .i64 a1_4, .int .i64 a1_5, .slice A1_6 l1_6.length c1_6, .slice A1_7 l1_7.length c1_7] 24)).heap.size = w.heap.size + 1 + 1 by simp] at this
    rw [this, HNS.out]
    match j, hj with
    | 0, _ => rfl
    | 1, _ => rfl
    | 2, _ => rfl
    | 3, _ => rfl
    | 4, _ => rfl)
  have HD := Aside0.mk (show W3.cell? ⟨w.heap.size + 1, 5, none⟩ = some (.slice A1_6 l1_6.length c1_6) ∧ W3.cell? ⟨w.heap.size + 1, 6, none⟩ = some (.slice A1_7 l1_7.length c1_7) by
    have key := World.cell?_alloc_mark (w.alloc (.cells #[.int .i64 a1_0, .int .i64 a1_1, .int .i64 a1_2, .int .i64 a1_3, .int .i64 a1_4, .int .i64 a1_5, .slice A1_6 l1_6.length c1_6, .slice A1_7 l1_7.length c1_7] 26)) #[.int .i64 a1_1, .int .i64 a1_2, .int .i64 a1_3, .int .i64 a1_4, .int .i64 a1_5, .slice A1_6 l1_6.length c1_6, .slice A1_7 l1_7.length c1_7] 24 (0, 0)
    rw [show (w.alloc (.cells #[.int .i64 a1_0, .int .i64 a1_1, .int .i64 a1_2, .int .i64 a1_3, .int .i64 a1_4, .int .i64 a1_5, .slice A1_6 l1_6.length c1_6, .slice A1_7 l1_7.length c1_7] 26)).heap.size = w.heap.size + 1 by simp] at key
    rw [hW3]
    exact ⟨pw_cell_below (below_alloc (Below.refl _ _) _) (key 5), pw_cell_below (below_alloc (Below.refl _ _) _) (key 6)⟩)
  clear hW3
  go_loopw [8, 33] (fun v i wr => ∃ j : Nat, j ≤ 5 ∧ i = .int .i64 j ∧ Aside0 (Below W3.heap.size W3 wr) ∧ (v = .slice A0 l0.length l0.length ∧ Aside0 (j = 0) ∨ Aside0 (0 < j ∧ Kd.R (Kd.int .u8) 5 wr W3.heap.size (fun k_ => W3.heap.size ≤ k_) v (ts j)))) (fun _ i _ => 5 - (intOf i).toNat)
  case atStart => exact ⟨0, by omega, rfl, ⟨Below.refl _ _⟩, .inl ⟨rfl, ⟨rfl⟩⟩⟩
  case round =>
    obtain ⟨j, hj, rfl, HB, HO⟩ := hrel
    by_cases hlt : j < 5
    · have hcell : wr.cell? ⟨w.heap.size + 1 + 1, j, none⟩ = some (.int .i64 (ns j)) := (HB.out.cell (p := ⟨w.heap.size + 1 + 1, j, none⟩) (by have := HZ.out; show _ < _; simp; omega)).trans (HE.out j hlt)
      have HTj := Aside0.mk (HT.out j hlt)
      rcases HO with ⟨rfl, HJ⟩ | HO
      · have HX := Aside0.mk (show Kd.C (Kd.int .u8) wr A0 l0.length l0 from Kd.C_below (Kd.C_below HR0.out HB0.out) HB.out)
        have HTq := Aside0.mk (show event_appendInt.f k l0 (ns j) = some (ts (j + 1)) by have := HTj.out; rw [HJ.out, HTZ.out] at this; rw [HJ.out]; exact this)
        go_wp2_with (go_at_call 40; refine (event_appendInt_tight k A0 l0 (ns j) (ts (j + 1)) _ HX.out HTq.out).mono ?_; rintro e w5 ⟨v5, rfl, ho, hb⟩; have HO1 := Aside0.mk (Kd.R_mono (ok' := fun k_ => W3.heap.size ≤ k_) (Kd.R_bound (Kd.R_lower ho HB.out.size)) (fun _ hk => hk.2.1)); have HB1 := Aside0.mk (below_then HB.out HB.out.size hb); clear ho hb)
        go_roundw
        case rel => exact ⟨j + 1, by omega, by go_num, HB1, .inr ⟨by omega, HO1.out⟩⟩
        case measure => simp [intOf]; omega
      · have HO' := Aside0.mk HO.out.2
        clear HO
        obtain ⟨Ao, co, eo⟩ := Kd.R_slice HO'.out
        subst eo
        go_wp2_with (go_at_call 40; refine (event_appendInt.calls k (fun k_ => W3.heap.size ≤ k_) (.slice Ao (ts j).length co) (ts j) (ns j) (ts (j + 1)) W3 _ HB.out HO'.out HTj.out).mono ?_; rintro e w5 ⟨v5, rfl, ho, hb, hkp⟩; have HO1 := Aside0.mk (Kd.R_mono (ok' := fun k_ => W3.heap.size ≤ k_) (Kd.R_bound ho) (fun _ hk => hk.2.1)); have HB1 := Aside0.mk hb; clear ho hb hkp)
        go_roundw
        case rel => exact ⟨j + 1, by omega, by go_num, HB1, .inr ⟨by omega, HO1.out⟩⟩
        case measure => simp [intOf]; omega
    · obtain rfl : j = 5 := by omega
      rcases HO with ⟨rfl, HJ⟩ | HO
      · exact absurd HJ.out (by omega)
      · have HO' := Aside0.mk (show Kd.R (Kd.int .u8) 5 wr W3.heap.size (fun k_ => W3.heap.size ≤ k_) u8 t5 by rw [← HT5.out]; exact HO.out.2)
        clear HO
        obtain ⟨Ao, co, eo⟩ := Kd.R_slice HO'.out
        subst eo
        have HS := Aside0.mk (show ∀ w', Below W3.heap.size W3 w' → w'.cell? ⟨w.heap.size + 1, 5, none⟩ = some (.slice A1_6 l1_6.length c1_6) ∧ w'.cell? ⟨w.heap.size + 1, 6, none⟩ = some (.slice A1_7 l1_7.length c1_7) from fun w' hb => ⟨(hb.cell (p := ⟨w.heap.size + 1, 5, none⟩) (by have := HZ.out; show _ < _; simp; omega)).trans HD.out.1, (hb.cell (p := ⟨w.heap.size + 1, 6, none⟩) (by have := HZ.out; show _ < _; simp; omega)).trans HD.out.2⟩)
        have HQ6 := Aside0.mk (show ∀ wx W_ : World, Below W3.heap.size W3 wx → Kept wx W_ (fun k_ => W3.heap.size ≤ k_) → Kd.C (Kd.int .i64) W_ A1_6 l1_6.length l1_6 from fun wx W_ hb hk => Kd.C_kept_came (Kd.heap_int .i64) (Kd.C_below HR6.out HB0.out) hb (fun _ h => h) W_ hk)
        have HQ7 := Aside0.mk (show ∀ wx W_ : World, Below W3.heap.size W3 wx → Kept wx W_ (fun k_ => W3.heap.size ≤ k_) → Kd.C (Kd.int .i64) W_ A1_7 l1_7.length l1_7 from fun wx W_ hb hk => Kd.C_kept_came (Kd.heap_int .i64) (Kd.C_below HR7.out HB0.out) hb (fun _ h => h) W_ hk)
        go_wp2
        go_region_held3 (fun w' => w'.cell? ⟨w.heap.size + 1, 5, none⟩ = some (.slice A1_6 l1_6.length c1_6) ∧ w'.cell? ⟨w.heap.size + 1, 6, none⟩ = some (.slice A1_7 l1_7.length c1_7)) (exact HS.out _ (by repeat (first | exact HB2.out | exact HB1.out | exact HB.out | apply below_drew1 | apply pw_below_drewN))) (first | (go_at_call 41; refine (event_appendList.calls k (fun k_ => W3.heap.size ≤ k_) (.slice Ao t5.length co) t5 A1_6 c1_6 l1_6 t6 W3 _ ?s1 ?s2 ?s3 HC6.out HT6.out).mono ?_; (case s1 => repeat (first | exact HB.out | apply below_drew1 | apply pw_below_drewN)); (case s2 => repeat (first | exact HO'.out | apply Kd.R_drewN | apply Kd.R_drew)); (case s3 => exact fun W_ hk => HQ6.out _ W_ (by repeat (first | exact HB.out | apply below_drew1 | apply pw_below_drewN)) hk); rintro e w5 ⟨v5, rfl, ho, hb, hkp⟩; have HO1 := Aside0.mk (Kd.R_mono (ok' := fun k_ => W3.heap.size ≤ k_) (Kd.R_bound ho) (fun _ hk => hk.2.1)); have HB1 := Aside0.mk hb; clear ho hb hkp HT6) | (go_at_call 41; refine (event_appendList.calls k (fun k_ => W3.heap.size ≤ k_) _ t6 A1_7 c1_7 l1_7 r W3 _ ?s1 ?s2 ?s3 HC7.out HT7.out).mono ?_; (case s1 => repeat (first | exact HB1.out | apply below_drew1 | apply pw_below_drewN)); (case s2 => repeat (first | exact HO1.out | apply Kd.R_drewN | apply Kd.R_drew)); (case s3 => exact fun W_ hk => HQ7.out _ W_ (by repeat (first | exact HB1.out | apply below_drew1 | apply pw_below_drewN)) hk); rintro e w6 ⟨v6, rfl, ho, hb, hkp⟩; have HO2 := Aside0.mk (Kd.R_mono (ok' := fun k_ => W3.heap.size ≤ k_) (Kd.R_bound ho) (fun _ hk => hk.2.1)); have HB2 := Aside0.mk hb; clear ho hb hkp))
        all_goals
          go_wp2
          go_ret
          exact ⟨_, rfl, Kd.R_mono (Kd.R_lower HO2.out HB0.out.size) (fun _ _ => trivial), below_then HB0.out HB0.out.size HB2.out⟩

end Go.Proofs.Ytnmmkgagbfniiaa.A
