/- Made by a program of this session (drv.py) over the kit's printer: plain functions, and the proofs that the program's functions come to their answers. No condition. -/
import Derived.Test.YtnmmkgagbfniiaaAx0
import Derived.Test.YtnmmkgagbfniiaaAxownwords
import Derived.Test.YtnmmkgagbfniiaaAxeventappendInt
namespace Go.Proofs.Ytnmmkgagbfniiaa.A
open Go.RowKit Go.Proofs.YtnmmkgagbfniiaaW.PrintWords Go.Proofs.YtnmmkgagbfniiaaW.PrintLast Go.Proofs.YtnmmkgagbfniiaaW.PrintMore
attribute [local go_sem] max2_int min2_int max_two min_two max_three min_three max_four min_four   -- for this text's walks alone
set_option linter.unusedVariables false
set_option linter.unusedSimpArgs false

/-! HAND event_PutInt: function 49 -/
set_option maxHeartbeats 4000000 in
set_option maxRecDepth 100000 in
/-- appendInt over a slice that came in and has no spare room. -/
theorem event_appendInt_tight (k : Nat) (A0 : Option Addr) (l0 : List Int) (a1 : Int) (r : List Int) (w : World) (hr0 : Kd.C (Kd.int .u8) w A0 l0.length l0) (h : event_appendInt.f k l0 a1 = some r) :
    Calls Try.prog 40 #[.slice A0 l0.length l0.length, .int .i64 a1] w fun e w' => ∃ v0_ : Value, e = .returned (v0_) ∧ Kd.R (Kd.int .u8) 5 w' w.heap.size (fun _ => True) v0_ r ∧ Below w.heap.size w w' := by
  have HR := Aside0.mk hr0
  have HN := Aside0.mk (ow_none hr0)
  clear hr0
  have H' : Aside0 ((event_appendInt.l0 k l0 (Go.bits .xor .u64 (IntKind.u64.wrap ((IntKind.u64.wrap (a1)) * 2)) (IntKind.u64.wrap (a1 / 9223372036854775808)))) = some r) := ⟨h⟩
  clear h
  have HW := Aside0.mk (Nat.le_refl w.heap.size)
  go_enter Try.func40, Try.ntmps40
  go_wp2
  go_loopg [0, 5] k (fun kq v0 v5 w' => ∃ (x0_1 : List Int) (x5_1 : Int), v5 = .int .u64 x5_1 ∧ Aside0 (event_appendInt.l0 kq x0_1 x5_1 = some r) ∧ Aside0 (kq ≤ k) ∧ Aside0 (Below w.heap.size w w') ∧ (v0 = .slice A0 x0_1.length x0_1.length ∧ Aside0 (x0_1 = l0) ∨ Aside0 (Kd.R (Kd.int .u8) 5 w' w.heap.size (fun _ => True) v0 x0_1)))
  case atStart => exact ⟨l0, _, rfl, H', ⟨Nat.le_refl _⟩, ⟨Below.refl _ _⟩, .inl ⟨rfl, ⟨rfl⟩⟩⟩
  case round =>
    clear H'
    try clear p2
    obtain ⟨x0_1, x5_1, rfl, HA, HK1, HB, HO⟩ := hrel
    cases gk with
    | zero => exact absurd HA.out (by simp [event_appendInt.l0])
    | succ k1 =>
      have H := HA.out
      clear HA
      simp only [event_appendInt.l0] at H
      by_cases c3 : x5_1 ≥ 128
      · rw [if_pos c3] at H
        have c3b0 : decide (128 ≤ x5_1) = true := decide_eq_true c3
        clear c3
        by_cases c4 : x0_1.length < 140737488355328
        · rw [if_pos c4] at H
          have LM := Aside0.mk c4
          clear c4
          have H' := Aside0.mk H
          clear H
          rcases HO with ⟨rfl, HX⟩ | HO
          · have HX1 := Aside0.mk (show Kd.C (Kd.int .u8) wr A0 x0_1.length x0_1 by rw [HX.out]; exact Kd.C_below HR.out HB.out)
            have HX2 := Aside0.mk (show A0 = none → x0_1 = [] by rw [HX.out]; exact HN.out)
            clear HX
            go_wp2_with (first | ((with_reducible refine gate_builtin (b := .append) (xs := #[.tmp 15, .tmp 19]) rfl ?_); at_builtin; refine ow_append_tight _ rfl (.tmp 15) (.tmp 19) 27 5 .u8 1 rfl Try.underlying27 info5 (by decide) A0 x0_1 _ rfl rfl HX1.out HX2.out ?aL ?_; (case aL => have := LM.out; omega); intro v102 w5 ho hb; have n0_ := Aside0.mk (below_then HB.out HB.out.size hb); have n2_ := Aside0.mk (Kd.R_lower ho HB.out.size); clear HB HX1 HX2; have HB := n0_; have HO := n2_; clear n0_ n2_ ho hb))
            go_roundg k1
            case measure => have := HK1.out; omega
            case rel => exact ⟨_, (x5_1 / 128), rfl, H', ⟨by have := HK1.out; omega⟩, HB, .inr HO⟩
          · go_wp2_with (first | ((with_reducible refine gate_builtin (b := .append) (xs := #[.tmp 15, .tmp 19]) rfl ?_); at_builtin; refine Kd.R_append (Kd.int .u8) (w0 := w) w.heap.size rfl (.tmp 15) (.tmp 19) 27 5 (.int .u8 0) 1 rfl Try.underlying27 info5 rfl (by decide) (by omega) u0 x0_1 (Go.bits .or .u8 ((x5_1) % 256) 128) [.int .u8 (Go.bits .or .u8 ((x5_1) % 256) 128)] (fun _ => True) (fun _ => False) rfl rfl ?aP (fun _ hk => hk.elim) ?aF ?aO ?aB ?aS ?aL ?_; (case aP => exact rfl); (case aB => exact HB.out); (case aF => exact (fun _ _ => trivial)); (case aO => exact HO.out); (case aS => exact HB.out.size); (case aL => have := LM.out; omega); intro v102 w5 ho hb hg hat; have n0_ := Aside0.mk (hb); have n2_ := Aside0.mk (ho); clear HB; clear HO; have HB := n0_; have HO := n2_; clear n0_ n2_; clear ho hb hg hat))
            go_roundg k1
            case measure => have := HK1.out; omega
            case rel => exact ⟨_, (x5_1 / 128), rfl, H', ⟨by have := HK1.out; omega⟩, HB, .inr HO⟩
        · rw [if_neg c4] at H
          exact absurd H (by simp)
      · rw [if_neg c3] at H
        have c3b0 : decide (128 ≤ x5_1) = false := decide_eq_false c3
        clear c3
        by_cases c6 : x0_1.length < 140737488355328
        · rw [if_pos c6] at H
          have LM := Aside0.mk c6
          clear c6
          obtain rfl := Option.some.inj H
          rcases HO with ⟨rfl, HX⟩ | HO
          · have HX1 := Aside0.mk (show Kd.C (Kd.int .u8) wr A0 x0_1.length x0_1 by rw [HX.out]; exact Kd.C_below HR.out HB.out)
            have HX2 := Aside0.mk (show A0 = none → x0_1 = [] by rw [HX.out]; exact HN.out)
            clear HX
            go_wp2_with (first | ((with_reducible refine gate_builtin (b := .append) (xs := #[.tmp 23, .tmp 26]) rfl ?_); at_builtin; refine ow_append_tight _ rfl (.tmp 23) (.tmp 26) 27 5 .u8 1 rfl Try.underlying27 info5 (by decide) A0 x0_1 _ rfl rfl HX1.out HX2.out ?aL ?_; (case aL => have := LM.out; omega); intro v102 w5 ho hb; have n0_ := Aside0.mk (below_then HB.out HB.out.size hb); have n2_ := Aside0.mk (Kd.R_lower ho HB.out.size); clear HB HX1 HX2; have HB := n0_; have HO := n2_; clear n0_ n2_ ho hb))
            go_ret
            exact ⟨_, rfl, HO.out, HB.out⟩
          · go_wp2_with (first | ((with_reducible refine gate_builtin (b := .append) (xs := #[.tmp 23, .tmp 26]) rfl ?_); at_builtin; refine Kd.R_append (Kd.int .u8) (w0 := w) w.heap.size rfl (.tmp 23) (.tmp 26) 27 5 (.int .u8 0) 1 rfl Try.underlying27 info5 rfl (by decide) (by omega) u0 x0_1 ((x5_1) % 256) [.int .u8 ((x5_1) % 256)] (fun _ => True) (fun _ => False) rfl rfl ?aP (fun _ hk => hk.elim) ?aF ?aO ?aB ?aS ?aL ?_; (case aP => exact rfl); (case aB => exact HB.out); (case aF => exact (fun _ _ => trivial)); (case aO => exact HO.out); (case aS => exact HB.out.size); (case aL => have := LM.out; omega); intro v102 w5 ho hb hg hat; have n0_ := Aside0.mk (hb); have n2_ := Aside0.mk (ho); clear HB; clear HO; have HB := n0_; have HO := n2_; clear n0_ n2_; clear ho hb hg hat))
            go_ret
            exact ⟨_, rfl, HO.out, HB.out⟩
        · rw [if_neg c6] at H
          exact absurd H (by simp)
def event_PutInt.f (k : Nat) (l0 : List Int) (a1 : Int) : Option (List Int) := event_appendInt.f k l0 a1
theorem event_PutInt.mono : ∀ a0 a1 k, LeO (event_PutInt.f k a0 a1) (event_PutInt.f (k + 1) a0 a1) := event_appendInt.mono
set_option maxHeartbeats 1000000 in
set_option maxRecDepth 100000 in
theorem event_PutInt.calls (k : Nat) (A0 : Option Addr) (c0 : Nat) (l0 : List Int) (a1 : Int) (r : List Int) (w : World) (hr0 : Kd.C (Kd.int .u8) w A0 l0.length l0) (hc0 : l0.length ≤ c0) (h : event_PutInt.f k l0 a1 = some r) :
    Calls Try.prog 49 #[.slice A0 l0.length c0, .int .i64 a1] w fun e w' => ∃ v0_ : Value, e = .returned (v0_) ∧ Kd.R (Kd.int .u8) 5 w' w.heap.size (fun _ => True) v0_ r ∧ Below w.heap.size w w' := by
  have HC := Aside0.mk (event_appendInt_tight k A0 l0 a1 r w hr0 h)
  have HN := Aside0.mk (ow_none hr0)
  clear hr0 h
  go_enter Try.func49, Try.ntmps49
  go_wp2_with (go_at_call 40; refine HC.out.mono ?_; rintro e w' ⟨v, rfl, ho, hb⟩; have HO := Aside0.mk ho; have HB := Aside0.mk hb; clear ho hb)
  go_ret
  exact ⟨_, rfl, HO.out, HB.out⟩

end Go.Proofs.Ytnmmkgagbfniiaa.A
