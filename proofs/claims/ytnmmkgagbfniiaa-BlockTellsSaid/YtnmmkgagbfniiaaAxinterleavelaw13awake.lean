/- Made by a program of this session (drv.py) over the kit's printer: plain functions, and the proofs that the program's functions come to their answers. No condition. -/
import Derived.Test.YtnmmkgagbfniiaaAx0
import Derived.Test.YtnmmkgagbfniiaaAxownwords
import Derived.Test.YtnmmkgagbfniiaaAxblockSum
import Derived.Lib.SlBytesConst
namespace Go.Proofs.Ytnmmkgagbfniiaa.A
open Go.RowKit Go.Proofs.YtnmmkgagbfniiaaW.PrintWords Go.Proofs.YtnmmkgagbfniiaaW.PrintLast Go.Proofs.YtnmmkgagbfniiaaW.PrintMore
attribute [local go_sem] max2_int min2_int max_two min_two max_three min_three max_four min_four   -- for this text's walks alone
set_option linter.unusedVariables false
set_option linter.unusedSimpArgs false

/-! HAND interleavelaw13_awake: function 23 -/
-- IMPORT Derived.Lib.SlBytesConst
def interleavelaw13_awake.f (k : Nat)  : Option (Bool) := (block_Sum.f k (([49, 50, 51, 52, 53, 54, 55, 56, 57] : List Int))).bind fun t112 => (some (t112 == 3421780262))
theorem interleavelaw13_awake.mono : ∀ k, LeO (interleavelaw13_awake.f k ) (interleavelaw13_awake.f (k + 1) ) := by
  intro k
  unfold interleavelaw13_awake.f
  exact LeO.bind (block_Sum.mono _ _) (fun _ => LeO.refl _)
set_option maxHeartbeats 1000000 in
set_option maxRecDepth 100000 in
theorem interleavelaw13_awake.calls (k : Nat)  (r : Bool) (w : World) (h : interleavelaw13_awake.f k  = some r) :
    Calls Try.prog 23 #[] w fun e w' => e = .returned (.bool r) ∧ Below w.heap.size w w' := by
  obtain ⟨t, ht, hr⟩ := Option.bind_eq_some_iff.mp h
  obtain rfl := Option.some.inj hr
  have HT := Aside0.mk ht
  clear ht hr h
  have kc := fun (w : World) (C : Array Value) (n c : Nat) => Lib.run_convert_bytes_const (P := Try.prog) w 27 5 C n c Try.underlying27 Try.underlying5
  have HR := Aside0.mk (ow_reads_new w .u8 [49, 50, 51, 52, 53, 54, 55, 56, 57] 5 (9, 10) (by decide))
  go_enter Try.func23, Try.ntmps23
  go_wp2_with (go_at_call 57; refine (block_Sum.calls k _ 9 _ t _ HR.out (by decide) HT.out).mono ?_; rintro e w' ⟨rfl, hd⟩; have HD := Aside0.mk hd; clear hd)
  go_ret
  exact ⟨rfl, ow_below_drawn (below_alloc (Below.refl _ _) _) HD.out⟩

end Go.Proofs.Ytnmmkgagbfniiaa.A
