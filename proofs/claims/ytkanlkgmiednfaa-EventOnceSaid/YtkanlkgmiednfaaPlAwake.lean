/- The sanity check of layer 11 answers true. -/
import Derived.Test.YtkanlkgmiednfaaPlInt2
import Derived.Test.YtkanlkgmiednfaaAxinterleavelaw11awake
namespace Go.Proofs.Ytkanlkgmiednfaa.Pl
open Go.RowKit Go.Proofs.YtkanlkgmiednfaaW.PrintWords Go.Proofs.YtkanlkgmiednfaaW.PrintMore Go.Proofs.Ytkanlkgmiednfaa.A
theorem enc64 : enc 64 = [128, 1] := by
  unfold enc
  rw [show (zz 64).toNat = 128 from rfl, encN_big (by omega), encN_small (by omega)]
  rfl
theorem event_awake : Ev (fun k => interleavelaw11_awake.f k) true := by
  have h := putInt_f (a := 64) (by omega) (by omega) [] (by simp)
  rw [enc64] at h
  exact Ev.bind h ⟨0, fun k _ => by simp [rd]⟩
end Go.Proofs.Ytkanlkgmiednfaa.Pl
