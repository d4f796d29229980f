/- A packed stream that is cut gives the beginning of the bytes, or is truncated: the plain side of the statement PackCuts. No condition. -/
import Derived.Test.YtkanlkgmiednfaaPlPack4
import Derived.Test.YtkanlkgmiednfaaAxinterleavelaw12PackCuts
namespace Go.Proofs.Ytkanlkgmiednfaa.Pure
open Go.RowKit Go.Proofs.YtkanlkgmiednfaaW.PrintWords Go.Proofs.YtkanlkgmiednfaaW.PrintMore Go.Proofs.Ytkanlkgmiednfaa.A Go.Proofs.Ytkanlkgmiednfaa.Pl
theorem cuts_yes (x : List Int) (a : Int) : Ev (fun k => interleavelaw12_PackCuts.j0 k x a true) true := by
  refine Ev.step (f := fun _ => some _) (fun k => ?_) (Ev.now _)
  simp only [interleavelaw12_PackCuts.j0]
  rw [if_pos trivial]
theorem cuts_no (x : List Int) (a : Nat) (ha : a < 65536) (hx : ∀ c ∈ x, 0 ≤ c ∧ c < 256) (h0 : x.length ≠ 0) (h1 : x.length ≤ 2000) : Ev (fun k => interleavelaw12_PackCuts.j0 k x (a : Int) false) true := by
  have s1 := packS_length x
  have hch := packS_ch x
  have hp := ch_bytes hx hch
  have hne : (packS x).length ≠ 0 := by
    intro e
    rw [List.eq_nil_of_length_eq_zero e] at hch
    generalize hz : (0 : Nat) = z at hch
    cases hch
    exact h0 hz.symm
  obtain ⟨p, hpe⟩ : ∃ p, packS x = p := ⟨_, rfl⟩
  rw [hpe] at s1 hch hp hne
  have e1 : Int.tmod (wrap64 (a : Int)) (p.length : Int) = ((a % p.length : Nat) : Int) := by
    rw [wrap64_id (by omega) (by omega), Int.tmod_eq_emod_of_nonneg (by omega)]
    rfl
  have hm : a % p.length < p.length := Nat.mod_lt _ (by omega)
  generalize a % p.length = m at e1 hm
  have hE1 := Aside0.mk e1
  clear e1
  have hlen : (p.take m).length = m := by rw [List.length_take]; omega
  have hpt : ∀ c ∈ p.take m, 0 ≤ c ∧ c < 256 := fun c hc => hp c (List.mem_of_mem_take hc)
  have hpk := pack_f x (by omega)
  rw [hpe] at hpk
  have hun : Ev (fun k => pack_Unpack.f k (p.take m) (x.length : Int)) (un (x.length : Int) p.length (p.take m) []) := unpack_l0 (by rw [hlen]; omega) hpt (x.length : Int) p.length 0 [] (by omega) (by rw [hlen]; omega) (by simp only [List.length_nil]; omega)
  refine Ev.step (fun k => by simp only [interleavelaw12_PackCuts.j0]; rw [if_neg (by simp)]) (Ev.bind hpk ?_)
  refine Ev.congr (fun k => by rw [if_neg (by omega), hE1.out, if_pos (by omega), if_pos (by omega), Int.toNat_natCast]) (Ev.bind hun ?_)
  rcases un_cut (lim := (x.length : Int)) (by omega) hch p.length m hm (Nat.le_refl _) with h | ⟨j, hj, h⟩
  · rw [List.take_zero] at h
    rw [h]
    refine Ev.congr (fun k => ?_) (Ev.now true)
    rw [if_neg (by decide), if_pos rfl]
    rfl
  · rw [List.take_zero] at h
    rw [h]
    have hjl : (x.take j).length = j := by rw [List.length_take]; omega
    refine Ev.congr (fun k => ?_) (Ev.bind (same_yes (x.take j) (by omega)) (Ev.now true))
    rw [if_pos rfl, hjl, if_pos (by omega), if_pos (by omega), if_pos (by omega), Int.toNat_natCast]
theorem PackCuts : interleavelaw12_PackCuts.Pure := by
  intro x a _ hx hxb ha
  have hX : ∀ c ∈ x, 0 ≤ c ∧ c < 256 := fun c hc => u8_bounds (hxb c hc)
  have ha' : 0 ≤ a ∧ a < 65536 := by
    simp [Lit.wf, IntKind.min, IntKind.max, IntKind.signed, IntKind.bits] at ha
    omega
  obtain ⟨n, rfl⟩ := Int.eq_ofNat_of_zero_le ha'.1
  refine Ev.rounds ?_
  by_cases h : (x.length : Int) = 0
  · exact Ev.congr (fun k => by unfold interleavelaw12_PackCuts.f; rw [if_pos h]) (cuts_yes x n)
  · by_cases h2 : (x.length : Int) > 2000
    · exact Ev.congr (fun k => by unfold interleavelaw12_PackCuts.f; rw [if_neg h, decide_eq_true h2]) (cuts_yes x n)
    · exact Ev.congr (fun k => by unfold interleavelaw12_PackCuts.f; rw [if_neg h, decide_eq_false h2]) (cuts_no x n (by omega) hX (by omega) (by omega))
end Go.Proofs.Ytkanlkgmiednfaa.Pure
