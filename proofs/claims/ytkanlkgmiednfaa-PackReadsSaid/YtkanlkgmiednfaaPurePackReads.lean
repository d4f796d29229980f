/- The program's Unpack answers as the reference's Unpack does, for every list of bytes and every limit: the plain side of the statement PackReads. No condition. -/
import Derived.Test.YtkanlkgmiednfaaPlPack3
import Derived.Test.YtkanlkgmiednfaaAxinterleavelaw12PackReads
namespace Go.Proofs.Ytkanlkgmiednfaa.Pure
open Go.RowKit Go.Proofs.YtkanlkgmiednfaaW.PrintWords Go.Proofs.YtkanlkgmiednfaaW.PrintMore Go.Proofs.Ytkanlkgmiednfaa.A Go.Proofs.Ytkanlkgmiednfaa.Pl
theorem un_len (lim : Int) : ∀ f (t out : List Int), (∀ c ∈ t, 0 ≤ c ∧ c < 256) → (un lim f t out).1.length ≤ out.length + 200 * f := by
  intro f
  induction f with
  | zero => intro t out _; simp [un]
  | succ f ih =>
    intro t out hb
    rcases t with _ | ⟨c, t⟩
    · rw [un_nil]; show out.length ≤ _; omega
    · have hc := hb c (by simp)
      rw [un_cons]
      by_cases c1 : c < 128
      · rw [if_pos c1]
        split
        · simp
        · split
          · simp
          · have := ih (t.drop (c.toNat + 1)) (out ++ t.take (c.toNat + 1)) (fun x hx => hb x (List.mem_cons_of_mem _ (List.mem_of_mem_drop hx)))
            rw [List.length_append, List.length_take] at this
            omega
      · rw [if_neg c1]
        rcases t with _ | ⟨d, t⟩
        · simp
        · have hl := cp_length (c.toNat - 125) d.toNat out
          have := ih t (cp (c.toNat - 125) d.toNat out) (fun x hx => hb x (by simp [hx]))
          show (if d = 0 ∨ d > (out.length : Int) then ([], 11) else if ((cp (c.toNat - 125) d.toNat out).length : Int) > lim then ([], 2) else un lim f t (cp (c.toNat - 125) d.toNat out) : List Int × Int).1.length ≤ _
          split
          · simp
          · split
            · simp
            · omega
theorem PackReads : interleavelaw12_PackReads.Pure := by
  intro l a _ hl hb ha
  have hb' : ∀ c ∈ l, 0 ≤ c ∧ c < 256 := fun c hc => u8_bounds (hb c hc)
  have ha' := i64_bounds ha
  by_cases h : (l.length : Int) > 3000
  · exact ⟨0, by unfold interleavelaw12_PackReads.f; rw [if_pos h]⟩
  · refine Ev.rounds (Ev.congr (fun k => by unfold interleavelaw12_PackReads.f; rw [if_neg h]) ?_)
    have hlen := un_len a l.length l [] hb'
    refine Ev.bind (unpack_f (by omega) hb' a) (Ev.bind (refUnpack_f (by omega) hb' a ha'.1 ha'.2) (Ev.bind (same_yes (un a l.length l []).1 (by simp only [List.length_nil] at hlen; omega)) ?_))
    exact Ev.congr (fun k => by rw [if_pos rfl, if_pos rfl]) (Ev.bind pack_awake (Ev.now _))
end Go.Proofs.Ytkanlkgmiednfaa.Pure
