/- Made by a program of this session (drv.py) over the kit's printer: plain functions, and the proofs that the program's functions come to their answers. No condition. -/
import Derived.Test.YtnmmkgagbfniiaaAx0
namespace Go.Proofs.Ytnmmkgagbfniiaa.A
open Go.RowKit Go.Proofs.YtnmmkgagbfniiaaW.PrintWords Go.Proofs.YtnmmkgagbfniiaaW.PrintLast Go.Proofs.YtnmmkgagbfniiaaW.PrintMore
attribute [local go_sem] max2_int min2_int max_two min_two max_three min_three max_four min_four   -- for this text's walks alone
set_option linter.unusedVariables false
set_option linter.unusedSimpArgs false

/-! ALONE own words -/
/-- A block that was just made, marked or not, reads as the slice over it. -/
theorem ow_reads_new (w : World) (k : IntKind) (xs : List Int) (e : TypeId) (fr : Nat × Nat) (hm : xs.length ≤ 9223372036854775807) : Kd.C (Kd.int k) (w.alloc (.cells (nums k xs).toArray e fr)) (some ⟨w.heap.size, 0, none⟩) xs.length xs := by
  refine Kd.C_of_reads (d := (0 : Int)) ⟨rfl, hm, fun _ => ⟨_, rfl, fun j hj => ?_⟩⟩
  rw [add_plain, World.cell?_alloc_mark]
  simp [nums, List.getElem?_eq_getElem hj, List.getD_eq_getElem?_getD]
/-- An array in a variable, read as a slice. -/
theorem ow_C_box {w : World} {k : IntKind} {g t n : Nat} {cs : Array Value} {fr : Nat × Nat} (xs : List Int) (h : w.heap[g]? = some (.cells cs t fr)) (hc : cs = (nums k xs).toArray) (hn : n = xs.length) (hm : xs.length ≤ 9223372036854775807) : Kd.C (Kd.int k) w (some ⟨g, 0, none⟩) n xs := by
  subst hc hn
  refine Kd.C_of_reads (d := (0 : Int)) ⟨rfl, hm, fun _ => ⟨_, rfl, fun j hj => ?_⟩⟩
  rw [add_plain]
  simp only [World.cell?, h]
  simp [nums, List.getElem?_eq_getElem hj, List.getD_eq_getElem?_getD]
/-- Eight stores into a variable of eight cells. -/
theorem ow_put8 {W : World} {r t : Nat} {v0 v1 v2 v3 v4 v5 v6 v7 u0 u1 u2 u3 u4 u5 u6 u7 : Value} (h : W.heap[r]? = some (.cells #[u0, u1, u2, u3, u4, u5, u6, u7] t (0, 0))) : ((((((((W.setCell ⟨r, 0, none⟩ v0).setCell ⟨r, 1, none⟩ v1).setCell ⟨r, 2, none⟩ v2).setCell ⟨r, 3, none⟩ v3).setCell ⟨r, 4, none⟩ v4).setCell ⟨r, 5, none⟩ v5).setCell ⟨r, 6, none⟩ v6).setCell ⟨r, 7, none⟩ v7).heap[r]? = some (.cells #[v0, v1, v2, v3, v4, v5, v6, v7] t (0, 0)) := by
  have h0 : (W.setCell ⟨r, 0, none⟩ v0).heap[r]? = some (.cells #[v0, u1, u2, u3, u4, u5, u6, u7] t (0, 0)) := by simpa using blk_set h 0 v0
  have h1 : ((W.setCell ⟨r, 0, none⟩ v0).setCell ⟨r, 1, none⟩ v1).heap[r]? = some (.cells #[v0, v1, u2, u3, u4, u5, u6, u7] t (0, 0)) := by simpa using blk_set h0 1 v1
  generalize (W.setCell ⟨r, 0, none⟩ v0).setCell ⟨r, 1, none⟩ v1 = W1 at h1 ⊢
  have h2 : (W1.setCell ⟨r, 2, none⟩ v2).heap[r]? = some (.cells #[v0, v1, v2, u3, u4, u5, u6, u7] t (0, 0)) := by simpa using blk_set h1 2 v2
  have h3 : ((W1.setCell ⟨r, 2, none⟩ v2).setCell ⟨r, 3, none⟩ v3).heap[r]? = some (.cells #[v0, v1, v2, v3, u4, u5, u6, u7] t (0, 0)) := by simpa using blk_set h2 3 v3
  generalize (W1.setCell ⟨r, 2, none⟩ v2).setCell ⟨r, 3, none⟩ v3 = W2 at h3 ⊢
  have h4 : (W2.setCell ⟨r, 4, none⟩ v4).heap[r]? = some (.cells #[v0, v1, v2, v3, v4, u5, u6, u7] t (0, 0)) := by simpa using blk_set h3 4 v4
  have h5 : ((W2.setCell ⟨r, 4, none⟩ v4).setCell ⟨r, 5, none⟩ v5).heap[r]? = some (.cells #[v0, v1, v2, v3, v4, v5, u6, u7] t (0, 0)) := by simpa using blk_set h4 5 v5
  generalize (W2.setCell ⟨r, 4, none⟩ v4).setCell ⟨r, 5, none⟩ v5 = W3 at h5 ⊢
  have h6 : (W3.setCell ⟨r, 6, none⟩ v6).heap[r]? = some (.cells #[v0, v1, v2, v3, v4, v5, v6, u7] t (0, 0)) := by simpa using blk_set h5 6 v6
  simpa using blk_set h6 7 v7
theorem ow_far8 {W : World} {r g : Nat} {cs : Array Value} {t : Nat} {v0 v1 v2 v3 v4 v5 v6 v7 : Value} (h : W.heap[g]? = some (.cells cs t (0, 0))) (hg : g ≠ r) : ((((((((W.setCell ⟨r, 0, none⟩ v0).setCell ⟨r, 1, none⟩ v1).setCell ⟨r, 2, none⟩ v2).setCell ⟨r, 3, none⟩ v3).setCell ⟨r, 4, none⟩ v4).setCell ⟨r, 5, none⟩ v5).setCell ⟨r, 6, none⟩ v6).setCell ⟨r, 7, none⟩ v7).heap[g]? = some (.cells cs t (0, 0)) :=
  blk_far (blk_far (blk_far (blk_far (blk_far (blk_far (blk_far (blk_far h hg v0) hg v1) hg v2) hg v3) hg v4) hg v5) hg v6) hg v7
theorem ow_below8 {w W : World} {r : Nat} {v0 v1 v2 v3 v4 v5 v6 v7 : Value} (h : Below w.heap.size w W) (hr : w.heap.size ≤ r) : Below w.heap.size w ((((((((W.setCell ⟨r, 0, none⟩ v0).setCell ⟨r, 1, none⟩ v1).setCell ⟨r, 2, none⟩ v2).setCell ⟨r, 3, none⟩ v3).setCell ⟨r, 4, none⟩ v4).setCell ⟨r, 5, none⟩ v5).setCell ⟨r, 6, none⟩ v6).setCell ⟨r, 7, none⟩ v7) :=
  below_set (below_set (below_set (below_set (below_set (below_set (below_set (below_set h hr) hr) hr) hr) hr) hr) hr) hr
theorem ow_below_drawn {w0 w w' : World} (h : Below w0.heap.size w0 w) (hd : Drawn0 w w') : Below w0.heap.size w0 w' := by
  obtain ⟨n, rfl⟩ := hd.out
  exact pw_below_drewN h n
section
variable {P : Program} {ops : Array Oper} {rest : List Oper} {o : Oper} {a : Act} {Q : Exit → Act → World → Prop}
/-- 'append(b[:len(b):len(b)], y)': a slice without spare room that is only read: what comes is new. -/
theorem ow_append_tight (W : World) (hgd : o.guard = none) (s x : Operand) (t e : TypeId) (k : IntKind) (bytes : Nat)
    (ho : o.op = .call { callee := .builtin .append, args := #[s, x], argTypes := #[t, t] })
    (ht : P.underlying t = some (.slice e)) (hinfo : (P.info? e).map (fun i => (i.zero, i.size, i.bytes)) = some (some (.int k 0), 1, bytes)) (hb0 : 0 < bytes)
    (A : Option Addr) (xs : List Int) (y : Int) (hs : a.eval s = .slice A xs.length xs.length) (hx : a.eval x = .slice (some ⟨W.heap.size, 0, none⟩) 1 1)
    (hr : Kd.C (Kd.int k) W A xs.length xs) (hn : A = none → xs = []) (hl : (xs.length + 1) * bytes ≤ 140737488355328)
    (h : ∀ v1 w1, Kd.R (Kd.int k) e w1 W.heap.size (fun _ => True) v1 (xs ++ [y]) → Below W.heap.size W w1 → wpList P ops Q rest (a.put o.dst v1) w1) :
    wpList P ops Q (o :: rest) a (W.alloc (.cells #[.int k y] e)) := by
  obtain ⟨i0, hi, hzz⟩ := Option.map_eq_some_iff.1 hinfo
  simp only [Prod.mk.injEq] at hzz
  obtain ⟨hz0, hz1, hz2⟩ := hzz
  have hlen : xs.length + 1 ≤ 140737488355328 := Nat.le_trans (Nat.le_mul_of_pos_right _ hb0) hl
  have hrd := Kd.reads_of_C (d := (0 : Int)) (Kd.C_alloc hr (.cells #[.int k y] e))
  refine wpList_append_grows (W.alloc (.cells #[.int k y] e)) hgd s x t ho e i0 (.int k 0) 1 bytes ht hi hz0 hz1 hz2 rfl (by decide) A xs.length xs.length (nums k xs) hs
    (fun hA => by rw [hn hA]; exact ⟨rfl, rfl⟩) (by simp [nums]) ?_ ⟨W.heap.size, 0, none⟩ 1 1 [.int k y] hx rfl
    (World.news_of_block (cs := #[.int k y]) (t := e) (fr := (0, 0)) (heap_alloc_new W _)) (by intro u hu; rw [List.mem_singleton.1 hu]; rfl) (by omega) (by simp only [maxLen]; omega) hl ?_
  · intro b hb j u hj
    have hjl : j < xs.length := by
      rcases Nat.lt_or_ge j xs.length with h' | h'
      · exact h'
      · simp [nums, List.getElem?_eq_none h'] at hj
    obtain ⟨ad, e1, hc⟩ := hrd.2.2 (by omega)
    rw [hb] at e1
    injection e1 with e1
    subst e1
    have := hc j hjl
    rw [this]
    simp [nums, List.getElem?_eq_getElem hjl] at hj
    rw [← hj]
    simp [List.getD_eq_getElem?_getD, List.getElem?_eq_getElem hjl]
  · intro v1 w1 hown hg
    refine h v1 w1 (Kd.R_of_own ?_ (fun _ _ => trivial)) ?_
    · have := own_weaken (base' := W.heap.size) hown (by simp)
      rw [List.length_append]
      simpa [nums, encs] using this
    · exact (below_alloc (Below.refl _ _) _).grown hg (by simp) (fun k hk => by cases hk)
end
/-- A slice that is read has a place, or is empty. -/
theorem ow_none {α : Type} {d : Kd α} {w : World} {A : Option Addr} {xs : List α} (h : d.C w A xs.length xs) : A = none → xs = [] := by
  intro hA
  rcases Nat.eq_zero_or_pos xs.length with h0 | h0
  · exact List.eq_nil_of_length_eq_zero h0
  · obtain ⟨ad, e, _⟩ := h.2.2 h0
    rw [hA] at e
    cases e

end Go.Proofs.Ytnmmkgagbfniiaa.A
