/- Made by a program of this session (drv.py) over the kit's printer: plain functions, and the proofs that the program's functions come to their answers. No condition. -/
import Derived.Test.YtnmmkgagbfniiaaAx0
import Derived.Test.YtnmmkgagbfniiaaAxeventreadernext
import Derived.Test.YtnmmkgagbfniiaaAxeventreaderlist
namespace Go.Proofs.Ytnmmkgagbfniiaa.A
open Go.RowKit Go.Proofs.YtnmmkgagbfniiaaW.PrintWords Go.Proofs.YtnmmkgagbfniiaaW.PrintLast Go.Proofs.YtnmmkgagbfniiaaW.PrintMore
attribute [local go_sem] max2_int min2_int max_two min_two max_three min_three max_four min_four   -- for this text's walks alone
set_option linter.unusedVariables false
set_option linter.unusedSimpArgs false

/-! HAND event_Read: function 13 -/
def event_Read.f (k : Nat) (l0 : List Int) (a1 a2 : Int) : Option (Int × Int × Int × Int × Int × Int × List Int × List Int × Int × Int) :=
  (event_reader_next.f k l0 0 0).bind fun p0 => (event_reader_next.f k l0 p0.2.1 p0.2.2).bind fun p1 => (event_reader_next.f k l0 p1.2.1 p1.2.2).bind fun p2 => (event_reader_next.f k l0 p2.2.1 p2.2.2).bind fun p3 => (event_reader_next.f k l0 p3.2.1 p3.2.2).bind fun p4 => (event_reader_list.f k l0 p4.2.1 p4.2.2).bind fun q5 => (event_reader_list.f k l0 q5.2.1 q5.2.2).bind fun q6 => if q6.2.2 = 0 then some (wrap64 (p0.1 + a2), a1, p1.1, p2.1, p3.1, p4.1, q5.1, q6.1, q6.2.1, 0) else some (0, 0, 0, 0, 0, 0, [], [], 0, q6.2.2)
theorem event_Read.mono : ∀ a0 a1 a2 k, LeO (event_Read.f k a0 a1 a2) (event_Read.f (k + 1) a0 a1 a2) := by
  intro a0 a1 a2 k
  unfold event_Read.f
  exact LeO.bind (event_reader_next.mono _ _ _ _) fun _ => LeO.bind (event_reader_next.mono _ _ _ _) fun _ => LeO.bind (event_reader_next.mono _ _ _ _) fun _ => LeO.bind (event_reader_next.mono _ _ _ _) fun _ => LeO.bind (event_reader_next.mono _ _ _ _) fun _ => LeO.bind (event_reader_list.mono _ _ _ _) fun _ => LeO.bind (event_reader_list.mono _ _ _ _) fun _ => LeO.refl _
/-- The reader at block g, the record that is read at block x, the result at block r. -/
structure event_Read.St (w W : World) (g x r : Nat) (cs cr : Array Value) (l0 : List Int) (a e : Int) : Prop where
  fi : IsS88 w W g l0 a e
  fB : Below w.heap.size w W
  fx : W.heap[x]? = some (.cells cs 26 (0, 0))
  fr : W.heap[r]? = some (.cells cr 26 (0, 0))
  gx : x ≠ g
  gr : r ≠ g
  xr : x ≠ r
  hx : w.heap.size ≤ x
theorem event_Read.St.call {w W W1 : World} {g x r : Nat} {cs cr : Array Value} {l0 : List Int} {a e a' e' : Int} (S : event_Read.St w W g x r cs cr l0 a e) (hi : IsS88 w W1 g l0 a' e') (hb : Below w.heap.size w W1) (hk : KeepBut W W1 g none) : event_Read.St w W1 g x r cs cr l0 a' e' :=
  ⟨hi, hb, (hk.2 _ (blk_lt S.fx) S.gx (by simp)).trans S.fx, (hk.2 _ (blk_lt S.fr) S.gr (by simp)).trans S.fr, S.gx, S.gr, S.xr, S.hx⟩
theorem event_Read.St.set {w W : World} {g x r : Nat} {cs cr : Array Value} {l0 : List Int} {a e : Int} (S : event_Read.St w W g x r cs cr l0 a e) (j : Nat) (v : Value) : event_Read.St w (W.setCell ⟨x, j, none⟩ v) g x r (cs.setIfInBounds j v) cr l0 a e :=
  ⟨S.fi.far (by exact fun h => S.gx h.symm) v, below_set S.fB S.hx, by simpa using blk_set S.fx j v, by rw [Below.heap_setCell _ _ _ _ (fun h => S.xr h.symm)]; exact S.fr, S.gx, S.gr, S.xr, S.hx⟩
theorem event_Read.put8 {W : World} {r : Nat} {v0 v1 v2 v3 v4 v5 v6 v7 u0 u1 u2 u3 u4 u5 u6 u7 : Value} (h : W.heap[r]? = some (.cells #[u0, u1, u2, u3, u4, u5, u6, u7] 26 (0, 0))) : ((((((((W.setCell ⟨r, 0, none⟩ v0).setCell ⟨r, 1, none⟩ v1).setCell ⟨r, 2, none⟩ v2).setCell ⟨r, 3, none⟩ v3).setCell ⟨r, 4, none⟩ v4).setCell ⟨r, 5, none⟩ v5).setCell ⟨r, 6, none⟩ v6).setCell ⟨r, 7, none⟩ v7).heap[r]? = some (.cells #[v0, v1, v2, v3, v4, v5, v6, v7] 26 (0, 0)) := by
  have h0 : (W.setCell ⟨r, 0, none⟩ v0).heap[r]? = some (.cells #[v0, u1, u2, u3, u4, u5, u6, u7] 26 (0, 0)) := by simpa using blk_set h 0 v0
  have h1 : ((W.setCell ⟨r, 0, none⟩ v0).setCell ⟨r, 1, none⟩ v1).heap[r]? = some (.cells #[v0, v1, u2, u3, u4, u5, u6, u7] 26 (0, 0)) := by simpa using blk_set h0 1 v1
  generalize (W.setCell ⟨r, 0, none⟩ v0).setCell ⟨r, 1, none⟩ v1 = W1 at h1 ⊢
  have h2 : (W1.setCell ⟨r, 2, none⟩ v2).heap[r]? = some (.cells #[v0, v1, v2, u3, u4, u5, u6, u7] 26 (0, 0)) := by simpa using blk_set h1 2 v2
  have h3 : ((W1.setCell ⟨r, 2, none⟩ v2).setCell ⟨r, 3, none⟩ v3).heap[r]? = some (.cells #[v0, v1, v2, v3, u4, u5, u6, u7] 26 (0, 0)) := by simpa using blk_set h2 3 v3
  generalize (W1.setCell ⟨r, 2, none⟩ v2).setCell ⟨r, 3, none⟩ v3 = W2 at h3 ⊢
  have h4 : (W2.setCell ⟨r, 4, none⟩ v4).heap[r]? = some (.cells #[v0, v1, v2, v3, v4, u5, u6, u7] 26 (0, 0)) := by simpa using blk_set h3 4 v4
  have h5 : ((W2.setCell ⟨r, 4, none⟩ v4).setCell ⟨r, 5, none⟩ v5).heap[r]? = some (.cells #[v0, v1, v2, v3, v4, v5, u6, u7] 26 (0, 0)) := by simpa using blk_set h4 5 v5
  generalize (W2.setCell ⟨r, 4, none⟩ v4).setCell ⟨r, 5, none⟩ v5 = W3 at h5 ⊢
  have h6 : (W3.setCell ⟨r, 6, none⟩ v6).heap[r]? = some (.cells #[v0, v1, v2, v3, v4, v5, v6, u7] 26 (0, 0)) := by simpa using blk_set h5 6 v6
  simpa using blk_set h6 7 v7
theorem event_Read.far8 {α : Type} {d : Kd α} {e base : Nat} {W : World} {ok : Nat → Prop} {v : Value} {xs : List α} {r : Nat} {v0 v1 v2 v3 v4 v5 v6 v7 : Value} (h : d.R e W base ok v xs) (hr : ∀ k, ok k → k ≠ r) : d.R e ((((((((W.setCell ⟨r, 0, none⟩ v0).setCell ⟨r, 1, none⟩ v1).setCell ⟨r, 2, none⟩ v2).setCell ⟨r, 3, none⟩ v3).setCell ⟨r, 4, none⟩ v4).setCell ⟨r, 5, none⟩ v5).setCell ⟨r, 6, none⟩ v6).setCell ⟨r, 7, none⟩ v7) base ok v xs :=
  Kd.R_far (Kd.R_far (Kd.R_far (Kd.R_far (Kd.R_far (Kd.R_far (Kd.R_far (Kd.R_far h (p := ⟨r, 0, none⟩) hr _) (p := ⟨r, 1, none⟩) hr _) (p := ⟨r, 2, none⟩) hr _) (p := ⟨r, 3, none⟩) hr _) (p := ⟨r, 4, none⟩) hr _) (p := ⟨r, 5, none⟩) hr _) (p := ⟨r, 6, none⟩) hr _) (p := ⟨r, 7, none⟩) hr _
theorem event_Read.below8 {w W : World} {r : Nat} {v0 v1 v2 v3 v4 v5 v6 v7 : Value} (h : Below w.heap.size w W) (hr : w.heap.size ≤ r) : Below w.heap.size w ((((((((W.setCell ⟨r, 0, none⟩ v0).setCell ⟨r, 1, none⟩ v1).setCell ⟨r, 2, none⟩ v2).setCell ⟨r, 3, none⟩ v3).setCell ⟨r, 4, none⟩ v4).setCell ⟨r, 5, none⟩ v5).setCell ⟨r, 6, none⟩ v6).setCell ⟨r, 7, none⟩ v7) :=
  below_set (below_set (below_set (below_set (below_set (below_set (below_set (below_set h hr) hr) hr) hr) hr) hr) hr) hr
set_option maxHeartbeats 4000000 in
set_option maxRecDepth 100000 in
theorem event_Read.calls (k : Nat) (A0 : Option Addr) (c0 : Nat) (l0 : List Int) (a1 : Int) (a2 : Int) (r1 r2 r3 r4 r5 r6 : Int) (r7 r8 : List Int) (r9 r10 : Int) (w : World) (hr0 : Kd.C (Kd.int .u8) w A0 l0.length l0) (hc0 : l0.length ≤ c0) (h : event_Read.f k l0 a1 a2 = some (r1, r2, r3, r4, r5, r6, r7, r8, r9, r10)) :
    Calls Try.prog 13 #[.slice A0 l0.length c0, .int .i64 a1, .int .i64 a2] w fun e w' => ∃ v6_ v7_ : Value, e = .returned (.tuple #[.agg #[.int .i64 r1, .int .i64 r2, .int .i64 r3, .int .i64 r4, .int .i64 r5, .int .i64 r6, v6_, v7_], .int .i64 r9, .int .i64 r10]) ∧ Kd.R (Kd.int .i64) 3 w' w.heap.size (fun k_ => some k_ ≠ (v7_ : Value).ownBlock) v6_ r7 ∧ Kd.R (Kd.int .i64) 3 w' w.heap.size (fun k_ => some k_ ≠ (v6_ : Value).ownBlock) v7_ r8 ∧ Below w.heap.size w w' := by
  obtain ⟨⟨n0, b0, e0⟩, h0, h_0⟩ := Option.bind_eq_some_iff.mp h
  clear h
  obtain ⟨⟨n1, b1, e1⟩, h1, h_1⟩ := Option.bind_eq_some_iff.mp h_0
  clear h_0
  obtain ⟨⟨n2, b2, e2⟩, h2, h_2⟩ := Option.bind_eq_some_iff.mp h_1
  clear h_1
  obtain ⟨⟨n3, b3, e3⟩, h3, h_3⟩ := Option.bind_eq_some_iff.mp h_2
  clear h_2
  obtain ⟨⟨n4, b4, e4⟩, h4, h_4⟩ := Option.bind_eq_some_iff.mp h_3
  clear h_3
  obtain ⟨⟨l5, b5, e5⟩, h5, h_5⟩ := Option.bind_eq_some_iff.mp h_4
  clear h_4
  obtain ⟨⟨l6, b6, e6⟩, h6, h_6⟩ := Option.bind_eq_some_iff.mp h_5
  clear h_5
  have h := h_6
  clear h_6
  dsimp only at h h0 h1 h2 h3 h4 h5 h6
  have H0 := Aside0.mk h0
  have H1 := Aside0.mk h1
  have H2 := Aside0.mk h2
  have H3 := Aside0.mk h3
  have H4 := Aside0.mk h4
  have H5 := Aside0.mk h5
  have H6 := Aside0.mk h6
  have HH := Aside0.mk h
  clear h h0 h1 h2 h3 h4 h5 h6
  obtain ⟨W1, hW1⟩ : ∃ W1 : World, W1 = (w.alloc (.cells #[.int .i64 0, .int .i64 0, .int .i64 0, .int .i64 0, .int .i64 0, .int .i64 0, .slice none 0 0, .slice none 0 0] 26)).alloc (.cells #[.slice A0 l0.length c0, .int .i64 0, .int .i64 0] 88) := ⟨_, rfl⟩
  have HI1 : Aside0 (IsS88 w W1 (w.heap.size + 1) l0 0 0) := ⟨by
    have := IsS88.new w (w.alloc (.cells #[.int .i64 0, .int .i64 0, .int .i64 0, .int .i64 0, .int .i64 0, .int .i64 0, .slice none 0 0, .slice none 0 0] 26)) A0 c0 l0 0 0 (below_alloc (Below.refl _ _) _) ⟨hr0, hc0⟩
    rw [hW1]
    simpa using this⟩
  have HB1 : Aside0 (Below w.heap.size w W1) := ⟨by rw [hW1]; exact below_alloc (below_alloc (Below.refl _ _) _) _⟩
  have HR1 : Aside0 (W1.heap[w.heap.size]? = some (.cells #[.int .i64 0, .int .i64 0, .int .i64 0, .int .i64 0, .int .i64 0, .int .i64 0, .slice none 0 0, .slice none 0 0] 26 (0, 0))) := ⟨by rw [hW1, heap_alloc_old _ _ (by simp), heap_alloc_new]⟩
  clear hr0 hc0
  go_enter Try.func13, Try.ntmps13
  by_cases ce : e6 = 0
  · have ce0 : (e6 != 0) = false := by simp [ce]
    have HH1 := Aside0.mk ((if_pos ce).symm.trans HH.out)
    clear HH
    simp only [Option.some.injEq, Prod.mk.injEq] at HH1
    obtain ⟨rfl, rfl, rfl, rfl, rfl, rfl, rfl, rfl, rfl, rfl⟩ := HH1.out
    clear HH1 ce
    go_wp2_with (first | (go_at_call 42; rw [← hW1]; refine (event_reader_next.calls k (w.heap.size + 1) l0 0 0 n0 b0 e0 w _ HI1.out HB1.out H0.out).mono ?_; rintro e w2 ⟨rfl, hi, hb, hk⟩; have HR2 := (hk.2 _ (blk_lt HR1.out) (by omega) (by simp)).trans HR1.out; have HS0 : Aside0 (event_Read.St w (w2.alloc (.cells #[.int .i64 (wrap64 (n0 + a2)), .int .i64 a1, .int .i64 0, .int .i64 0, .int .i64 0, .int .i64 0, .slice none 0 0, .slice none 0 0] 26)) (w.heap.size + 1) w2.heap.size w.heap.size #[.int .i64 (wrap64 (n0 + a2)), .int .i64 a1, .int .i64 0, .int .i64 0, .int .i64 0, .int .i64 0, .slice none 0 0, .slice none 0 0] #[.int .i64 0, .int .i64 0, .int .i64 0, .int .i64 0, .int .i64 0, .int .i64 0, .slice none 0 0, .slice none 0 0] l0 b0 e0) := ⟨⟨hi.alloc _, (below_then hb hb.size (below_alloc (Below.refl _ _) _)), heap_alloc_new _ _, (heap_alloc_old _ _ (blk_lt HR2)).trans HR2, (Nat.ne_of_gt hi.lt), by omega, Nat.ne_of_gt (blk_lt HR2), hb.size⟩⟩; have HLT : Aside0 (w.heap.size + 1 < w2.heap.size) := ⟨hi.lt⟩; clear hi hb hk HR2) | (go_at_call 42; refine (event_reader_next.calls k (w.heap.size + 1) l0 b0 e0 n1 b1 e1 w _ HS0.out.fi HS0.out.fB H1.out).mono ?_; rintro e w3 ⟨rfl, hi, hb, hk⟩; have HT1 := Aside0.mk (HS0.out.call hi hb hk); have HS1 : Aside0 (event_Read.St w (w3.setCell ⟨w2.heap.size, 2, none⟩ (.int .i64 n1)) (w.heap.size + 1) w2.heap.size w.heap.size #[.int .i64 (wrap64 (n0 + a2)), .int .i64 a1, .int .i64 n1, .int .i64 0, .int .i64 0, .int .i64 0, .slice none 0 0, .slice none 0 0] #[.int .i64 0, .int .i64 0, .int .i64 0, .int .i64 0, .int .i64 0, .int .i64 0, .slice none 0 0, .slice none 0 0] l0 b1 e1) := ⟨HT1.out.set 2 (.int .i64 n1)⟩; have q1 := (blk_cell HT1.out.fx 2).trans rfl; have f1 := blk_frozen HT1.out.fx 2; clear hi hb hk) | (go_at_call 42; refine (event_reader_next.calls k (w.heap.size + 1) l0 b1 e1 n2 b2 e2 w _ HS1.out.fi HS1.out.fB H2.out).mono ?_; rintro e w4 ⟨rfl, hi, hb, hk⟩; have HT2 := Aside0.mk (HS1.out.call hi hb hk); have HS2 : Aside0 (event_Read.St w (w4.setCell ⟨w2.heap.size, 3, none⟩ (.int .i64 n2)) (w.heap.size + 1) w2.heap.size w.heap.size #[.int .i64 (wrap64 (n0 + a2)), .int .i64 a1, .int .i64 n1, .int .i64 n2, .int .i64 0, .int .i64 0, .slice none 0 0, .slice none 0 0] #[.int .i64 0, .int .i64 0, .int .i64 0, .int .i64 0, .int .i64 0, .int .i64 0, .slice none 0 0, .slice none 0 0] l0 b2 e2) := ⟨HT2.out.set 3 (.int .i64 n2)⟩; have q2 := (blk_cell HT2.out.fx 3).trans rfl; have f2 := blk_frozen HT2.out.fx 3; clear hi hb hk) | (go_at_call 42; refine (event_reader_next.calls k (w.heap.size + 1) l0 b2 e2 n3 b3 e3 w _ HS2.out.fi HS2.out.fB H3.out).mono ?_; rintro e w5 ⟨rfl, hi, hb, hk⟩; have HT3 := Aside0.mk (HS2.out.call hi hb hk); have HS3 : Aside0 (event_Read.St w (w5.setCell ⟨w2.heap.size, 4, none⟩ (.int .i64 n3)) (w.heap.size + 1) w2.heap.size w.heap.size #[.int .i64 (wrap64 (n0 + a2)), .int .i64 a1, .int .i64 n1, .int .i64 n2, .int .i64 n3, .int .i64 0, .slice none 0 0, .slice none 0 0] #[.int .i64 0, .int .i64 0, .int .i64 0, .int .i64 0, .int .i64 0, .int .i64 0, .slice none 0 0, .slice none 0 0] l0 b3 e3) := ⟨HT3.out.set 4 (.int .i64 n3)⟩; have q3 := (blk_cell HT3.out.fx 4).trans rfl; have f3 := blk_frozen HT3.out.fx 4; clear hi hb hk) | (go_at_call 42; refine (event_reader_next.calls k (w.heap.size + 1) l0 b3 e3 n4 b4 e4 w _ HS3.out.fi HS3.out.fB H4.out).mono ?_; rintro e w6 ⟨rfl, hi, hb, hk⟩; have HT4 := Aside0.mk (HS3.out.call hi hb hk); have HS4 : Aside0 (event_Read.St w (w6.setCell ⟨w2.heap.size, 5, none⟩ (.int .i64 n4)) (w.heap.size + 1) w2.heap.size w.heap.size #[.int .i64 (wrap64 (n0 + a2)), .int .i64 a1, .int .i64 n1, .int .i64 n2, .int .i64 n3, .int .i64 n4, .slice none 0 0, .slice none 0 0] #[.int .i64 0, .int .i64 0, .int .i64 0, .int .i64 0, .int .i64 0, .int .i64 0, .slice none 0 0, .slice none 0 0] l0 b4 e4) := ⟨HT4.out.set 5 (.int .i64 n4)⟩; have q4 := (blk_cell HT4.out.fx 5).trans rfl; have f4 := blk_frozen HT4.out.fx 5; clear hi hb hk) | (go_at_call 43; refine (event_reader_list.calls k (w.heap.size + 1) l0 b4 e4 l5 b5 e5 w _ HS4.out.fi HS4.out.fB H5.out).mono ?_; rintro e w7 ⟨v5, rfl, ho, hi, hb, hk⟩; have HL5 := Aside0.mk (Kd.R_lower (Kd.R_mono (ok' := fun k_ => w2.heap.size < k_) (Kd.R_bound ho) (fun k_ hk_ => Nat.lt_of_lt_of_le (blk_lt HS4.out.fx) hk_.2.1)) HS4.out.fB.size); have HT5 := Aside0.mk (HS4.out.call hi hb hk); obtain ⟨A5, c5, ee5⟩ := Kd.R_slice ho; subst ee5; have HS5 : Aside0 (event_Read.St w (w7.setCell ⟨w2.heap.size, 6, none⟩ (.slice A5 l5.length c5)) (w.heap.size + 1) w2.heap.size w.heap.size #[.int .i64 (wrap64 (n0 + a2)), .int .i64 a1, .int .i64 n1, .int .i64 n2, .int .i64 n3, .int .i64 n4, .slice A5 l5.length c5, .slice none 0 0] #[.int .i64 0, .int .i64 0, .int .i64 0, .int .i64 0, .int .i64 0, .int .i64 0, .slice none 0 0, .slice none 0 0] l0 b5 e5) := ⟨HT5.out.set 6 _⟩; have q5 := (blk_cell HT5.out.fx 6).trans rfl; have f5 := blk_frozen HT5.out.fx 6; clear ho hi hb hk) | (go_at_call 43; refine (event_reader_list.calls k (w.heap.size + 1) l0 b5 e5 l6 b6 e6 w _ HS5.out.fi HS5.out.fB H6.out).mono ?_; rintro e w8 ⟨v6, rfl, ho, hi, hb, hk⟩; have HL5b := Aside0.mk (Kd.R_keep (Kd.R_far (p := ⟨w2.heap.size, 6, none⟩) HL5.out (fun k_ hk_ => Nat.ne_of_gt hk_) (.slice A5 l5.length c5)) hk (fun k_ hk_ => by have := HS5.out.gx; have := HS5.out.fi.lt; have := HLT.out; omega)); obtain ⟨in5, ow5⟩ := Kd.R_own (Kd.R_far (p := ⟨w2.heap.size, 6, none⟩) HL5.out (fun k_ hk_ => Nat.ne_of_gt hk_) (.slice A5 l5.length c5)); have HL6 := Aside0.mk (Kd.R_lower (Kd.R_mono (ok' := fun k_ => w2.heap.size < k_ ∧ some k_ ≠ (Value.slice A5 l5.length c5).ownBlock) (Kd.R_bound (Kd.R_new ho ow5)) (fun k_ hk_ => ⟨Nat.lt_of_lt_of_le (blk_lt HS5.out.fx) hk_.2.1, hk_.1.2⟩)) HS5.out.fB.size); have HT6 := Aside0.mk (HS5.out.call hi hb hk); obtain ⟨A6, c6, ee6⟩ := Kd.R_slice ho; subst ee6; have HS6 : Aside0 (event_Read.St w (w8.setCell ⟨w2.heap.size, 7, none⟩ (.slice A6 l6.length c6)) (w.heap.size + 1) w2.heap.size w.heap.size #[.int .i64 (wrap64 (n0 + a2)), .int .i64 a1, .int .i64 n1, .int .i64 n2, .int .i64 n3, .int .i64 n4, .slice A5 l5.length c5, .slice A6 l6.length c6] #[.int .i64 0, .int .i64 0, .int .i64 0, .int .i64 0, .int .i64 0, .int .i64 0, .slice none 0 0, .slice none 0 0] l0 b6 e6) := ⟨HT6.out.set 7 _⟩; have q6 := (blk_cell HT6.out.fx 7).trans rfl; have f6 := blk_frozen HT6.out.fx 7; obtain ⟨Az, cz, hz, _, _⟩ := HS6.out.fi; have q7 := cellS88_2 hz; have q8 := cellS88_1 hz; clear ho hi hb hk ow5 hz))
    have x0 := (blk_cell HS6.out.fx 0).trans rfl
    have y0 := (blk_cell HS6.out.fr 0).trans rfl
    have z0 := blk_frozen HS6.out.fr 0
    have x1 := (blk_cell HS6.out.fx 1).trans rfl
    have y1 := (blk_cell HS6.out.fr 1).trans rfl
    have z1 := blk_frozen HS6.out.fr 1
    have x2 := (blk_cell HS6.out.fx 2).trans rfl
    have y2 := (blk_cell HS6.out.fr 2).trans rfl
    have z2 := blk_frozen HS6.out.fr 2
    have x3 := (blk_cell HS6.out.fx 3).trans rfl
    have y3 := (blk_cell HS6.out.fr 3).trans rfl
    have z3 := blk_frozen HS6.out.fr 3
    have x4 := (blk_cell HS6.out.fx 4).trans rfl
    have y4 := (blk_cell HS6.out.fr 4).trans rfl
    have z4 := blk_frozen HS6.out.fr 4
    have x5 := (blk_cell HS6.out.fx 5).trans rfl
    have y5 := (blk_cell HS6.out.fr 5).trans rfl
    have z5 := blk_frozen HS6.out.fr 5
    have x6 := (blk_cell HS6.out.fx 6).trans rfl
    have y6 := (blk_cell HS6.out.fr 6).trans rfl
    have z6 := blk_frozen HS6.out.fr 6
    have x7 := (blk_cell HS6.out.fx 7).trans rfl
    have y7 := (blk_cell HS6.out.fr 7).trans rfl
    have z7 := blk_frozen HS6.out.fr 7
    clear HR1 hW1
    go_region
    all_goals (try go_wp2)
    all_goals refine bodyPost_ret (results_ctt rfl _ _ w.heap.size 26 #[.int .i64 (wrap64 (n0 + a2)), .int .i64 a1, .int .i64 n1, .int .i64 n2, .int .i64 n3, .int .i64 n4, .slice A5 l5.length c5, .slice A6 l6.length c6] (0, 0) _ rfl (blk_drew (event_Read.put8 HS6.out.fr)) Try.underlying26 rfl (by kernel_rfl)) rfl ?_
    all_goals exact ⟨_, _, rfl, Kd.R_flat (d := Kd.int .i64) (fun h_ => h_) (ok := fun k_ => w2.heap.size < k_) (by exact Kd.R_drew (event_Read.far8 (Kd.R_far (p := ⟨w2.heap.size, 7, none⟩) HL5b.out (fun k_ hk_ => Nat.ne_of_gt hk_) _) (fun k_ hk_ => by have := HLT.out; show k_ ≠ w.heap.size; omega))) (fun k_ hk_ _ he_ => (HL6.out.1 k_ he_.symm).2 hk_.symm), Kd.R_mono (ok := fun k_ => w2.heap.size < k_ ∧ some k_ ≠ (Value.slice A5 l5.length c5).ownBlock) (by exact Kd.R_drew (event_Read.far8 (Kd.R_far (p := ⟨w2.heap.size, 7, none⟩) HL6.out (fun k_ hk_ => Nat.ne_of_gt hk_.1) _) (fun k_ hk_ => by have := HLT.out; show k_ ≠ w.heap.size; have := hk_.1; omega))) (fun _ hk_ => hk_.2), below_drew1 (event_Read.below8 HS6.out.fB (Nat.le_refl _))⟩
  · have ce0 : (e6 != 0) = true := by simp [ce]
    have HH1 := Aside0.mk ((if_neg ce).symm.trans HH.out)
    clear HH
    simp only [Option.some.injEq, Prod.mk.injEq] at HH1
    obtain ⟨rfl, rfl, rfl, rfl, rfl, rfl, rfl, rfl, rfl, rfl⟩ := HH1.out
    clear HH1 ce
    go_wp2_with (first | (go_at_call 42; rw [← hW1]; refine (event_reader_next.calls k (w.heap.size + 1) l0 0 0 n0 b0 e0 w _ HI1.out HB1.out H0.out).mono ?_; rintro e w2 ⟨rfl, hi, hb, hk⟩; have HR2 := (hk.2 _ (blk_lt HR1.out) (by omega) (by simp)).trans HR1.out; have HS0 : Aside0 (event_Read.St w (w2.alloc (.cells #[.int .i64 (wrap64 (n0 + a2)), .int .i64 a1, .int .i64 0, .int .i64 0, .int .i64 0, .int .i64 0, .slice none 0 0, .slice none 0 0] 26)) (w.heap.size + 1) w2.heap.size w.heap.size #[.int .i64 (wrap64 (n0 + a2)), .int .i64 a1, .int .i64 0, .int .i64 0, .int .i64 0, .int .i64 0, .slice none 0 0, .slice none 0 0] #[.int .i64 0, .int .i64 0, .int .i64 0, .int .i64 0, .int .i64 0, .int .i64 0, .slice none 0 0, .slice none 0 0] l0 b0 e0) := ⟨⟨hi.alloc _, (below_then hb hb.size (below_alloc (Below.refl _ _) _)), heap_alloc_new _ _, (heap_alloc_old _ _ (blk_lt HR2)).trans HR2, (Nat.ne_of_gt hi.lt), by omega, Nat.ne_of_gt (blk_lt HR2), hb.size⟩⟩; have HLT : Aside0 (w.heap.size + 1 < w2.heap.size) := ⟨hi.lt⟩; clear hi hb hk HR2) | (go_at_call 42; refine (event_reader_next.calls k (w.heap.size + 1) l0 b0 e0 n1 b1 e1 w _ HS0.out.fi HS0.out.fB H1.out).mono ?_; rintro e w3 ⟨rfl, hi, hb, hk⟩; have HT1 := Aside0.mk (HS0.out.call hi hb hk); have HS1 : Aside0 (event_Read.St w (w3.setCell ⟨w2.heap.size, 2, none⟩ (.int .i64 n1)) (w.heap.size + 1) w2.heap.size w.heap.size #[.int .i64 (wrap64 (n0 + a2)), .int .i64 a1, .int .i64 n1, .int .i64 0, .int .i64 0, .int .i64 0, .slice none 0 0, .slice none 0 0] #[.int .i64 0, .int .i64 0, .int .i64 0, .int .i64 0, .int .i64 0, .int .i64 0, .slice none 0 0, .slice none 0 0] l0 b1 e1) := ⟨HT1.out.set 2 (.int .i64 n1)⟩; have q1 := (blk_cell HT1.out.fx 2).trans rfl; have f1 := blk_frozen HT1.out.fx 2; clear hi hb hk) | (go_at_call 42; refine (event_reader_next.calls k (w.heap.size + 1) l0 b1 e1 n2 b2 e2 w _ HS1.out.fi HS1.out.fB H2.out).mono ?_; rintro e w4 ⟨rfl, hi, hb, hk⟩; have HT2 := Aside0.mk (HS1.out.call hi hb hk); have HS2 : Aside0 (event_Read.St w (w4.setCell ⟨w2.heap.size, 3, none⟩ (.int .i64 n2)) (w.heap.size + 1) w2.heap.size w.heap.size #[.int .i64 (wrap64 (n0 + a2)), .int .i64 a1, .int .i64 n1, .int .i64 n2, .int .i64 0, .int .i64 0, .slice none 0 0, .slice none 0 0] #[.int .i64 0, .int .i64 0, .int .i64 0, .int .i64 0, .int .i64 0, .int .i64 0, .slice none 0 0, .slice none 0 0] l0 b2 e2) := ⟨HT2.out.set 3 (.int .i64 n2)⟩; have q2 := (blk_cell HT2.out.fx 3).trans rfl; have f2 := blk_frozen HT2.out.fx 3; clear hi hb hk) | (go_at_call 42; refine (event_reader_next.calls k (w.heap.size + 1) l0 b2 e2 n3 b3 e3 w _ HS2.out.fi HS2.out.fB H3.out).mono ?_; rintro e w5 ⟨rfl, hi, hb, hk⟩; have HT3 := Aside0.mk (HS2.out.call hi hb hk); have HS3 : Aside0 (event_Read.St w (w5.setCell ⟨w2.heap.size, 4, none⟩ (.int .i64 n3)) (w.heap.size + 1) w2.heap.size w.heap.size #[.int .i64 (wrap64 (n0 + a2)), .int .i64 a1, .int .i64 n1, .int .i64 n2, .int .i64 n3, .int .i64 0, .slice none 0 0, .slice none 0 0] #[.int .i64 0, .int .i64 0, .int .i64 0, .int .i64 0, .int .i64 0, .int .i64 0, .slice none 0 0, .slice none 0 0] l0 b3 e3) := ⟨HT3.out.set 4 (.int .i64 n3)⟩; have q3 := (blk_cell HT3.out.fx 4).trans rfl; have f3 := blk_frozen HT3.out.fx 4; clear hi hb hk) | (go_at_call 42; refine (event_reader_next.calls k (w.heap.size + 1) l0 b3 e3 n4 b4 e4 w _ HS3.out.fi HS3.out.fB H4.out).mono ?_; rintro e w6 ⟨rfl, hi, hb, hk⟩; have HT4 := Aside0.mk (HS3.out.call hi hb hk); have HS4 : Aside0 (event_Read.St w (w6.setCell ⟨w2.heap.size, 5, none⟩ (.int .i64 n4)) (w.heap.size + 1) w2.heap.size w.heap.size #[.int .i64 (wrap64 (n0 + a2)), .int .i64 a1, .int .i64 n1, .int .i64 n2, .int .i64 n3, .int .i64 n4, .slice none 0 0, .slice none 0 0] #[.int .i64 0, .int .i64 0, .int .i64 0, .int .i64 0, .int .i64 0, .int .i64 0, .slice none 0 0, .slice none 0 0] l0 b4 e4) := ⟨HT4.out.set 5 (.int .i64 n4)⟩; have q4 := (blk_cell HT4.out.fx 5).trans rfl; have f4 := blk_frozen HT4.out.fx 5; clear hi hb hk) | (go_at_call 43; refine (event_reader_list.calls k (w.heap.size + 1) l0 b4 e4 l5 b5 e5 w _ HS4.out.fi HS4.out.fB H5.out).mono ?_; rintro e w7 ⟨v5, rfl, ho, hi, hb, hk⟩; have HL5 := Aside0.mk (Kd.R_lower (Kd.R_mono (ok' := fun k_ => w2.heap.size < k_) (Kd.R_bound ho) (fun k_ hk_ => Nat.lt_of_lt_of_le (blk_lt HS4.out.fx) hk_.2.1)) HS4.out.fB.size); have HT5 := Aside0.mk (HS4.out.call hi hb hk); obtain ⟨A5, c5, ee5⟩ := Kd.R_slice ho; subst ee5; have HS5 : Aside0 (event_Read.St w (w7.setCell ⟨w2.heap.size, 6, none⟩ (.slice A5 l5.length c5)) (w.heap.size + 1) w2.heap.size w.heap.size #[.int .i64 (wrap64 (n0 + a2)), .int .i64 a1, .int .i64 n1, .int .i64 n2, .int .i64 n3, .int .i64 n4, .slice A5 l5.length c5, .slice none 0 0] #[.int .i64 0, .int .i64 0, .int .i64 0, .int .i64 0, .int .i64 0, .int .i64 0, .slice none 0 0, .slice none 0 0] l0 b5 e5) := ⟨HT5.out.set 6 _⟩; have q5 := (blk_cell HT5.out.fx 6).trans rfl; have f5 := blk_frozen HT5.out.fx 6; clear ho hi hb hk) | (go_at_call 43; refine (event_reader_list.calls k (w.heap.size + 1) l0 b5 e5 l6 b6 e6 w _ HS5.out.fi HS5.out.fB H6.out).mono ?_; rintro e w8 ⟨v6, rfl, ho, hi, hb, hk⟩; have HL5b := Aside0.mk (Kd.R_keep (Kd.R_far (p := ⟨w2.heap.size, 6, none⟩) HL5.out (fun k_ hk_ => Nat.ne_of_gt hk_) (.slice A5 l5.length c5)) hk (fun k_ hk_ => by have := HS5.out.gx; have := HS5.out.fi.lt; have := HLT.out; omega)); obtain ⟨in5, ow5⟩ := Kd.R_own (Kd.R_far (p := ⟨w2.heap.size, 6, none⟩) HL5.out (fun k_ hk_ => Nat.ne_of_gt hk_) (.slice A5 l5.length c5)); have HL6 := Aside0.mk (Kd.R_lower (Kd.R_mono (ok' := fun k_ => w2.heap.size < k_ ∧ some k_ ≠ (Value.slice A5 l5.length c5).ownBlock) (Kd.R_bound (Kd.R_new ho ow5)) (fun k_ hk_ => ⟨Nat.lt_of_lt_of_le (blk_lt HS5.out.fx) hk_.2.1, hk_.1.2⟩)) HS5.out.fB.size); have HT6 := Aside0.mk (HS5.out.call hi hb hk); obtain ⟨A6, c6, ee6⟩ := Kd.R_slice ho; subst ee6; have HS6 : Aside0 (event_Read.St w (w8.setCell ⟨w2.heap.size, 7, none⟩ (.slice A6 l6.length c6)) (w.heap.size + 1) w2.heap.size w.heap.size #[.int .i64 (wrap64 (n0 + a2)), .int .i64 a1, .int .i64 n1, .int .i64 n2, .int .i64 n3, .int .i64 n4, .slice A5 l5.length c5, .slice A6 l6.length c6] #[.int .i64 0, .int .i64 0, .int .i64 0, .int .i64 0, .int .i64 0, .int .i64 0, .slice none 0 0, .slice none 0 0] l0 b6 e6) := ⟨HT6.out.set 7 _⟩; have q6 := (blk_cell HT6.out.fx 7).trans rfl; have f6 := blk_frozen HT6.out.fx 7; obtain ⟨Az, cz, hz, _, _⟩ := HS6.out.fi; have q7 := cellS88_2 hz; have q8 := cellS88_1 hz; clear ho hi hb hk ow5 hz))
    have x0 := (blk_cell HS6.out.fx 0).trans rfl
    have y0 := (blk_cell HS6.out.fr 0).trans rfl
    have z0 := blk_frozen HS6.out.fr 0
    have x1 := (blk_cell HS6.out.fx 1).trans rfl
    have y1 := (blk_cell HS6.out.fr 1).trans rfl
    have z1 := blk_frozen HS6.out.fr 1
    have x2 := (blk_cell HS6.out.fx 2).trans rfl
    have y2 := (blk_cell HS6.out.fr 2).trans rfl
    have z2 := blk_frozen HS6.out.fr 2
    have x3 := (blk_cell HS6.out.fx 3).trans rfl
    have y3 := (blk_cell HS6.out.fr 3).trans rfl
    have z3 := blk_frozen HS6.out.fr 3
    have x4 := (blk_cell HS6.out.fx 4).trans rfl
    have y4 := (blk_cell HS6.out.fr 4).trans rfl
    have z4 := blk_frozen HS6.out.fr 4
    have x5 := (blk_cell HS6.out.fx 5).trans rfl
    have y5 := (blk_cell HS6.out.fr 5).trans rfl
    have z5 := blk_frozen HS6.out.fr 5
    have x6 := (blk_cell HS6.out.fx 6).trans rfl
    have y6 := (blk_cell HS6.out.fr 6).trans rfl
    have z6 := blk_frozen HS6.out.fr 6
    have x7 := (blk_cell HS6.out.fx 7).trans rfl
    have y7 := (blk_cell HS6.out.fr 7).trans rfl
    have z7 := blk_frozen HS6.out.fr 7
    clear HR1 hW1
    go_region
    all_goals (try go_wp2)
    all_goals refine bodyPost_ret (results_ctt rfl _ _ w.heap.size 26 #[.int .i64 0, .int .i64 0, .int .i64 0, .int .i64 0, .int .i64 0, .int .i64 0, .slice none 0 0, .slice none 0 0] (0, 0) _ rfl (blk_drew (event_Read.put8 HS6.out.fr)) Try.underlying26 rfl (by kernel_rfl)) rfl ?_
    all_goals exact ⟨_, _, rfl, Kd.R_nil _ _ _ _ _, Kd.R_nil _ _ _ _ _, below_drew1 (event_Read.below8 HS6.out.fB (Nat.le_refl _))⟩

end Go.Proofs.Ytnmmkgagbfniiaa.A
