/- MEventSpoilt6: texts of this session and of the kit's printer on the road to the statement EventSpoilt, laid into one and rid of what it doesn't need. No condition beyond what each fact names. -/
import Derived.Test.YtnmmkgagbfniiaaMEventSpoilt3
import Derived.Test.YtnmmkgagbfniiaaMEventSpoilt5
section
namespace Go.Proofs.Ytnmmkgagbfniiaa.A
open Go.RowKit Go.Proofs.YtnmmkgagbfniiaaW.PrintWords Go.Proofs.YtnmmkgagbfniiaaW.PrintLast Go.Proofs.YtnmmkgagbfniiaaW.PrintMore
attribute [local go_sem] max2_int min2_int max_two min_two max_three min_three max_four min_four
set_option linter.unusedVariables false
set_option linter.unusedSimpArgs false
def event_Read.f (k : Nat) (l0 : List Int) (a1 a2 : Int) : Option (Int × Int × Int × Int × Int × Int × List Int × List Int × Int × Int) :=
  (event_reader_next.f k l0 0 0).bind fun p0 => (event_reader_next.f k l0 p0.2.1 p0.2.2).bind fun p1 => (event_reader_next.f k l0 p1.2.1 p1.2.2).bind fun p2 => (event_reader_next.f k l0 p2.2.1 p2.2.2).bind fun p3 => (event_reader_next.f k l0 p3.2.1 p3.2.2).bind fun p4 => (event_reader_list.f k l0 p4.2.1 p4.2.2).bind fun q5 => (event_reader_list.f k l0 q5.2.1 q5.2.2).bind fun q6 => if q6.2.2 = 0 then some (wrap64 (p0.1 + a2), a1, p1.1, p2.1, p3.1, p4.1, q5.1, q6.1, q6.2.1, 0) else some (0, 0, 0, 0, 0, 0, [], [], 0, q6.2.2)
theorem event_Read.mono : ∀ a0 a1 a2 k, LeO (event_Read.f k a0 a1 a2) (event_Read.f (k + 1) a0 a1 a2) := by
  intro a0 a1 a2 k
  unfold event_Read.f
  exact LeO.bind (event_reader_next.mono _ _ _ _) fun _ => LeO.bind (event_reader_next.mono _ _ _ _) fun _ => LeO.bind (event_reader_next.mono _ _ _ _) fun _ => LeO.bind (event_reader_next.mono _ _ _ _) fun _ => LeO.bind (event_reader_next.mono _ _ _ _) fun _ => LeO.bind (event_reader_list.mono _ _ _ _) fun _ => LeO.bind (event_reader_list.mono _ _ _ _) fun _ => LeO.refl _
structure event_Read.St (w W : World) (g x r : Nat) (cs cr : Array Value) (l0 : List Int) (a e : Int) : Prop where
  fi : IsS88 w W g l0 a e
  fB : Below w.heap.size w W
  fx : W.heap[x]? = some (.cells cs 26 (0, 0))
  fr : W.heap[r]? = some (.cells cr 26 (0, 0))
  gx : x ≠ g
  gr : r ≠ g
  xr : x ≠ r
  hx : w.heap.size ≤ x
theorem event_Read.St.call {w W W1 : World} {g x r : Nat} {cs cr : Array Value} {l0 : List Int} {a e a' e' : Int} (S : event_Read.St w W g x r cs cr l0 a e) (hi : IsS88 w W1 g l0 a' e') (hb : Below w.heap.size w W1) (hk : KeepBut W W1 g none) : event_Read.St w W1 g x r cs cr l0 a' e' :=
  ⟨hi, hb, (hk.2 _ (blk_lt S.fx) S.gx (by simp)).trans S.fx, (hk.2 _ (blk_lt S.fr) S.gr (by simp)).trans S.fr, S.gx, S.gr, S.xr, S.hx⟩
theorem event_Read.St.set {w W : World} {g x r : Nat} {cs cr : Array Value} {l0 : List Int} {a e : Int} (S : event_Read.St w W g x r cs cr l0 a e) (j : Nat) (v : Value) : event_Read.St w (W.setCell ⟨x, j, none⟩ v) g x r (cs.setIfInBounds j v) cr l0 a e :=
  ⟨S.fi.far (by exact fun h => S.gx h.symm) v, below_set S.fB S.hx, by simpa using blk_set S.fx j v, by rw [Below.heap_setCell _ _ _ _ (fun h => S.xr h.symm)]; exact S.fr, S.gx, S.gr, S.xr, S.hx⟩
theorem event_Read.put8 {W : World} {r : Nat} {v0 v1 v2 v3 v4 v5 v6 v7 u0 u1 u2 u3 u4 u5 u6 u7 : Value} (h : W.heap[r]? = some (.cells #[u0, u1, u2, u3, u4, u5, u6, u7] 26 (0, 0))) : ((((((((W.setCell ⟨r, 0, none⟩ v0).setCell ⟨r, 1, none⟩ v1).setCell ⟨r, 2, none⟩ v2).setCell ⟨r, 3, none⟩ v3).setCell ⟨r, 4, none⟩ v4).setCell ⟨r, 5, none⟩ v5).setCell ⟨r, 6, none⟩ v6).setCell ⟨r, 7, none⟩ v7).heap[r]? = some (.cells #[v0, v1, v2, v3, v4, v5, v6, v7] 26 (0, 0)) := by
  have h0 : (W.setCell ⟨r, 0, none⟩ v0).heap[r]? = some (.cells #[v0, u1, u2, u3, u4, u5, u6, u7] 26 (0, 0)) := by simpa using blk_set h 0 v0
  have h1 : ((W.setCell ⟨r, 0, none⟩ v0).setCell ⟨r, 1, none⟩ v1).heap[r]? = some (.cells #[v0, v1, u2, u3, u4, u5, u6, u7] 26 (0, 0)) := by simpa using blk_set h0 1 v1
  generalize (W.setCell ⟨r, 0, none⟩ v0).setCell ⟨r, 1, none⟩ v1 = W1 at h1 ⊢
  have h2 : (W1.setCell ⟨r, 2, none⟩ v2).heap[r]? = some (.cells #[v0, v1, v2, u3, u4, u5, u6, u7] 26 (0, 0)) := by simpa using blk_set h1 2 v2
  have h3 : ((W1.setCell ⟨r, 2, none⟩ v2).setCell ⟨r, 3, none⟩ v3).heap[r]? = some (.cells #[v0, v1, v2, v3, u4, u5, u6, u7] 26 (0, 0)) := by simpa using blk_set h2 3 v3
  generalize (W1.setCell ⟨r, 2, none⟩ v2).setCell ⟨r, 3, none⟩ v3 = W2 at h3 ⊢
  have h4 : (W2.setCell ⟨r, 4, none⟩ v4).heap[r]? = some (.cells #[v0, v1, v2, v3, v4, u5, u6, u7] 26 (0, 0)) := by simpa using blk_set h3 4 v4
  have h5 : ((W2.setCell ⟨r, 4, none⟩ v4).setCell ⟨r, 5, none⟩ v5).heap[r]? = some (.cells #[v0, v1, v2, v3, v4, v5, u6, u7] 26 (0, 0)) := by simpa using blk_set h4 5 v5
  generalize (W2.setCell ⟨r, 4, none⟩ v4).setCell ⟨r, 5, none⟩ v5 = W3 at h5 ⊢
  have h6 : (W3.setCell ⟨r, 6, none⟩ v6).heap[r]? = some (.cells #[v0, v1, v2, v3, v4, v5, v6, u7] 26 (0, 0)) := by simpa using blk_set h5 6 v6
  simpa using blk_set h6 7 v7
theorem event_Read.far8 {α : Type} {d : Kd α} {e base : Nat} {W : World} {ok : Nat → Prop} {v : Value} {xs : List α} {r : Nat} {v0 v1 v2 v3 v4 v5 v6 v7 : Value} (h : d.R e W base ok v xs) (hr : ∀ k, ok k → k ≠ r) : d.R e ((((((((W.setCell ⟨r, 0, none⟩ v0).setCell ⟨r, 1, none⟩ v1).setCell ⟨r, 2, none⟩ v2).setCell ⟨r, 3, none⟩ v3).setCell ⟨r, 4, none⟩ v4).setCell ⟨r, 5, none⟩ v5).setCell ⟨r, 6, none⟩ v6).setCell ⟨r, 7, none⟩ v7) base ok v xs :=
  Kd.R_far (Kd.R_far (Kd.R_far (Kd.R_far (Kd.R_far (Kd.R_far (Kd.R_far (Kd.R_far h (p := ⟨r, 0, none⟩) hr _) (p := ⟨r, 1, none⟩) hr _) (p := ⟨r, 2, none⟩) hr _) (p := ⟨r, 3, none⟩) hr _) (p := ⟨r, 4, none⟩) hr _) (p := ⟨r, 5, none⟩) hr _) (p := ⟨r, 6, none⟩) hr _) (p := ⟨r, 7, none⟩) hr _
theorem event_Read.below8 {w W : World} {r : Nat} {v0 v1 v2 v3 v4 v5 v6 v7 : Value} (h : Below w.heap.size w W) (hr : w.heap.size ≤ r) : Below w.heap.size w ((((((((W.setCell ⟨r, 0, none⟩ v0).setCell ⟨r, 1, none⟩ v1).setCell ⟨r, 2, none⟩ v2).setCell ⟨r, 3, none⟩ v3).setCell ⟨r, 4, none⟩ v4).setCell ⟨r, 5, none⟩ v5).setCell ⟨r, 6, none⟩ v6).setCell ⟨r, 7, none⟩ v7) :=
  below_set (below_set (below_set (below_set (below_set (below_set (below_set (below_set h hr) hr) hr) hr) hr) hr) hr) hr
set_option maxHeartbeats 4000000 in
set_option maxRecDepth 100000 in
theorem event_Read.calls (k : Nat) (A0 : Option Addr) (c0 : Nat) (l0 : List Int) (a1 : Int) (a2 : Int) (r1 r2 r3 r4 r5 r6 : Int) (r7 r8 : List Int) (r9 r10 : Int) (w : World) (hr0 : Kd.C (Kd.int .u8) w A0 l0.length l0) (hc0 : l0.length ≤ c0) (h : event_Read.f k l0 a1 a2 = some (r1, r2, r3, r4, r5, r6, r7, r8, r9, r10)) :
    Calls Try.prog 13 #[.slice A0 l0.length c0, .int .i64 a1, .int .i64 a2] w fun e w' => ∃ v6_ v7_ : Value, e = .returned (.tuple #[.agg #[.int .i64 r1, .int .i64 r2, .int .i64 r3, .int .i64 r4, .int .i64 r5, .int .i64 r6, v6_, v7_], .int .i64 r9, .int .i64 r10]) ∧ Kd.R (Kd.int .i64) 3 w' w.heap.size (fun k_ => some k_ ≠ (v7_ : Value).ownBlock) v6_ r7 ∧ Kd.R (Kd.int .i64) 3 w' w.heap.size (fun k_ => some k_ ≠ (v6_ : Value).ownBlock) v7_ r8 ∧ Below w.heap.size w w' := by
  obtain ⟨⟨n0, b0, e0⟩, h0, h_0⟩ := Option.bind_eq_some_iff.mp h
  clear h
  obtain ⟨⟨n1, b1, e1⟩, h1, h_1⟩ := Option.bind_eq_some_iff.mp h_0
  clear h_0
  obtain ⟨⟨n2, b2, e2⟩, h2, h_2⟩ := Option.bind_eq_some_iff.mp h_1
  clear h_1
  obtain ⟨⟨n3, b3, e3⟩, h3, h_3⟩ := Option.bind_eq_some_iff.mp h_2
  clear h_2
  obtain ⟨⟨n4, b4, e4⟩, h4, h_4⟩ := Option.bind_eq_some_iff.mp h_3
  clear h_3
  obtain ⟨⟨l5, b5, e5⟩, h5, h_5⟩ := Option.bind_eq_some_iff.mp h_4
  clear h_4
  obtain ⟨⟨l6, b6, e6⟩, h6, h_6⟩ := Option.bind_eq_some_iff.mp h_5
  clear h_5
  have h := h_6
  clear h_6
  dsimp only at h h0 h1 h2 h3 h4 h5 h6
  have H0 := Aside0.mk h0
  have H1 := Aside0.mk h1
  have H2 := Aside0.mk h2
  have H3 := Aside0.mk h3
  have H4 := Aside0.mk h4
  have H5 := Aside0.mk h5
  have H6 := Aside0.mk h6
  have HH := Aside0.mk h
  clear h h0 h1 h2 h3 h4 h5 h6
  obtain ⟨W1, hW1⟩ : ∃ W1 : World, W1 = (w.alloc (.cells #[.int .i64 0, .int .i64 0, .int .i64 0, .int .i64 0, .int .i64 0, .int .i64 0, .slice none 0 0, .slice none 0 0] 26)).alloc (.cells #[.slice A0 l0.length c0, .int .i64 0, .int .i64 0] 88) := ⟨_, rfl⟩
  have HI1 : Aside0 (IsS88 w W1 (w.heap.size + 1) l0 0 0) := ⟨by
    have := IsS88.new w (w.alloc (.cells #[.int .i64 0, .int .i64 0, .int .i64 0, .int .i64 0, .int .i64 0, .int .i64 0, .slice none 0 0, .slice none 0 0] 26)) A0 c0 l0 0 0 (below_alloc (Below.refl _ _) _) ⟨hr0, hc0⟩
    rw [hW1]
    simpa using this⟩
  have HB1 : Aside0 (Below w.heap.size w W1) := ⟨by rw [hW1]; exact below_alloc (below_alloc (Below.refl _ _) _) _⟩
  have HR1 : Aside0 (W1.heap[w.heap.size]? = some (.cells #[.int .i64 0, .int .i64 0, .int .i64 0, .int .i64 0, .int .i64 0, .int .i64 0, .slice none 0 0, .slice none 0 0] 26 (0, 0))) := ⟨by rw [hW1, heap_alloc_old _ _ (by simp), heap_alloc_new]⟩
  clear hr0 hc0
  go_enter Try.func13, Try.ntmps13
  by_cases ce : e6 = 0
  · have ce0 : (e6 != 0) = false := by simp [ce]
    have HH1 := Aside0.mk ((if_pos ce).symm.trans HH.out)
    clear HH
    simp only [Option.some.injEq, Prod.mk.injEq] at HH1
    obtain ⟨rfl, rfl, rfl, rfl, rfl, rfl, rfl, rfl, rfl, rfl⟩ := HH1.out
    clear HH1 ce
    go_wp2_with (first | (go_at_call 42; rw [← hW1]; refine (event_reader_next.calls k (w.heap.size + 1) l0 0 0 n0 b0 e0 w _ HI1.out HB1.out H0.out).mono ?_; rintro e w2 ⟨rfl, hi, hb, hk⟩; have HR2 := (hk.2 _ (blk_lt HR1.out) (by omega) (by simp)).trans HR1.out; have HS0 : Aside0 (event_Read.St w (w2.alloc (.cells #[.int .i64 (wrap64 (n0 + a2)), .int .i64 a1, .int .i64 0, .int .i64 0, .int .i64 0, .int .i64 0, .slice none 0 0, .slice none 0 0] 26)) (w.heap.size + 1) w2.heap.size w.heap.size #[.int .i64 (wrap64 (n0 + a2)), .int .i64 a1, .int .i64 0, .int .i64 0, .int .i64 0, .int .i64 0, .slice none 0 0, .slice none 0 0] #[.int .i64 0, .int .i64 0, .int .i64 0, .int .i64 0, .int .i64 0, .int .i64 0, .slice none 0 0, .slice none 0 0] l0 b0 e0) := ⟨⟨hi.alloc _, (below_then hb hb.size (below_alloc (Below.refl _ _) _)), heap_alloc_new _ _, (heap_alloc_old _ _ (blk_lt HR2)).trans HR2, (Nat.ne_of_gt hi.lt), by omega, Nat.ne_of_gt (blk_lt HR2), hb.size⟩⟩; have HLT : Aside0 (w.heap.size + 1 < w2.heap.size) := ⟨hi.lt⟩; clear hi hb hk HR2) | (go_at_call 42; refine (event_reader_next.calls k (w.heap.size + 1) l0 b0 e0 n1 b1 e1 w _ HS0.out.fi HS0.out.fB H1.out).mono ?_; rintro e w3 ⟨rfl, hi, hb, hk⟩; have HT1 := Aside0.mk (HS0.out.call hi hb hk); have HS1 : Aside0 (event_Read.St w (w3.setCell ⟨w2.heap.size, 2, none⟩ (.int .i64 n1)) (w.heap.size + 1) w2.heap.size w.heap.size #[.int .i64 (wrap64 (n0 + a2)), .int .i64 a1, .int .i64 n1, .int .i64 0, .int .i64 0, .int .i64 0, .slice none 0 0, .slice none 0 0] #[.int .i64 0, .int .i64 0, .int .i64 0, .int .i64 0, .int .i64 0, .int .i64 0, .slice none 0 0, .slice none 0 0] l0 b1 e1) := ⟨HT1.out.set 2 (.int .i64 n1)⟩; have q1 := (blk_cell HT1.out.fx 2).trans rfl; have f1 := blk_frozen HT1.out.fx 2; clear hi hb hk) | (go_at_call 42; refine (event_reader_next.calls k (w.heap.size + 1) l0 b1 e1 n2 b2 e2 w _ HS1.out.fi HS1.out.fB H2.out).mono ?_; rintro e w4 ⟨rfl, hi, hb, hk⟩; have HT2 := Aside0.mk (HS1.out.call hi hb hk); have HS2 : Aside0 (event_Read.St w (w4.setCell ⟨w2.heap.size, 3, none⟩ (.int .i64 n2)) (w.heap.size + 1) w2.heap.size w.heap.size #[.int .i64 (wrap64 (n0 + a2)), .int .i64 a1, .int .i64 n1, .int .i64 n2, .int .i64 0, .int .i64 0, .slice none 0 0, .slice none 0 0] #[.int .i64 0, .int .i64 0, .int .i64 0, .int .i64 0, .int .i64 0, .int .i64 0, .slice none 0 0, .slice none 0 0] l0 b2 e2) := ⟨HT2.out.set 3 (.int .i64 n2)⟩; have q2 := (blk_cell HT2.out.fx 3).trans rfl; have f2 := blk_frozen HT2.out.fx 3; clear hi hb hk) | (go_at_call 42; refine (event_reader_next.calls k (w.heap.size + 1) l0 b2 e2 n3 b3 e3 w _ HS2.out.fi HS2.out.fB H3.out).mono ?_; rintro e w5 ⟨rfl, hi, hb, hk⟩; have HT3 := Aside0.mk (HS2.out.call hi hb hk); have HS3 : Aside0 (event_Read.St w (w5.setCell ⟨w2.heap.size, 4, none⟩ (.int .i64 n3)) (w.heap.size + 1) w2.heap.size w.heap.size #[.int .i64 (wrap64 (n0 + a2)), .int .i64 a1, .int .i64 n1, .int .i64 n2, .int .i64 n3, .int .i64 0, .slice none 0 0, .slice none 0 0] #[.int .i64 0, .int .i64 0, .int .i64 0, .int .i64 0, .int .i64 0, .int .i64 0, .slice none 0 0, .slice none 0 0] l0 b3 e3) := ⟨HT3.out.set 4 (.int .i64 n3)⟩; have q3 := (blk_cell HT3.out.fx 4).trans rfl; have f3 := blk_frozen HT3.out.fx 4; clear hi hb hk) | (go_at_call 42; refine (event_reader_next.calls k (w.heap.size + 1) l0 b3 e3 n4 b4 e4 w _ HS3.out.fi HS3.out.fB H4.out).mono ?_; rintro e w6 ⟨rfl, hi, hb, hk⟩; have HT4 := Aside0.mk (HS3.out.call hi hb hk); have HS4 : Aside0 (event_Read.St w (w6.setCell ⟨w2.heap.size, 5, none⟩ (.int .i64 n4)) (w.heap.size + 1) w2.heap.size w.heap.size #[.int .i64 (wrap64 (n0 + a2)), .int .i64 a1, .int .i64 n1, .int .i64 n2, .int .i64 n3, .int .i64 n4, .slice none 0 0, .slice none 0 0] #[.int .i64 0, .int .i64 0, .int .i64 0, .int .i64 0, .int .i64 0, .int .i64 0, .slice none 0 0, .slice none 0 0] l0 b4 e4) := ⟨HT4.out.set 5 (.int .i64 n4)⟩; have q4 := (blk_cell HT4.out.fx 5).trans rfl; have f4 := blk_frozen HT4.out.fx 5; clear hi hb hk) | (go_at_call 43; refine (event_reader_list.calls k (w.heap.size + 1) l0 b4 e4 l5 b5 e5 w _ HS4.out.fi HS4.out.fB H5.out).mono ?_; rintro e w7 ⟨v5, rfl, ho, hi, hb, hk⟩; have HL5 := Aside0.mk (Kd.R_lower (Kd.R_mono (ok' := fun k_ => w2.heap.size < k_) (Kd.R_bound ho) (fun k_ hk_ => Nat.lt_of_lt_of_le (blk_lt HS4.out.fx) hk_.2.1)) HS4.out.fB.size); have HT5 := Aside0.mk (HS4.out.call hi hb hk); obtain ⟨A5, c5, ee5⟩ := Kd.R_slice ho; subst ee5; have HS5 : Aside0 (event_Read.St w (w7.setCell ⟨w2.heap.size, 6, none⟩ (.slice A5 l5.length c5)) (w.heap.size + 1) w2.heap.size w.heap.size #[.int .i64 (wrap64 (n0 + a2)), .int .i64 a1, .int .i64 n1, .int .i64 n2, .int .i64 n3, .int .i64 n4, .slice A5 l5.length c5, .slice none 0 0] #[.int .i64 0, .int .i64 0, .int .i64 0, .int .i64 0, .int .i64 0, .int .i64 0, .slice none 0 0, .slice none 0 0] l0 b5 e5) := ⟨HT5.out.set 6 _⟩; have q5 := (blk_cell HT5.out.fx 6).trans rfl; have f5 := blk_frozen HT5.out.fx 6; clear ho hi hb hk) | (go_at_call 43; refine (event_reader_list.calls k (w.heap.size + 1) l0 b5 e5 l6 b6 e6 w _ HS5.out.fi HS5.out.fB H6.out).mono ?_; rintro e w8 ⟨v6, rfl, ho, hi, hb, hk⟩; have HL5b := Aside0.mk (Kd.R_keep (Kd.R_far (p := ⟨w2.heap.size, 6, none⟩) HL5.out (fun k_ hk_ => Nat.ne_of_gt hk_) (.slice A5 l5.length c5)) hk (fun k_ hk_ => by have := HS5.out.gx; have := HS5.out.fi.lt; have := HLT.out; omega)); obtain ⟨in5, ow5⟩ := Kd.R_own (Kd.R_far (p := ⟨w2.heap.size, 6, none⟩) HL5.out (fun k_ hk_ => Nat.ne_of_gt hk_) (.slice A5 l5.length c5)); have HL6 := Aside0.mk (Kd.R_lower (Kd.R_mono (ok' := fun k_ => w2.heap.size < k_ ∧ some k_ ≠ (Value.slice A5 l5.length c5).ownBlock) (Kd.R_bound (Kd.R_new ho ow5)) (fun k_ hk_ => ⟨Nat.lt_of_lt_of_le (blk_lt HS5.out.fx) hk_.2.1, hk_.1.2⟩)) HS5.out.fB.size); have HT6 := Aside0.mk (HS5.out.call hi hb hk); obtain ⟨A6, c6, ee6⟩ := Kd.R_slice ho; subst ee6; have HS6 : Aside0 (event_Read.St w (w8.setCell ⟨w2.heap.size, 7, none⟩ (.slice A6 l6.length c6)) (w.heap.size + 1) w2.heap.size w.heap.size #[.int .i64 (wrap64 (n0 + a2)), .int .i64 a1, .int .i64 n1, .int .i64 n2, .int .i64 n3, .int .i64 n4, .slice A5 l5.length c5, .slice A6 l6.length c6] #[.int .i64 0, .int .i64 0, .int .i64 0, .int .i64 0, .int .i64 0, .int .i64 0, .slice none 0 0, .slice none 0 0] l0 b6 e6) := ⟨HT6.out.set 7 _⟩; have q6 := (blk_cell HT6.out.fx 7).trans rfl; have f6 := blk_frozen HT6.out.fx 7; obtain ⟨Az, cz, hz, _, _⟩ := HS6.out.fi; have q7 := cellS88_2 hz; have q8 := cellS88_1 hz; clear ho hi hb hk ow5 hz))
    have x0 := (blk_cell HS6.out.fx 0).trans rfl
    have y0 := (blk_cell HS6.out.fr 0).trans rfl
    have z0 := blk_frozen HS6.out.fr 0
    have x1 := (blk_cell HS6.out.fx 1).trans rfl
    have y1 := (blk_cell HS6.out.fr 1).trans rfl
    have z1 := blk_frozen HS6.out.fr 1
    have x2 := (blk_cell HS6.out.fx 2).trans rfl
    have y2 := (blk_cell HS6.out.fr 2).trans rfl
    have z2 := blk_frozen HS6.out.fr 2
    have x3 := (blk_cell HS6.out.fx 3).trans rfl
    have y3 := (blk_cell HS6.out.fr 3).trans rfl
    have z3 := blk_frozen HS6.out.fr 3
    have x4 := (blk_cell HS6.out.fx 4).trans rfl
    have y4 := (blk_cell HS6.out.fr 4).trans rfl
    have z4 := blk_frozen HS6.out.fr 4
    have x5 := (blk_cell HS6.out.fx 5).trans rfl
    have y5 := (blk_cell HS6.out.fr 5).trans rfl
    have z5 := blk_frozen HS6.out.fr 5
    have x6 := (blk_cell HS6.out.fx 6).trans rfl
    have y6 := (blk_cell HS6.out.fr 6).trans rfl
    have z6 := blk_frozen HS6.out.fr 6
    have x7 := (blk_cell HS6.out.fx 7).trans rfl
    have y7 := (blk_cell HS6.out.fr 7).trans rfl
    have z7 := blk_frozen HS6.out.fr 7
    clear HR1 hW1
    go_region
    all_goals (try go_wp2)
    all_goals refine bodyPost_ret (results_ctt rfl _ _ w.heap.size 26 #[.int .i64 (wrap64 (n0 + a2)), .int .i64 a1, .int .i64 n1, .int .i64 n2, .int .i64 n3, .int .i64 n4, .slice A5 l5.length c5, .slice A6 l6.length c6] (0, 0) _ rfl (blk_drew (event_Read.put8 HS6.out.fr)) Try.underlying26 rfl (by kernel_rfl)) rfl ?_
    all_goals exact ⟨_, _, rfl, Kd.R_flat (d := Kd.int .i64) (fun h_ => h_) (ok := fun k_ => w2.heap.size < k_) (by exact Kd.R_drew (event_Read.far8 (Kd.R_far (p := ⟨w2.heap.size, 7, none⟩) HL5b.out (fun k_ hk_ => Nat.ne_of_gt hk_) _) (fun k_ hk_ => by have := HLT.out; show k_ ≠ w.heap.size; omega))) (fun k_ hk_ _ he_ => (HL6.out.1 k_ he_.symm).2 hk_.symm), Kd.R_mono (ok := fun k_ => w2.heap.size < k_ ∧ some k_ ≠ (Value.slice A5 l5.length c5).ownBlock) (by exact Kd.R_drew (event_Read.far8 (Kd.R_far (p := ⟨w2.heap.size, 7, none⟩) HL6.out (fun k_ hk_ => Nat.ne_of_gt hk_.1) _) (fun k_ hk_ => by have := HLT.out; show k_ ≠ w.heap.size; have := hk_.1; omega))) (fun _ hk_ => hk_.2), below_drew1 (event_Read.below8 HS6.out.fB (Nat.le_refl _))⟩
  · have ce0 : (e6 != 0) = true := by simp [ce]
    have HH1 := Aside0.mk ((if_neg ce).symm.trans HH.out)
    clear HH
    simp only [Option.some.injEq, Prod.mk.injEq] at HH1
    obtain ⟨rfl, rfl, rfl, rfl, rfl, rfl, rfl, rfl, rfl, rfl⟩ := HH1.out
    clear HH1 ce
    go_wp2_with (first | (go_at_call 42; rw [← hW1]; refine (event_reader_next.calls k (w.heap.size + 1) l0 0 0 n0 b0 e0 w _ HI1.out HB1.out H0.out).mono ?_; rintro e w2 ⟨rfl, hi, hb, hk⟩; have HR2 := (hk.2 _ (blk_lt HR1.out) (by omega) (by simp)).trans HR1.out; have HS0 : Aside0 (event_Read.St w (w2.alloc (.cells #[.int .i64 (wrap64 (n0 + a2)), .int .i64 a1, .int .i64 0, .int .i64 0, .int .i64 0, .int .i64 0, .slice none 0 0, .slice none 0 0] 26)) (w.heap.size + 1) w2.heap.size w.heap.size #[.int .i64 (wrap64 (n0 + a2)), .int .i64 a1, .int .i64 0, .int .i64 0, .int .i64 0, .int .i64 0, .slice none 0 0, .slice none 0 0] #[.int .i64 0, .int .i64 0, .int .i64 0, .int .i64 0, .int .i64 0, .int .i64 0, .slice none 0 0, .slice none 0 0] l0 b0 e0) := ⟨⟨hi.alloc _, (below_then hb hb.size (below_alloc (Below.refl _ _) _)), heap_alloc_new _ _, (heap_alloc_old _ _ (blk_lt HR2)).trans HR2, (Nat.ne_of_gt hi.lt), by omega, Nat.ne_of_gt (blk_lt HR2), hb.size⟩⟩; have HLT : Aside0 (w.heap.size + 1 < w2.heap.size) := ⟨hi.lt⟩; clear hi hb hk HR2) | (go_at_call 42; refine (event_reader_next.calls k (w.heap.size + 1) l0 b0 e0 n1 b1 e1 w _ HS0.out.fi HS0.out.fB H1.out).mono ?_; rintro e w3 ⟨rfl, hi, hb, hk⟩; have HT1 := Aside0.mk (HS0.out.call hi hb hk); have HS1 : Aside0 (event_Read.St w (w3.setCell ⟨w2.heap.size, 2, none⟩ (.int .i64 n1)) (w.heap.size + 1) w2.heap.size w.heap.size #[.int .i64 (wrap64 (n0 + a2)), .int .i64 a1, .int .i64 n1, .int .i64 0, .int .i64 0, .int .i64 0, .slice none 0 0, .slice none 0 0] #[.int .i64 0, .int .i64 0, .int .i64 0, .int .i64 0, .int .i64 0, .int .i64 0, .slice none 0 0, .slice none 0 0] l0 b1 e1) := ⟨HT1.out.set 2 (.int .i64 n1)⟩; have q1 := (blk_cell HT1.out.fx 2).trans rfl; have f1 := blk_frozen HT1.out.fx 2; clear hi hb hk) | (go_at_call 42; refine (event_reader_next.calls k (w.heap.size + 1) l0 b1 e1 n2 b2 e2 w _ HS1.out.fi HS1.out.fB H2.out).mono ?_; rintro e w4 ⟨rfl, hi, hb, hk⟩; have HT2 := Aside0.mk (HS1.out.call hi hb hk); have HS2 : Aside0 (event_Read.St w (w4.setCell ⟨w2.heap.size, 3, none⟩ (.int .i64 n2)) (w.heap.size + 1) w2.heap.size w.heap.size #[.int .i64 (wrap64 (n0 + a2)), .int .i64 a1, .int .i64 n1, .int .i64 n2, .int .i64 0, .int .i64 0, .slice none 0 0, .slice none 0 0] #[.int .i64 0, .int .i64 0, .int .i64 0, .int .i64 0, .int .i64 0, .int .i64 0, .slice none 0 0, .slice none 0 0] l0 b2 e2) := ⟨HT2.out.set 3 (.int .i64 n2)⟩; have q2 := (blk_cell HT2.out.fx 3).trans rfl; have f2 := blk_frozen HT2.out.fx 3; clear hi hb hk) | (go_at_call 42; refine (event_reader_next.calls k (w.heap.size + 1) l0 b2 e2 n3 b3 e3 w _ HS2.out.fi HS2.out.fB H3.out).mono ?_; rintro e w5 ⟨rfl, hi, hb, hk⟩; have HT3 := Aside0.mk (HS2.out.call hi hb hk); have HS3 : Aside0 (event_Read.St w (w5.setCell ⟨w2.heap.size, 4, none⟩ (.int .i64 n3)) (w.heap.size + 1) w2.heap.size w.heap.size #[.int .i64 (wrap64 (n0 + a2)), .int .i64 a1, .int .i64 n1, .int .i64 n2, .int .i64 n3, .int .i64 0, .slice none 0 0, .slice none 0 0] #[.int .i64 0, .int .i64 0, .int .i64 0, .int .i64 0, .int .i64 0, .int .i64 0, .slice none 0 0, .slice none 0 0] l0 b3 e3) := ⟨HT3.out.set 4 (.int .i64 n3)⟩; have q3 := (blk_cell HT3.out.fx 4).trans rfl; have f3 := blk_frozen HT3.out.fx 4; clear hi hb hk) | (go_at_call 42; refine (event_reader_next.calls k (w.heap.size + 1) l0 b3 e3 n4 b4 e4 w _ HS3.out.fi HS3.out.fB H4.out).mono ?_; rintro e w6 ⟨rfl, hi, hb, hk⟩; have HT4 := Aside0.mk (HS3.out.call hi hb hk); have HS4 : Aside0 (event_Read.St w (w6.setCell ⟨w2.heap.size, 5, none⟩ (.int .i64 n4)) (w.heap.size + 1) w2.heap.size w.heap.size #[.int .i64 (wrap64 (n0 + a2)), .int .i64 a1, .int .i64 n1, .int .i64 n2, .int .i64 n3, .int .i64 n4, .slice none 0 0, .slice none 0 0] #[.int .i64 0, .int .i64 0, .int .i64 0, .int .i64 0, .int .i64 0, .int .i64 0, .slice none 0 0, .slice none 0 0] l0 b4 e4) := ⟨HT4.out.set 5 (.int .i64 n4)⟩; have q4 := (blk_cell HT4.out.fx 5).trans rfl; have f4 := blk_frozen HT4.out.fx 5; clear hi hb hk) | (go_at_call 43; refine (event_reader_list.calls k (w.heap.size + 1) l0 b4 e4 l5 b5 e5 w _ HS4.out.fi HS4.out.fB H5.out).mono ?_; rintro e w7 ⟨v5, rfl, ho, hi, hb, hk⟩; have HL5 := Aside0.mk (Kd.R_lower (Kd.R_mono (ok' := fun k_ => w2.heap.size < k_) (Kd.R_bound ho) (fun k_ hk_ => Nat.lt_of_lt_of_le (blk_lt HS4.out.fx) hk_.2.1)) HS4.out.fB.size); have HT5 := Aside0.mk (HS4.out.call hi hb hk); obtain ⟨A5, c5, ee5⟩ := Kd.R_slice ho; subst ee5; have HS5 : Aside0 (event_Read.St w (w7.setCell ⟨w2.heap.size, 6, none⟩ (.slice A5 l5.length c5)) (w.heap.size + 1) w2.heap.size w.heap.size #[.int .i64 (wrap64 (n0 + a2)), .int .i64 a1, .int .i64 n1, .int .i64 n2, .int .i64 n3, .int .i64 n4, .slice A5 l5.length c5, .slice none 0 0] #[.int .i64 0, .int .i64 0, .int .i64 0, .int .i64 0, .int .i64 0, .int .i64 0, .slice none 0 0, .slice none 0 0] l0 b5 e5) := ⟨HT5.out.set 6 _⟩; have q5 := (blk_cell HT5.out.fx 6).trans rfl; have f5 := blk_frozen HT5.out.fx 6; clear ho hi hb hk) | (go_at_call 43; refine (event_reader_list.calls k (w.heap.size + 1) l0 b5 e5 l6 b6 e6 w _ HS5.out.fi HS5.out.fB H6.out).mono ?_; rintro e w8 ⟨v6, rfl, ho, hi, hb, hk⟩; have HL5b := Aside0.mk (Kd.R_keep (Kd.R_far (p := ⟨w2.heap.size, 6, none⟩) HL5.out (fun k_ hk_ => Nat.ne_of_gt hk_) (.slice A5 l5.length c5)) hk (fun k_ hk_ => by have := HS5.out.gx; have := HS5.out.fi.lt; have := HLT.out; omega)); obtain ⟨in5, ow5⟩ := Kd.R_own (Kd.R_far (p := ⟨w2.heap.size, 6, none⟩) HL5.out (fun k_ hk_ => Nat.ne_of_gt hk_) (.slice A5 l5.length c5)); have HL6 := Aside0.mk (Kd.R_lower (Kd.R_mono (ok' := fun k_ => w2.heap.size < k_ ∧ some k_ ≠ (Value.slice A5 l5.length c5).ownBlock) (Kd.R_bound (Kd.R_new ho ow5)) (fun k_ hk_ => ⟨Nat.lt_of_lt_of_le (blk_lt HS5.out.fx) hk_.2.1, hk_.1.2⟩)) HS5.out.fB.size); have HT6 := Aside0.mk (HS5.out.call hi hb hk); obtain ⟨A6, c6, ee6⟩ := Kd.R_slice ho; subst ee6; have HS6 : Aside0 (event_Read.St w (w8.setCell ⟨w2.heap.size, 7, none⟩ (.slice A6 l6.length c6)) (w.heap.size + 1) w2.heap.size w.heap.size #[.int .i64 (wrap64 (n0 + a2)), .int .i64 a1, .int .i64 n1, .int .i64 n2, .int .i64 n3, .int .i64 n4, .slice A5 l5.length c5, .slice A6 l6.length c6] #[.int .i64 0, .int .i64 0, .int .i64 0, .int .i64 0, .int .i64 0, .int .i64 0, .slice none 0 0, .slice none 0 0] l0 b6 e6) := ⟨HT6.out.set 7 _⟩; have q6 := (blk_cell HT6.out.fx 7).trans rfl; have f6 := blk_frozen HT6.out.fx 7; obtain ⟨Az, cz, hz, _, _⟩ := HS6.out.fi; have q7 := cellS88_2 hz; have q8 := cellS88_1 hz; clear ho hi hb hk ow5 hz))
    have x0 := (blk_cell HS6.out.fx 0).trans rfl
    have y0 := (blk_cell HS6.out.fr 0).trans rfl
    have z0 := blk_frozen HS6.out.fr 0
    have x1 := (blk_cell HS6.out.fx 1).trans rfl
    have y1 := (blk_cell HS6.out.fr 1).trans rfl
    have z1 := blk_frozen HS6.out.fr 1
    have x2 := (blk_cell HS6.out.fx 2).trans rfl
    have y2 := (blk_cell HS6.out.fr 2).trans rfl
    have z2 := blk_frozen HS6.out.fr 2
    have x3 := (blk_cell HS6.out.fx 3).trans rfl
    have y3 := (blk_cell HS6.out.fr 3).trans rfl
    have z3 := blk_frozen HS6.out.fr 3
    have x4 := (blk_cell HS6.out.fx 4).trans rfl
    have y4 := (blk_cell HS6.out.fr 4).trans rfl
    have z4 := blk_frozen HS6.out.fr 4
    have x5 := (blk_cell HS6.out.fx 5).trans rfl
    have y5 := (blk_cell HS6.out.fr 5).trans rfl
    have z5 := blk_frozen HS6.out.fr 5
    have x6 := (blk_cell HS6.out.fx 6).trans rfl
    have y6 := (blk_cell HS6.out.fr 6).trans rfl
    have z6 := blk_frozen HS6.out.fr 6
    have x7 := (blk_cell HS6.out.fx 7).trans rfl
    have y7 := (blk_cell HS6.out.fr 7).trans rfl
    have z7 := blk_frozen HS6.out.fr 7
    clear HR1 hW1
    go_region
    all_goals (try go_wp2)
    all_goals refine bodyPost_ret (results_ctt rfl _ _ w.heap.size 26 #[.int .i64 0, .int .i64 0, .int .i64 0, .int .i64 0, .int .i64 0, .int .i64 0, .slice none 0 0, .slice none 0 0] (0, 0) _ rfl (blk_drew (event_Read.put8 HS6.out.fr)) Try.underlying26 rfl (by kernel_rfl)) rfl ?_
    all_goals exact ⟨_, _, rfl, Kd.R_nil _ _ _ _ _, Kd.R_nil _ _ _ _ _, below_drew1 (event_Read.below8 HS6.out.fB (Nat.le_refl _))⟩
end Go.Proofs.Ytnmmkgagbfniiaa.A
end
section
namespace Go.Proofs.Ytnmmkgagbfniiaa.A
open Go.RowKit Go.Proofs.YtnmmkgagbfniiaaW.PrintWords Go.Proofs.YtnmmkgagbfniiaaW.PrintLast Go.Proofs.YtnmmkgagbfniiaaW.PrintMore
attribute [local go_sem] max2_int min2_int max_two min_two max_three min_three max_four min_four
set_option linter.unusedVariables false
set_option linter.unusedSimpArgs false
def IsS94 (w0 W : World) (g : Nat) (f0 : List Int) (f1 : Int) (f2 : Int) : Prop := ∃ A0 c0, W.heap[g]? = some (.cells #[.slice A0 f0.length c0, .int .i64 f1, .int .i64 f2] 94 (0, 0)) ∧ w0.heap.size ≤ g ∧ (Kd.C (Kd.int .u8) w0 A0 f0.length f0 ∧ f0.length ≤ c0)
theorem IsS94.grown {w0 W : World} {g : Nat} {f0 : List Int} {f1 : Int} {f2 : Int} {W1 : World} {row : Option Nat} (h : IsS94 w0 W g f0 f1 f2) (hw : W.grownBy W1 row) (hne : some g ≠ row) : IsS94 w0 W1 g f0 f1 f2 := by
  obtain ⟨A0, c0, hb, hg, hr0⟩ := h
  exact ⟨A0, c0, blk_grown hb hw hne, hg, hr0⟩
theorem IsS94.kept {w0 W : World} {g : Nat} {f0 : List Int} {f1 : Int} {f2 : Int} {W1 : World} {S : Nat → Prop} (h : IsS94 w0 W g f0 f1 f2) (hk : Kept W W1 S) (hne : ¬ S g) : IsS94 w0 W1 g f0 f1 f2 := by
  obtain ⟨A0, c0, hb, hg, hr0⟩ := h
  exact ⟨A0, c0, blk_kept hb hk hne, hg, hr0⟩
theorem IsS94.below {w0 W : World} {g : Nat} {f0 : List Int} {f1 : Int} {f2 : Int} {W1 : World} (h : IsS94 w0 W g f0 f1 f2) (hw : Below W.heap.size W W1) : IsS94 w0 W1 g f0 f1 f2 := h.grown (grown_of_below hw none) (by simp)
theorem IsS94.alloc {w0 W : World} {g : Nat} {f0 : List Int} {f1 : Int} {f2 : Int} (h : IsS94 w0 W g f0 f1 f2) (o : Obj) : IsS94 w0 (W.alloc o) g f0 f1 f2 := h.below (below_alloc (Below.refl _ _) o)
theorem IsS94.drewN {w0 W : World} {g : Nat} {f0 : List Int} {f1 : Int} {f2 : Int} (h : IsS94 w0 W g f0 f1 f2) (m : Nat) : IsS94 w0 (W.drewN m) g f0 f1 f2 := h
theorem IsS94.drew {w0 W : World} {g : Nat} {f0 : List Int} {f1 : Int} {f2 : Int} (h : IsS94 w0 W g f0 f1 f2) : IsS94 w0 W.drew g f0 f1 f2 := h
theorem IsS94.at_ {w0 W : World} {g : Nat} {f0 : List Int} {f1 : Int} {f2 : Int} {w' : World} {m : Nat} (hq : W.drewN m = w') (h : IsS94 w0 W g f0 f1 f2) : IsS94 w0 w' g f0 f1 f2 := by subst hq; exact IsS94.drewN h m
theorem IsS94.apart {w0 W : World} {g : Nat} {f0 : List Int} {f1 : Int} {f2 : Int} {α : Type} {d : Kd α} {e : Nat} {base : Nat} {ok : Nat → Prop} {v : Value} {xs : List α} (h : IsS94 w0 W g f0 f1 f2) (ho : d.R e W base ok v xs) (ht : ∀ q, q ∈ e :: d.E → q ≠ 94) : d.R e W base (fun k => ok k ∧ k ≠ g) v xs := by
  obtain ⟨A0, c0, hb, hg, hr0⟩ := h
  exact Kd.R_types ho hb ht
theorem IsS94.own_ne {w0 W : World} {g : Nat} {f0 : List Int} {f1 : Int} {f2 : Int} {α : Type} {d : Kd α} {e : Nat} {base : Nat} {ok : Nat → Prop} {v : Value} {xs : List α} (h : IsS94 w0 W g f0 f1 f2) (ho : d.R e W base ok v xs) (ht : e ≠ 94) : some g ≠ v.ownBlock := by
  obtain ⟨A0, c0, hb, hg, hr0⟩ := h
  exact Kd.R_ne ho hb ht
theorem IsS94.lt {w0 W : World} {g : Nat} {f0 : List Int} {f1 : Int} {f2 : Int} (h : IsS94 w0 W g f0 f1 f2) : g < W.heap.size := by
  obtain ⟨A0, c0, hb, hg, hr0⟩ := h
  exact blk_lt hb
theorem IsS94.ge {w0 W : World} {g : Nat} {f0 : List Int} {f1 : Int} {f2 : Int} (h : IsS94 w0 W g f0 f1 f2) : w0.heap.size ≤ g := by
  obtain ⟨A0, c0, hb, hg, hr0⟩ := h
  exact hg
theorem IsS94.far {w0 W : World} {g : Nat} {f0 : List Int} {f1 : Int} {f2 : Int} {p : Addr} (h : IsS94 w0 W g f0 f1 f2) (hne : g ≠ p.block) (u : Value) : IsS94 w0 (W.setCell p u) g f0 f1 f2 := by
  obtain ⟨A0, c0, hb, hg, hr0⟩ := h
  exact ⟨A0, c0, blk_far hb hne u, hg, hr0⟩
theorem cellS94_0 {W : World} {g : Nat} {A0 : Option Addr} {c0 : Nat} {f0 : List Int} {f1 : Int} {f2 : Int} (h : W.heap[g]? = some (.cells #[.slice A0 f0.length c0, .int .i64 f1, .int .i64 f2] 94 (0, 0))) : W.cell? ⟨g, 0, none⟩ = some (.slice A0 f0.length c0) := (blk_cell h 0).trans rfl
theorem cellS94_1 {W : World} {g : Nat} {A0 : Option Addr} {c0 : Nat} {f0 : List Int} {f1 : Int} {f2 : Int} (h : W.heap[g]? = some (.cells #[.slice A0 f0.length c0, .int .i64 f1, .int .i64 f2] 94 (0, 0))) : W.cell? ⟨g, 1, none⟩ = some (.int .i64 f1) := (blk_cell h 1).trans rfl
theorem IsS94.set_1 {w0 W : World} {g : Nat} {f0 : List Int} {f1 : Int} {f2 : Int} (h : IsS94 w0 W g f0 f1 f2) (x : Int) : IsS94 w0 (W.setCell ⟨g, 1, none⟩ (.int .i64 x)) g f0 x f2 := by
  obtain ⟨A0, c0, hb, hg, hr0⟩ := h
  exact ⟨A0, c0, by simpa using blk_set hb 1 (.int .i64 x), hg, hr0⟩
theorem cellS94_2 {W : World} {g : Nat} {A0 : Option Addr} {c0 : Nat} {f0 : List Int} {f1 : Int} {f2 : Int} (h : W.heap[g]? = some (.cells #[.slice A0 f0.length c0, .int .i64 f1, .int .i64 f2] 94 (0, 0))) : W.cell? ⟨g, 2, none⟩ = some (.int .i64 f2) := (blk_cell h 2).trans rfl
theorem IsS94.set_2 {w0 W : World} {g : Nat} {f0 : List Int} {f1 : Int} {f2 : Int} (h : IsS94 w0 W g f0 f1 f2) (x : Int) : IsS94 w0 (W.setCell ⟨g, 2, none⟩ (.int .i64 x)) g f0 f1 x := by
  obtain ⟨A0, c0, hb, hg, hr0⟩ := h
  exact ⟨A0, c0, by simpa using blk_set hb 2 (.int .i64 x), hg, hr0⟩
theorem IsS94.new (w0 W : World) (A0 : Option Addr) (c0 : Nat) (f0 : List Int) (f1 : Int) (f2 : Int) (hB : Below w0.heap.size w0 W) (hr0 : Kd.C (Kd.int .u8) w0 A0 f0.length f0 ∧ f0.length ≤ c0) : IsS94 w0 (W.alloc (.cells #[.slice A0 f0.length c0, .int .i64 f1, .int .i64 f2] 94)) W.heap.size f0 f1 f2 := ⟨A0, c0, by simpa using heap_alloc_new W _, hB.size, hr0⟩
def interleaveref11_reader_num.f (k : Nat) (s0_0 : List Int) (s0_1 : Int) (s0_2 : Int) : Option (Int × Int × Int) :=
  if s0_2 = 0 then (if 0 ≤ s0_1 ∧ s0_1 ≤ (s0_0.length : Int) then (interleaveref11_Int.f k (s0_0.drop s0_1.toNat)).bind fun p => (if p.2.2 = 0 then some (p.1, wrap64 (s0_1 + p.2.1), s0_2) else some (0, s0_1, p.2.2)) else none) else some (0, s0_1, s0_2)
theorem interleaveref11_reader_num.mono : ∀ a0 a1 a2 k, LeO (interleaveref11_reader_num.f k a0 a1 a2) (interleaveref11_reader_num.f (k + 1) a0 a1 a2) := by
  intro a0 a1 a2 k
  unfold interleaveref11_reader_num.f
  by_cases c : a2 = 0
  · rw [if_pos c, if_pos c]
    by_cases c1 : 0 ≤ a1 ∧ a1 ≤ (a0.length : Int)
    · rw [if_pos c1, if_pos c1]
      exact LeO.bind (interleaveref11_Int.mono _ _) fun _ => LeO.refl _
    · rw [if_neg c1, if_neg c1]
      exact LeO.refl _
  · rw [if_neg c, if_neg c]
    exact LeO.refl _
set_option maxHeartbeats 4000000 in
set_option maxRecDepth 100000 in
theorem interleaveref11_reader_num.calls (k : Nat) (g : Nat) (s0_0 : List Int) (s0_1 : Int) (s0_2 : Int) (r1 : Int) (r2 : Int) (r3 : Int) (w0 w : World) (hI : IsS94 w0 w g s0_0 s0_1 s0_2) (hB : Below w0.heap.size w0 w) (h : interleaveref11_reader_num.f k s0_0 s0_1 s0_2 = some (r1, r2, r3)) :
    Calls Try.prog 47 #[.pointer (some ⟨g, 0, none⟩)] w fun e w' => e = .returned (.int .i64 r1) ∧ IsS94 w0 w' g s0_0 r2 r3 ∧ Below w0.heap.size w0 w' ∧ KeepBut w w' g none := by
  have HI := Aside0.mk hI
  have HB := Aside0.mk hB
  obtain ⟨A0, c0, hblk, hg, hr0, hc0⟩ := hI
  have q0 := cellS94_0 hblk
  have q1 := cellS94_1 hblk
  have q2 := cellS94_2 hblk
  have HR0 := Aside0.mk hr0
  clear hblk hB hr0
  unfold interleaveref11_reader_num.f at h
  by_cases c : s0_2 = 0
  · rw [if_pos c] at h
    have c0_ : (s0_2 != 0) = false := by simp [c]
    have c1_ : (s0_2 == 0) = true := by simp [c]
    by_cases c2 : 0 ≤ s0_1 ∧ s0_1 ≤ (s0_0.length : Int)
    case neg =>
      rw [if_neg c2] at h
      exact absurd h (by simp)
    rw [if_pos c2] at h
    obtain ⟨p, hp, h⟩ := Option.bind_eq_some_iff.mp h
    obtain ⟨n_, z_, e_⟩ := p
    dsimp only at h
    obtain ⟨i0, hi0, _, hsz, _⟩ := info_parts info5
    obtain ⟨A1, hcut, hA, hC⟩ := print_drop_of (P := Try.prog) (Value.int .u8) 0 27 5 .i64 Try.underlying27 hi0 hsz A0 c0 s0_0 s0_1 c2.1 c2.2 hc0
    have HR1 : Aside0 (Kd.C (Kd.int .u8) w0 A1 (s0_0.drop s0_1.toNat).length (s0_0.drop s0_1.toNat)) := ⟨Kd.C_of_reads (h1 := fun _ => rfl) (hA _ (Kd.reads_of_C HR0.out))⟩
    obtain ⟨zs, hz⟩ : ∃ zs : List Int, zs = s0_0.drop s0_1.toNat := ⟨_, rfl⟩
    rw [← hz] at hcut HR1 hC hp
    have HC1 := Aside0.mk hC
    have HF := Aside0.mk hp
    clear hA hC hp hz c2 hc0 c hi0
    by_cases ce : e_ = 0
    · rw [if_pos ce] at h
      have ce0 : (e_ != 0) = false := by simp [ce]
      have ce1 : (e_ == 0) = true := by simp [ce]
      simp only [Option.some.injEq, Prod.mk.injEq] at h
      obtain ⟨rfl, rfl, rfl⟩ := h
      clear ce
      go_enter Try.func47, Try.ntmps47
      go_wp2
      refine start_ (n := 17) (S := fun w' => w'.cell? ⟨g, 0, none⟩ = some (.slice A0 s0_0.length c0) ∧ w'.cell? ⟨g, 1, none⟩ = some (.int .i64 s0_1)) (ds := []) #[false, false, false, false, false, false, false, false, false, false, false, false, false, false, false, false, false] (by kernel_rfl) rfl rfl ⟨q0, q1⟩ (fun hHeld => ?_)
      have HI2 := Aside0.mk (IsS94.drew HI.out)
      have HB2 := Aside0.mk (HB.out.drew)
      have HK2 := Aside0.mk (keep_drew (KeepBut.refl w g none))
      generalize w.drew = w2 at HI2 HB2 HK2 hHeld ⊢
      have HR2 := Aside0.mk (Kd.C_below HR1.out HB2.out)
      refine pure_ (i := 0) (N := some 12) (v := ?_) (a' := ?_) #[true, false, false, false, false, false, false, false, false, false, false, false, false, false, false, false, false] rfl rfl (by kernel_rfl) (fun _ _ _ h => h) (Or.inl ⟨by rfl, ?_⟩) ?_ ?_
      rotate_left
      · intro w'
        go_simp
        with_reducible rfl
      rotate_left
      · simp only [Act.put, List.setIfInBounds_toArray, List.set_cons_zero, List.set_cons_succ, i64_w, i32_w]
        rfl
      refine pure_ (i := 1) (N := some 13) (v := ?_) (a' := ?_) #[true, true, false, false, false, false, false, false, false, false, false, false, false, false, false, false, false] rfl rfl (by kernel_rfl) (fun _ _ _ h => h) (Or.inl ⟨by rfl, ?_⟩) ?_ ?_
      rotate_left
      · intro w'
        go_simp
        with_reducible rfl
      rotate_left
      · simp only [Act.put, List.setIfInBounds_toArray, List.set_cons_zero, List.set_cons_succ, i64_w, i32_w]
        rfl
      refine pure_ (i := 2) (N := some 14) (v := ?_) (a' := ?_) #[true, true, true, false, false, false, false, false, false, false, false, false, false, false, false, false, false] rfl rfl (by kernel_rfl) (fun _ _ _ h => h) (Or.inl ⟨by rfl, ?_⟩) ?_ ?_
      rotate_left
      · intro w'
        go_simp
        with_reducible rfl
      rotate_left
      · simp only [Act.put, List.setIfInBounds_toArray, List.set_cons_zero, List.set_cons_succ, i64_w, i32_w]
        rfl
      refine pure_ (i := 4) (N := some 16) (v := ?_) (a' := ?_) #[true, true, true, false, true, false, false, false, false, false, false, false, false, false, false, false, false] rfl rfl (by kernel_rfl) (fun _ _ _ h => h) (Or.inl ⟨by rfl, ?_⟩) ?_ ?_
      rotate_left
      · intro w'
        go_simp
        with_reducible rfl
      rotate_left
      · simp only [Act.put, List.setIfInBounds_toArray, List.set_cons_zero, List.set_cons_succ, i64_w, i32_w]
        rfl
      refine pure_ (i := 5) (N := some 17) (v := ?_) (a' := ?_) #[true, true, true, false, true, true, false, false, false, false, false, false, false, false, false, false, false] rfl rfl (by kernel_rfl) (fun _ _ _ h => h) (Or.inl ⟨by rfl, ?_⟩) ?_ ?_
      rotate_left
      · intro w'
        go_simp
        with_reducible rfl
      rotate_left
      · simp only [Act.put, List.setIfInBounds_toArray, List.set_cons_zero, List.set_cons_succ, i64_w, i32_w]
        rfl
      refine pure_ (i := 6) (N := some 18) (v := ?_) (a' := ?_) #[true, true, true, false, true, true, true, false, false, false, false, false, false, false, false, false, false] rfl rfl (by kernel_rfl) (fun _ _ _ h => h) (Or.inl ⟨by rfl, ?_⟩) ?_ ?_
      rotate_left
      · intro w'
        go_simp
        with_reducible rfl
      rotate_left
      · simp only [Act.put, List.setIfInBounds_toArray, List.set_cons_zero, List.set_cons_succ, i64_w, i32_w]
        rfl
      refine take_ (i := 3) (N := some 15) (v := ?_) (a' := ?_) #[true, true, true, true, true, true, true, false, false, false, false, false, false, false, false, false, false] rfl rfl (by kernel_rfl) (fun _ _ _ h => h) (Or.inl ⟨by rfl, ?_⟩) hHeld ?_ ?_
      rotate_left
      · rintro w' ⟨s0, s1⟩
        go_simp
        with_reducible rfl
      rotate_left
      · simp only [Act.put, List.setIfInBounds_toArray, List.set_cons_zero, List.set_cons_succ, i64_w, i32_w]
        rfl
      refine take_ (i := 7) (N := some 19) (v := ?_) (a' := ?_) #[true, true, true, true, true, true, true, true, false, false, false, false, false, false, false, false, false] rfl rfl (by kernel_rfl) (fun _ _ _ h => h) (Or.inl ⟨by rfl, ?_⟩) hHeld ?_ ?_
      rotate_left
      · rintro w' ⟨s0, s1⟩
        go_simp
        with_reducible rfl
      rotate_left
      · simp only [Act.put, List.setIfInBounds_toArray, List.set_cons_zero, List.set_cons_succ, i64_w, i32_w]
        rfl
      refine pure_ (i := 8) (N := some 20) (v := ?_) (a' := ?_) #[true, true, true, true, true, true, true, true, true, false, false, false, false, false, false, false, false] rfl rfl (by kernel_rfl) (fun _ _ _ h => h) (Or.inl ⟨by rfl, ?_⟩) ?_ ?_
      rotate_left
      · intro w'
        go_simp
        with_reducible rfl
      rotate_left
      · simp only [Act.put, List.setIfInBounds_toArray, List.set_cons_zero, List.set_cons_succ, i64_w, i32_w]
        rfl
      refine one_ (i := 9) (N := some 21) #[true, true, true, true, true, true, true, true, true, true, false, false, false, false, false, false, false] rfl rfl (by kernel_rfl) (by decide) (fun K hK => ?_)
      refine goes_ Try.func76 (by kernel_rfl) rfl #[.slice A1 zs.length (c0 - s0_1.toNat)] (by rfl) rfl rfl (by simp only [List.map_toArray, List.map_cons, List.map_nil]; rfl) ?_
      with_reducible refine (interleaveref11_Int.calls k A1 (c0 - s0_1.toNat) zs n_ z_ e_ _ HR2.out HC1.out HF.out).mono ?_
      rintro e w4 ⟨rfl, hb⟩
      refine ⟨_, rfl, ?_⟩
      have HB4 := Aside0.mk (ow_below_drawn (Below.refl _ _) hb)
      have HI4 := Aside0.mk (IsS94.below HI2.out HB4.out)
      clear hb
      refine hK.out _ _ ⟨(HB4.out.cell (p := ⟨g, 0, none⟩) (IsS94.lt HI2.out)).trans hHeld.1, (HB4.out.cell (p := ⟨g, 1, none⟩) (IsS94.lt HI2.out)).trans hHeld.2⟩ (fun hHeld => ?_)
      clear hK K
      refine norm_ (a' := ?_) ?_ ?_
      rotate_left
      · show Act.put _ (some 21) _ = _
        simp only [Act.put, List.setIfInBounds_toArray, List.set_cons_zero, List.set_cons_succ, i64_w, i32_w]
        rfl
      refine pure_ (i := 10) (N := some 11) (v := ?_) (a' := ?_) #[true, true, true, true, true, true, true, true, true, true, true, false, false, false, false, false, false] rfl rfl (by kernel_rfl) (fun _ _ _ h => h) (Or.inl ⟨by rfl, ?_⟩) ?_ ?_
      rotate_left
      · intro w'
        go_simp
        with_reducible rfl
      rotate_left
      · simp only [Act.put, List.setIfInBounds_toArray, List.set_cons_zero, List.set_cons_succ, i64_w, i32_w]
        rfl
      refine pure_ (i := 11) (N := some 22) (v := ?_) (a' := ?_) #[true, true, true, true, true, true, true, true, true, true, true, true, false, false, false, false, false] rfl rfl (by kernel_rfl) (fun _ _ _ h => h) (Or.inl ⟨by rfl, ?_⟩) ?_ ?_
      rotate_left
      · intro w'
        go_simp
        with_reducible rfl
      rotate_left
      · simp only [Act.put, List.setIfInBounds_toArray, List.set_cons_zero, List.set_cons_succ, i64_w, i32_w]
        rfl
      refine pure_ (i := 12) (N := some 23) (v := ?_) (a' := ?_) #[true, true, true, true, true, true, true, true, true, true, true, true, true, false, false, false, false] rfl rfl (by kernel_rfl) (fun _ _ _ h => h) (Or.inl ⟨by rfl, ?_⟩) ?_ ?_
      rotate_left
      · intro w'
        go_simp
        with_reducible rfl
      rotate_left
      · simp only [Act.put, List.setIfInBounds_toArray, List.set_cons_zero, List.set_cons_succ, i64_w, i32_w]
        rfl
      refine pure_ (i := 13) (N := some 24) (v := ?_) (a' := ?_) #[true, true, true, true, true, true, true, true, true, true, true, true, true, true, false, false, false] rfl rfl (by kernel_rfl) (fun _ _ _ h => h) (Or.inl ⟨by rfl, ?_⟩) ?_ ?_
      rotate_left
      · intro w'
        go_simp
        with_reducible rfl
      rotate_left
      · simp only [Act.put, List.setIfInBounds_toArray, List.set_cons_zero, List.set_cons_succ, i64_w, i32_w]
        rfl
      refine pure_ (i := 14) (N := some 3) (v := ?_) (a' := ?_) #[true, true, true, true, true, true, true, true, true, true, true, true, true, true, true, false, false] rfl rfl (by kernel_rfl) (fun _ _ _ h => h) (Or.inl ⟨by rfl, ?_⟩) ?_ ?_
      rotate_left
      · intro w'
        go_simp
        with_reducible rfl
      rotate_left
      · simp only [Act.put, List.setIfInBounds_toArray, List.set_cons_zero, List.set_cons_succ, i64_w, i32_w]
        rfl
      refine pure_ (i := 15) (N := some 4) (v := ?_) (a' := ?_) #[true, true, true, true, true, true, true, true, true, true, true, true, true, true, true, true, false] rfl rfl (by kernel_rfl) (fun _ _ _ h => h) (Or.inl ⟨by rfl, ?_⟩) ?_ ?_
      rotate_left
      · intro w'
        go_simp
        with_reducible rfl
      rotate_left
      · simp only [Act.put, List.setIfInBounds_toArray, List.set_cons_zero, List.set_cons_succ, i64_w, i32_w]
        rfl
      refine pure_ (i := 16) (N := some 5) (v := ?_) (a' := ?_) #[true, true, true, true, true, true, true, true, true, true, true, true, true, true, true, true, true] rfl rfl (by kernel_rfl) (fun _ _ _ h => h) (Or.inl ⟨by rfl, ?_⟩) ?_ ?_
      rotate_left
      · intro w'
        go_simp
        with_reducible rfl
      rotate_left
      · simp only [Act.put, List.setIfInBounds_toArray, List.set_cons_zero, List.set_cons_succ, i64_w, i32_w]
        rfl
      refine done_ (by kernel_rfl) ?_
      obtain ⟨Az, cz, hz, _, _⟩ := HI4.out
      have f1 := blk_frozen hz 1
      have f2 := blk_frozen hz 2
      have q4 := cellS94_1 hz
      have q5 := cellS94_2 hz
      clear hz
      go_wp2
      go_ret
      exact ⟨rfl, HI4.out.set_1 _, below_set (below_then HB2.out HB2.out.size HB4.out) HI.out.ge, (KeepBut.trans HK2.out (KeepBut.of_below HB4.out g none) (.inl rfl)).set_ 1 _⟩
    · rw [if_neg ce] at h
      have ce0 : (e_ != 0) = true := by simp [ce]
      have ce1 : (e_ == 0) = false := by simp [ce]
      simp only [Option.some.injEq, Prod.mk.injEq] at h
      obtain ⟨rfl, rfl, rfl⟩ := h
      clear ce
      go_enter Try.func47, Try.ntmps47
      go_wp2
      refine start_ (n := 17) (S := fun w' => w'.cell? ⟨g, 0, none⟩ = some (.slice A0 s0_0.length c0) ∧ w'.cell? ⟨g, 1, none⟩ = some (.int .i64 s0_1)) (ds := []) #[false, false, false, false, false, false, false, false, false, false, false, false, false, false, false, false, false] (by kernel_rfl) rfl rfl ⟨q0, q1⟩ (fun hHeld => ?_)
      have HI2 := Aside0.mk (IsS94.drew HI.out)
      have HB2 := Aside0.mk (HB.out.drew)
      have HK2 := Aside0.mk (keep_drew (KeepBut.refl w g none))
      generalize w.drew = w2 at HI2 HB2 HK2 hHeld ⊢
      have HR2 := Aside0.mk (Kd.C_below HR1.out HB2.out)
      refine pure_ (i := 0) (N := some 12) (v := ?_) (a' := ?_) #[true, false, false, false, false, false, false, false, false, false, false, false, false, false, false, false, false] rfl rfl (by kernel_rfl) (fun _ _ _ h => h) (Or.inl ⟨by rfl, ?_⟩) ?_ ?_
      rotate_left
      · intro w'
        go_simp
        with_reducible rfl
      rotate_left
      · simp only [Act.put, List.setIfInBounds_toArray, List.set_cons_zero, List.set_cons_succ, i64_w, i32_w]
        rfl
      refine pure_ (i := 1) (N := some 13) (v := ?_) (a' := ?_) #[true, true, false, false, false, false, false, false, false, false, false, false, false, false, false, false, false] rfl rfl (by kernel_rfl) (fun _ _ _ h => h) (Or.inl ⟨by rfl, ?_⟩) ?_ ?_
      rotate_left
      · intro w'
        go_simp
        with_reducible rfl
      rotate_left
      · simp only [Act.put, List.setIfInBounds_toArray, List.set_cons_zero, List.set_cons_succ, i64_w, i32_w]
        rfl
      refine pure_ (i := 2) (N := some 14) (v := ?_) (a' := ?_) #[true, true, true, false, false, false, false, false, false, false, false, false, false, false, false, false, false] rfl rfl (by kernel_rfl) (fun _ _ _ h => h) (Or.inl ⟨by rfl, ?_⟩) ?_ ?_
      rotate_left
      · intro w'
        go_simp
        with_reducible rfl
      rotate_left
      · simp only [Act.put, List.setIfInBounds_toArray, List.set_cons_zero, List.set_cons_succ, i64_w, i32_w]
        rfl
      refine pure_ (i := 4) (N := some 16) (v := ?_) (a' := ?_) #[true, true, true, false, true, false, false, false, false, false, false, false, false, false, false, false, false] rfl rfl (by kernel_rfl) (fun _ _ _ h => h) (Or.inl ⟨by rfl, ?_⟩) ?_ ?_
      rotate_left
      · intro w'
        go_simp
        with_reducible rfl
      rotate_left
      · simp only [Act.put, List.setIfInBounds_toArray, List.set_cons_zero, List.set_cons_succ, i64_w, i32_w]
        rfl
      refine pure_ (i := 5) (N := some 17) (v := ?_) (a' := ?_) #[true, true, true, false, true, true, false, false, false, false, false, false, false, false, false, false, false] rfl rfl (by kernel_rfl) (fun _ _ _ h => h) (Or.inl ⟨by rfl, ?_⟩) ?_ ?_
      rotate_left
      · intro w'
        go_simp
        with_reducible rfl
      rotate_left
      · simp only [Act.put, List.setIfInBounds_toArray, List.set_cons_zero, List.set_cons_succ, i64_w, i32_w]
        rfl
      refine pure_ (i := 6) (N := some 18) (v := ?_) (a' := ?_) #[true, true, true, false, true, true, true, false, false, false, false, false, false, false, false, false, false] rfl rfl (by kernel_rfl) (fun _ _ _ h => h) (Or.inl ⟨by rfl, ?_⟩) ?_ ?_
      rotate_left
      · intro w'
        go_simp
        with_reducible rfl
      rotate_left
      · simp only [Act.put, List.setIfInBounds_toArray, List.set_cons_zero, List.set_cons_succ, i64_w, i32_w]
        rfl
      refine take_ (i := 3) (N := some 15) (v := ?_) (a' := ?_) #[true, true, true, true, true, true, true, false, false, false, false, false, false, false, false, false, false] rfl rfl (by kernel_rfl) (fun _ _ _ h => h) (Or.inl ⟨by rfl, ?_⟩) hHeld ?_ ?_
      rotate_left
      · rintro w' ⟨s0, s1⟩
        go_simp
        with_reducible rfl
      rotate_left
      · simp only [Act.put, List.setIfInBounds_toArray, List.set_cons_zero, List.set_cons_succ, i64_w, i32_w]
        rfl
      refine take_ (i := 7) (N := some 19) (v := ?_) (a' := ?_) #[true, true, true, true, true, true, true, true, false, false, false, false, false, false, false, false, false] rfl rfl (by kernel_rfl) (fun _ _ _ h => h) (Or.inl ⟨by rfl, ?_⟩) hHeld ?_ ?_
      rotate_left
      · rintro w' ⟨s0, s1⟩
        go_simp
        with_reducible rfl
      rotate_left
      · simp only [Act.put, List.setIfInBounds_toArray, List.set_cons_zero, List.set_cons_succ, i64_w, i32_w]
        rfl
      refine pure_ (i := 8) (N := some 20) (v := ?_) (a' := ?_) #[true, true, true, true, true, true, true, true, true, false, false, false, false, false, false, false, false] rfl rfl (by kernel_rfl) (fun _ _ _ h => h) (Or.inl ⟨by rfl, ?_⟩) ?_ ?_
      rotate_left
      · intro w'
        go_simp
        with_reducible rfl
      rotate_left
      · simp only [Act.put, List.setIfInBounds_toArray, List.set_cons_zero, List.set_cons_succ, i64_w, i32_w]
        rfl
      refine one_ (i := 9) (N := some 21) #[true, true, true, true, true, true, true, true, true, true, false, false, false, false, false, false, false] rfl rfl (by kernel_rfl) (by decide) (fun K hK => ?_)
      refine goes_ Try.func76 (by kernel_rfl) rfl #[.slice A1 zs.length (c0 - s0_1.toNat)] (by rfl) rfl rfl (by simp only [List.map_toArray, List.map_cons, List.map_nil]; rfl) ?_
      with_reducible refine (interleaveref11_Int.calls k A1 (c0 - s0_1.toNat) zs n_ z_ e_ _ HR2.out HC1.out HF.out).mono ?_
      rintro e w4 ⟨rfl, hb⟩
      refine ⟨_, rfl, ?_⟩
      have HB4 := Aside0.mk (ow_below_drawn (Below.refl _ _) hb)
      have HI4 := Aside0.mk (IsS94.below HI2.out HB4.out)
      clear hb
      refine hK.out _ _ ⟨(HB4.out.cell (p := ⟨g, 0, none⟩) (IsS94.lt HI2.out)).trans hHeld.1, (HB4.out.cell (p := ⟨g, 1, none⟩) (IsS94.lt HI2.out)).trans hHeld.2⟩ (fun hHeld => ?_)
      clear hK K
      refine norm_ (a' := ?_) ?_ ?_
      rotate_left
      · show Act.put _ (some 21) _ = _
        simp only [Act.put, List.setIfInBounds_toArray, List.set_cons_zero, List.set_cons_succ, i64_w, i32_w]
        rfl
      refine pure_ (i := 10) (N := some 11) (v := ?_) (a' := ?_) #[true, true, true, true, true, true, true, true, true, true, true, false, false, false, false, false, false] rfl rfl (by kernel_rfl) (fun _ _ _ h => h) (Or.inl ⟨by rfl, ?_⟩) ?_ ?_
      rotate_left
      · intro w'
        go_simp
        with_reducible rfl
      rotate_left
      · simp only [Act.put, List.setIfInBounds_toArray, List.set_cons_zero, List.set_cons_succ, i64_w, i32_w]
        rfl
      refine pure_ (i := 11) (N := some 22) (v := ?_) (a' := ?_) #[true, true, true, true, true, true, true, true, true, true, true, true, false, false, false, false, false] rfl rfl (by kernel_rfl) (fun _ _ _ h => h) (Or.inl ⟨by rfl, ?_⟩) ?_ ?_
      rotate_left
      · intro w'
        go_simp
        with_reducible rfl
      rotate_left
      · simp only [Act.put, List.setIfInBounds_toArray, List.set_cons_zero, List.set_cons_succ, i64_w, i32_w]
        rfl
      refine pure_ (i := 12) (N := some 23) (v := ?_) (a' := ?_) #[true, true, true, true, true, true, true, true, true, true, true, true, true, false, false, false, false] rfl rfl (by kernel_rfl) (fun _ _ _ h => h) (Or.inl ⟨by rfl, ?_⟩) ?_ ?_
      rotate_left
      · intro w'
        go_simp
        with_reducible rfl
      rotate_left
      · simp only [Act.put, List.setIfInBounds_toArray, List.set_cons_zero, List.set_cons_succ, i64_w, i32_w]
        rfl
      refine pure_ (i := 13) (N := some 24) (v := ?_) (a' := ?_) #[true, true, true, true, true, true, true, true, true, true, true, true, true, true, false, false, false] rfl rfl (by kernel_rfl) (fun _ _ _ h => h) (Or.inl ⟨by rfl, ?_⟩) ?_ ?_
      rotate_left
      · intro w'
        go_simp
        with_reducible rfl
      rotate_left
      · simp only [Act.put, List.setIfInBounds_toArray, List.set_cons_zero, List.set_cons_succ, i64_w, i32_w]
        rfl
      refine pure_ (i := 14) (N := some 3) (v := ?_) (a' := ?_) #[true, true, true, true, true, true, true, true, true, true, true, true, true, true, true, false, false] rfl rfl (by kernel_rfl) (fun _ _ _ h => h) (Or.inl ⟨by rfl, ?_⟩) ?_ ?_
      rotate_left
      · intro w'
        go_simp
        with_reducible rfl
      rotate_left
      · simp only [Act.put, List.setIfInBounds_toArray, List.set_cons_zero, List.set_cons_succ, i64_w, i32_w]
        rfl
      refine pure_ (i := 15) (N := some 4) (v := ?_) (a' := ?_) #[true, true, true, true, true, true, true, true, true, true, true, true, true, true, true, true, false] rfl rfl (by kernel_rfl) (fun _ _ _ h => h) (Or.inl ⟨by rfl, ?_⟩) ?_ ?_
      rotate_left
      · intro w'
        go_simp
        with_reducible rfl
      rotate_left
      · simp only [Act.put, List.setIfInBounds_toArray, List.set_cons_zero, List.set_cons_succ, i64_w, i32_w]
        rfl
      refine pure_ (i := 16) (N := some 5) (v := ?_) (a' := ?_) #[true, true, true, true, true, true, true, true, true, true, true, true, true, true, true, true, true] rfl rfl (by kernel_rfl) (fun _ _ _ h => h) (Or.inl ⟨by rfl, ?_⟩) ?_ ?_
      rotate_left
      · intro w'
        go_simp
        with_reducible rfl
      rotate_left
      · simp only [Act.put, List.setIfInBounds_toArray, List.set_cons_zero, List.set_cons_succ, i64_w, i32_w]
        rfl
      refine done_ (by kernel_rfl) ?_
      obtain ⟨Az, cz, hz, _, _⟩ := HI4.out
      have f1 := blk_frozen hz 1
      have f2 := blk_frozen hz 2
      have q4 := cellS94_1 hz
      have q5 := cellS94_2 hz
      clear hz
      go_wp2
      go_ret
      exact ⟨rfl, HI4.out.set_2 _, below_set (below_then HB2.out HB2.out.size HB4.out) HI.out.ge, (KeepBut.trans HK2.out (KeepBut.of_below HB4.out g none) (.inl rfl)).set_ 2 _⟩
  · rw [if_neg c] at h
    have c0_ : (s0_2 != 0) = true := by simp [c]
    have c1_ : (s0_2 == 0) = false := by simp [c]
    clear c
    simp only [Option.some.injEq, Prod.mk.injEq] at h
    obtain ⟨rfl, rfl, rfl⟩ := h
    go_enter Try.func47, Try.ntmps47
    go_wp2
    go_ret
    exact ⟨rfl, HI.out, HB.out, KeepBut.refl w g none⟩
end Go.Proofs.Ytnmmkgagbfniiaa.A
end
section
namespace Go.Proofs.Ytnmmkgagbfniiaa.A
open Go.RowKit Go.Proofs.YtnmmkgagbfniiaaW.PrintWords Go.Proofs.YtnmmkgagbfniiaaW.PrintLast Go.Proofs.YtnmmkgagbfniiaaW.PrintMore
attribute [local go_sem] max2_int min2_int max_two min_two max_three min_three max_four min_four
set_option linter.unusedVariables false
set_option linter.unusedSimpArgs false
mutual
def interleaveref11_reader_list.j0 : Nat → Int → Bool → List Int → Int → Int → Option (List Int × Int × Int)
  | 0, _, _, _, _, _ => none
  | k + 1, x3, x21, x1000, x1001, x1002 => if x21 = true then (interleaveref11_reader_list.j1 k x3 x1000 x1001 11) else (interleaveref11_reader_list.j1 k x3 x1000 x1001 x1002)
def interleaveref11_reader_list.j1 : Nat → Int → List Int → Int → Int → Option (List Int × Int × Int)
  | 0, _, _, _, _ => none
  | k + 1, x3, x1000, x1001, x1002 => interleaveref11_reader_list.l0 k x3 ([] : List Int) 0 0 x1000 x1001 x1002
def interleaveref11_reader_list.l0 : Nat → Int → List Int → Int → Int → List Int → Int → Int → Option (List Int × Int × Int)
  | 0, _, _, _, _, _, _, _ => none
  | k + 1, x3, x4, x5, x6, x1000, x1001, x1002 => if x6 < x3 then (if x1002 = 0 then ((interleaveref11_reader_num.f k x1000 x1001 x1002).bind fun bt238 => (if x4.length < 17592186044416 then (interleaveref11_reader_list.l0 k x3 (x4 ++ [wrap64 (x5 + bt238.1)]) (wrap64 (x5 + bt238.1)) (wrap64 (x6 + 1)) x1000 bt238.2.1 bt238.2.2) else (none))) else (some (x4, x1001, x1002))) else (some (x4, x1001, x1002))
end
def interleaveref11_reader_list.f (k : Nat) (s0_0 : List Int) (s0_1 : Int) (s0_2 : Int) : Option (List Int × Int × Int) := (interleaveref11_reader_num.f k s0_0 s0_1 s0_2).bind fun bt235 => (if bt235.2.2 = 0 then (if bt235.1 < 0 then (interleaveref11_reader_list.j0 k bt235.1 true s0_0 bt235.2.1 bt235.2.2) else (interleaveref11_reader_list.j0 k bt235.1 (decide (bt235.1 > 400)) s0_0 bt235.2.1 bt235.2.2)) else (interleaveref11_reader_list.j0 k bt235.1 false s0_0 bt235.2.1 bt235.2.2))
theorem interleaveref11_reader_list.mono_l : ∀ k, (∀ y0 y1 y2 y3 y4, LeO (interleaveref11_reader_list.j0 k y0 y1 y2 y3 y4) (interleaveref11_reader_list.j0 (k + 1) y0 y1 y2 y3 y4)) ∧ (∀ y0 y1 y2 y3, LeO (interleaveref11_reader_list.j1 k y0 y1 y2 y3) (interleaveref11_reader_list.j1 (k + 1) y0 y1 y2 y3)) ∧ (∀ y0 y1 y2 y3 y4 y5 y6, LeO (interleaveref11_reader_list.l0 k y0 y1 y2 y3 y4 y5 y6) (interleaveref11_reader_list.l0 (k + 1) y0 y1 y2 y3 y4 y5 y6))
  | 0 => ⟨fun _ _ _ _ _ r h => by simp [interleaveref11_reader_list.j0] at h, fun _ _ _ _ r h => by simp [interleaveref11_reader_list.j1] at h, fun _ _ _ _ _ _ _ r h => by simp [interleaveref11_reader_list.l0] at h⟩
  | k + 1 => by
    obtain ⟨ih0, ih1, ih2⟩ := interleaveref11_reader_list.mono_l k
    refine ⟨?_, ?_, ?_⟩
    · intro y0 y1 y2 y3 y4
      unfold interleaveref11_reader_list.j0
      repeat' first
      | (with_reducible exact ih0 _ _ _ _ _)
      | (with_reducible exact ih1 _ _ _ _)
      | (with_reducible exact ih2 _ _ _ _ _ _ _)
      | (with_reducible exact interleaveref11_reader_num.mono _ _ _ _)
      | (with_reducible exact LeO.refl _)
      | (with_reducible exact LeO.none _)
      | (with_reducible refine LeO.ite ?_ ?_)
      | (with_reducible refine LeO.bind ?_ (fun _ => ?_))
      | exact ih0 _ _ _ _ _
      | exact ih1 _ _ _ _
      | exact ih2 _ _ _ _ _ _ _
      | exact interleaveref11_reader_num.mono _ _ _ _
      | exact LeO.none _
      | refine LeO.ite ?_ ?_
      | refine LeO.bind ?_ (fun _ => ?_)
    · intro y0 y1 y2 y3
      unfold interleaveref11_reader_list.j1
      repeat' first
      | (with_reducible exact ih0 _ _ _ _ _)
      | (with_reducible exact ih1 _ _ _ _)
      | (with_reducible exact ih2 _ _ _ _ _ _ _)
      | (with_reducible exact interleaveref11_reader_num.mono _ _ _ _)
      | (with_reducible exact LeO.refl _)
      | (with_reducible exact LeO.none _)
      | (with_reducible refine LeO.ite ?_ ?_)
      | (with_reducible refine LeO.bind ?_ (fun _ => ?_))
      | exact ih0 _ _ _ _ _
      | exact ih1 _ _ _ _
      | exact ih2 _ _ _ _ _ _ _
      | exact interleaveref11_reader_num.mono _ _ _ _
      | exact LeO.none _
      | refine LeO.ite ?_ ?_
      | refine LeO.bind ?_ (fun _ => ?_)
    · intro y0 y1 y2 y3 y4 y5 y6
      unfold interleaveref11_reader_list.l0
      repeat' first
      | (with_reducible exact ih0 _ _ _ _ _)
      | (with_reducible exact ih1 _ _ _ _)
      | (with_reducible exact ih2 _ _ _ _ _ _ _)
      | (with_reducible exact interleaveref11_reader_num.mono _ _ _ _)
      | (with_reducible exact LeO.refl _)
      | (with_reducible exact LeO.none _)
      | (with_reducible refine LeO.ite ?_ ?_)
      | (with_reducible refine LeO.bind ?_ (fun _ => ?_))
      | exact ih0 _ _ _ _ _
      | exact ih1 _ _ _ _
      | exact ih2 _ _ _ _ _ _ _
      | exact interleaveref11_reader_num.mono _ _ _ _
      | exact LeO.none _
      | refine LeO.ite ?_ ?_
      | refine LeO.bind ?_ (fun _ => ?_)
theorem interleaveref11_reader_list.mono : ∀ a0 a1 a2 k, LeO (interleaveref11_reader_list.f k a0 a1 a2) (interleaveref11_reader_list.f (k + 1) a0 a1 a2) := by
  intro a0 a1 a2 k
  obtain ⟨ih0, ih1, ih2⟩ := interleaveref11_reader_list.mono_l k
  unfold interleaveref11_reader_list.f
  repeat' first
      | (with_reducible exact ih0 _ _ _ _ _)
      | (with_reducible exact ih1 _ _ _ _)
      | (with_reducible exact ih2 _ _ _ _ _ _ _)
      | (with_reducible exact interleaveref11_reader_num.mono _ _ _ _)
      | (with_reducible exact LeO.refl _)
      | (with_reducible exact LeO.none _)
      | (with_reducible refine LeO.ite ?_ ?_)
      | (with_reducible refine LeO.bind ?_ (fun _ => ?_))
      | exact ih0 _ _ _ _ _
      | exact ih1 _ _ _ _
      | exact ih2 _ _ _ _ _ _ _
      | exact interleaveref11_reader_num.mono _ _ _ _
      | exact LeO.none _
      | refine LeO.ite ?_ ?_
      | refine LeO.bind ?_ (fun _ => ?_)
set_option maxHeartbeats 8000000 in
set_option maxRecDepth 100000 in
theorem interleaveref11_reader_list.calls (k : Nat) (g : Nat) (s0_0 : List Int) (s0_1 : Int) (s0_2 : Int) (r1 : List Int) (r2 : Int) (r3 : Int) (w0 w : World) (hI : IsS94 w0 w g s0_0 s0_1 s0_2) (hB : Below w0.heap.size w0 w) (h : interleaveref11_reader_list.f k s0_0 s0_1 s0_2 = some (r1, r2, r3)) :
    Calls Try.prog 48 #[.pointer (some ⟨g, 0, none⟩)] w fun e w' => ∃ v0_ : Value, e = .returned (v0_) ∧ Kd.R (Kd.int .i64) 3 w' w.heap.size (fun _ => True) v0_ r1 ∧ IsS94 w0 w' g s0_0 r2 r3 ∧ Below w0.heap.size w0 w' ∧ KeepBut w w' g none := by
  have HI0 := Aside0.mk hI
  have HK := Aside0.mk (KeepBut.refl w g none)
  have HL := Aside0.mk hB.size
  clear hI
  have HW0 := Aside0.mk hB.size
  have HB := Aside0.mk hB
  clear hB
  have H : ((interleaveref11_reader_num.f k s0_0 s0_1 s0_2).bind fun bt235 => (if bt235.2.2 = 0 then (if bt235.1 < 0 then (interleaveref11_reader_list.j0 k bt235.1 true s0_0 bt235.2.1 bt235.2.2) else (interleaveref11_reader_list.j0 k bt235.1 (decide (bt235.1 > 400)) s0_0 bt235.2.1 bt235.2.2)) else (interleaveref11_reader_list.j0 k bt235.1 false s0_0 bt235.2.1 bt235.2.2))) = some (r1, r2, r3) := h
  clear h
  replace H := Option.bind_eq_some_iff.mp H
  obtain ⟨⟨t235, t236, t237⟩, A20, H⟩ := H
  replace H : (if t237 = 0 then (if t235 < 0 then (interleaveref11_reader_list.j0 k t235 true s0_0 t236 t237) else (interleaveref11_reader_list.j0 k t235 (decide (t235 > 400)) s0_0 t236 t237)) else (interleaveref11_reader_list.j0 k t235 false s0_0 t236 t237)) = some (r1, r2, r3) := H
  have A2 := Aside0.mk A20
  clear A20
  have HC3 := Aside0.mk H
  clear H
  go_enter Try.func48, Try.ntmps48
  go_upto_region 2 with (first | ((with_reducible refine gate_callee (f := 47) rfl ?_); refine goesL_ (some 8) rfl rfl Try.func47 (by kernel_rfl) rfl #[.pointer (some ⟨g, 0, none⟩)] rfl (by (try simp only [List.map_toArray, List.map_cons, List.map_nil]); first | done | rfl | (simp only [List.length_drop, List.length_take]; rfl)) ?_; (with_reducible refine (interleaveref11_reader_num.calls k g s0_0 s0_1 s0_2 t235 t236 t237 w0 _ ?side1 ?side2 A2.out).mono ?_); (case side1 => repeat (first | (with_reducible first | exact HI0.out | apply IsS94.alloc | apply IsS94.drewN | apply IsS94.drew | apply IsS94.set_1 | apply IsS94.set_2) | exact HI0.out)); (case side2 => repeat (first | (with_reducible first | exact HB.out | apply below_alloc | apply pw_below_drewN | apply below_drew1 | refine below_set ?_ (IsS94.ge HI0.out)) | exact HB.out)); rintro e w4 ⟨rfl, hi, hb, hk⟩; refine ⟨_, rfl, ?_⟩; have n0_ := Aside0.mk (KeepBut.trans (by repeat (first | (with_reducible first | exact HK.out | apply KeepBut.set_ | apply keep_drewN | apply keep_drew | apply keep_alloc) | exact HK.out)) hk (.inl rfl)); have n1_ := Aside0.mk (hb); have n2_ := Aside0.mk (hi); clear HK; clear HB; clear HI0; have HK := n0_; have HB := n1_; have HI0 := n2_; clear n0_ n1_ n2_; (try clear hb); (try clear hb2); (try clear hk); (try clear hi)))
  (try simp only [Act.put, List.setIfInBounds_toArray, List.set_cons_zero, List.set_cons_succ])
  go_cut [21] (fun v21 wc => ∃ (kq : Nat) (x21_2 : Bool), v21 = .bool x21_2 ∧ Aside0 (interleaveref11_reader_list.j0 kq t235 x21_2 s0_0 t236 t237 = some (r1, r2, r3)) ∧ Aside0 (kq ≤ k) ∧ Aside0 (IsS94 w0 wc g s0_0 t236 t237) ∧ Aside0 (KeepBut w wc g none) ∧ Aside0 (Below w0.heap.size w0 wc))
  case first =>
    have H := HC3.out
    clear HC3
    by_cases c5 : t237 = 0
    · rw [if_pos c5] at H
      have c5b0 : (t237 == 0) = true := beq_iff_eq.mpr c5
      have c5b1 : (t237 != 0) = false := bne_eq_false_iff_eq.mpr c5
      clear c5
      (first | rw [c5b0] | (simp only [i64_w, i32_w]; rw [c5b0]) | skip)
      by_cases c6 : t235 < 0
      · rw [if_pos c6] at H
        have c6b0 : decide (t235 < 0) = true := decide_eq_true c6
        clear c6
        have H' := Aside0.mk H
        clear H
        obtain ⟨ASz7_0, cSz7_0, HGz7, hgz7, ⟨HSz7_0, _⟩⟩ := HI0.out
        have hcz7_0 := cellS94_0 HGz7
        have hcz7_1 := cellS94_1 HGz7
        have hcz7_2 := cellS94_2 HGz7
        have hfz7_1 := blk_frozen HGz7 1
        have hfz7_2 := blk_frozen HGz7 2
        clear HGz7 hgz7
        go_wp2
        go_meet
        case rel => exact ⟨_, (true), (by first | rfl | (simp; done) | (simp [*]; done)), H', ⟨by first | omega | exact Nat.le_refl _⟩, ⟨by repeat (first | (with_reducible first | exact HI0.out | apply IsS94.alloc | apply IsS94.drewN | apply IsS94.drew | apply IsS94.set_1 | apply IsS94.set_2) | exact HI0.out)⟩, ⟨by repeat (first | (with_reducible first | exact HK.out | apply KeepBut.set_ | apply keep_drewN | apply keep_drew | apply keep_alloc) | exact HK.out)⟩, ⟨by repeat (first | (with_reducible first | exact HB.out | apply below_alloc | apply pw_below_drewN | apply below_drew1 | refine below_set ?_ (IsS94.ge HI0.out)) | exact HB.out)⟩⟩
      · rw [if_neg c6] at H
        have c6b0 : decide (t235 < 0) = false := decide_eq_false c6
        clear c6
        have H' := Aside0.mk H
        clear H
        obtain ⟨ASz8_0, cSz8_0, HGz8, hgz8, ⟨HSz8_0, _⟩⟩ := HI0.out
        have hcz8_0 := cellS94_0 HGz8
        have hcz8_1 := cellS94_1 HGz8
        have hcz8_2 := cellS94_2 HGz8
        have hfz8_1 := blk_frozen HGz8 1
        have hfz8_2 := blk_frozen HGz8 2
        clear HGz8 hgz8
        go_wp2
        go_meet
        case rel => exact ⟨_, (decide (t235 > 400)), (by first | rfl | (simp; done) | (simp [*]; done)), H', ⟨by first | omega | exact Nat.le_refl _⟩, ⟨by repeat (first | (with_reducible first | exact HI0.out | apply IsS94.alloc | apply IsS94.drewN | apply IsS94.drew | apply IsS94.set_1 | apply IsS94.set_2) | exact HI0.out)⟩, ⟨by repeat (first | (with_reducible first | exact HK.out | apply KeepBut.set_ | apply keep_drewN | apply keep_drew | apply keep_alloc) | exact HK.out)⟩, ⟨by repeat (first | (with_reducible first | exact HB.out | apply below_alloc | apply pw_below_drewN | apply below_drew1 | refine below_set ?_ (IsS94.ge HI0.out)) | exact HB.out)⟩⟩
    · rw [if_neg c5] at H
      have c5b0 : (t237 == 0) = false := beq_eq_false_iff_ne.mpr c5
      have c5b1 : (t237 != 0) = true := bne_iff_ne.mpr c5
      (first | rw [c5b0] | (simp only [i64_w, i32_w]; rw [c5b0]) | skip)
      have H' := Aside0.mk H
      clear H
      obtain ⟨ASz9_0, cSz9_0, HGz9, hgz9, ⟨HSz9_0, _⟩⟩ := HI0.out
      have hcz9_0 := cellS94_0 HGz9
      have hcz9_1 := cellS94_1 HGz9
      have hcz9_2 := cellS94_2 HGz9
      have hfz9_1 := blk_frozen HGz9 1
      have hfz9_2 := blk_frozen HGz9 2
      clear HGz9 hgz9
      go_wp2
      go_meet
      case rel => exact ⟨_, (false), (by first | rfl | (simp; done) | (simp [*]; done)), H', ⟨by first | omega | exact Nat.le_refl _⟩, ⟨by repeat (first | (with_reducible first | exact HI0.out | apply IsS94.alloc | apply IsS94.drewN | apply IsS94.drew | apply IsS94.set_1 | apply IsS94.set_2) | exact HI0.out)⟩, ⟨by repeat (first | (with_reducible first | exact HK.out | apply KeepBut.set_ | apply keep_drewN | apply keep_drew | apply keep_alloc) | exact HK.out)⟩, ⟨by repeat (first | (with_reducible first | exact HB.out | apply below_alloc | apply pw_below_drewN | apply below_drew1 | refine below_set ?_ (IsS94.ge HI0.out)) | exact HB.out)⟩⟩
  case rest =>
    clear HC3
    try clear p2
    try clear c4
    try clear c5
    try clear c5b0
    try clear c5b1
    try clear c6
    try clear c6b0
    try clear hcz7_0
    try clear hcz7_1
    try clear hcz7_2
    try clear hcz8_0
    try clear hcz8_1
    try clear hcz8_2
    try clear hcz9_0
    try clear hcz9_1
    try clear hcz9_2
    try clear hfz7_1
    try clear hfz7_2
    try clear hfz8_1
    try clear hfz8_2
    try clear hfz9_1
    try clear hfz9_2
    obtain ⟨kq, x21_2, rfl, HA, HJ2, HI0, HK, HB⟩ := hcut
    cases kq with
    | zero => exact absurd HA.out (by simp [interleaveref11_reader_list.j0])
    | succ kj2 =>
      have H := HA.out
      clear HA
      simp only [interleaveref11_reader_list.j0] at H
      have HC10 := Aside0.mk H
      clear H
      go_upto_if 21 with (fail)
      go_cut [] (fun wc => ∃ (kq : Nat) (x1002_9 : Int), Aside0 (interleaveref11_reader_list.j1 kq t235 s0_0 t236 x1002_9 = some (r1, r2, r3)) ∧ Aside0 (kq ≤ kj2) ∧ Aside0 (IsS94 w0 wc g s0_0 t236 x1002_9) ∧ Aside0 (KeepBut w wc g none) ∧ Aside0 (Below w0.heap.size w0 wc))
      case first =>
        have H := HC10.out
        clear HC10
        by_cases c11 : x21_2 = true
        · subst c11
          have H1 : (interleaveref11_reader_list.j1 kj2 t235 s0_0 t236 11) = some (r1, r2, r3) := by rw [if_pos rfl] at H; exact H
          clear H
          have H := H1
          clear H1
          have H' := Aside0.mk H
          clear H
          obtain ⟨ASz12_0, cSz12_0, HGz12, hgz12, ⟨HSz12_0, _⟩⟩ := HI0.out
          have hcz12_0 := cellS94_0 HGz12
          have hcz12_1 := cellS94_1 HGz12
          have hcz12_2 := cellS94_2 HGz12
          have hfz12_1 := blk_frozen HGz12 1
          have hfz12_2 := blk_frozen HGz12 2
          clear HGz12 hgz12
          go_wp2
          go_meet
          case rel => exact ⟨_, (11), H', ⟨by have := HJ2.out; first | omega | exact Nat.le_refl _⟩, ⟨by repeat (first | (with_reducible first | exact HI0.out | apply IsS94.alloc | apply IsS94.drewN | apply IsS94.drew | apply IsS94.set_1 | apply IsS94.set_2) | exact HI0.out)⟩, ⟨by repeat (first | (with_reducible first | exact HK.out | apply KeepBut.set_ | apply keep_drewN | apply keep_drew | apply keep_alloc) | exact HK.out)⟩, ⟨by repeat (first | (with_reducible first | exact HB.out | apply below_alloc | apply pw_below_drewN | apply below_drew1 | refine below_set ?_ (IsS94.ge HI0.out)) | exact HB.out)⟩⟩
        · replace c11 := Bool.eq_false_iff.mpr c11
          subst c11
          have H1 : (interleaveref11_reader_list.j1 kj2 t235 s0_0 t236 t237) = some (r1, r2, r3) := by rw [if_neg (show ¬ (false = true) by decide)] at H; exact H
          clear H
          have H := H1
          clear H1
          have H' := Aside0.mk H
          clear H
          go_wp2
          go_meet
          case rel => exact ⟨_, (t237), H', ⟨by have := HJ2.out; first | omega | exact Nat.le_refl _⟩, ⟨by repeat (first | (with_reducible first | exact HI0.out | apply IsS94.alloc | apply IsS94.drewN | apply IsS94.drew | apply IsS94.set_1 | apply IsS94.set_2) | exact HI0.out)⟩, ⟨by repeat (first | (with_reducible first | exact HK.out | apply KeepBut.set_ | apply keep_drewN | apply keep_drew | apply keep_alloc) | exact HK.out)⟩, ⟨by repeat (first | (with_reducible first | exact HB.out | apply below_alloc | apply pw_below_drewN | apply below_drew1 | refine below_set ?_ (IsS94.ge HI0.out)) | exact HB.out)⟩⟩
      case rest =>
        clear HC10
        try clear c1
        try clear p2
        try clear c4
        try clear c5
        try clear c5b0
        try clear c5b1
        try clear c6
        try clear c6b0
        try clear c11
        try clear hcz12_0
        try clear hcz12_1
        try clear hcz12_2
        try clear hcz7_0
        try clear hcz7_1
        try clear hcz7_2
        try clear hcz8_0
        try clear hcz8_1
        try clear hcz8_2
        try clear hcz9_0
        try clear hcz9_1
        try clear hcz9_2
        try clear hfz12_1
        try clear hfz12_2
        try clear hfz7_1
        try clear hfz7_2
        try clear hfz8_1
        try clear hfz8_2
        try clear hfz9_1
        try clear hfz9_2
        try clear p2
        obtain ⟨kq, x1002_9, HA, HJ9, HI0, HK, HB⟩ := hcut
        cases kq with
        | zero => exact absurd HA.out (by simp [interleaveref11_reader_list.j1])
        | succ kj9 =>
          have H := HA.out
          clear HA
          simp only [interleaveref11_reader_list.j1] at H
          have H' := Aside0.mk H
          clear H
          go_wp2
          go_loopg [4, 5, 6] kj9 (fun kq v4 v5 v6 w' => ∃ (x4_3 : List Int) (x5_3 : Int) (x6_3 : Int) (x1001_3 : Int) (x1002_3 : Int), v5 = .int .i64 x5_3 ∧ v6 = .int .i64 x6_3 ∧ Aside0 (interleaveref11_reader_list.l0 kq t235 x4_3 x5_3 x6_3 s0_0 x1001_3 x1002_3 = some (r1, r2, r3)) ∧ Aside0 (kq ≤ kj9) ∧ Aside0 (Kd.R (Kd.int .i64) 3 w' w.heap.size (fun _ => True) v4 x4_3) ∧ Aside0 (IsS94 w0 w' g s0_0 x1001_3 x1002_3) ∧ Aside0 (KeepBut w w' g none) ∧ Aside0 (Below w0.heap.size w0 w'))
          case atStart => exact ⟨(([] : List Int)), (0), (0), (t236), (x1002_9), (by first | rfl | (simp; done) | (simp [*]; done)), (by first | rfl | (simp; done) | (simp [*]; done)), H', ⟨Nat.le_refl _⟩, ⟨by first | exact Kd.R_nil _ _ _ _ _ | exact Kd.N_nil _ _ _ _ _ | exact Kd.V_nil _ _ _ _ _ | exact Kd.Q_nil _ _ _ _ _ | exact Kd.S_nil _ _ _ _ _⟩, ⟨by repeat (first | (with_reducible first | exact HI0.out | apply IsS94.alloc | apply IsS94.drewN | apply IsS94.drew | apply IsS94.set_1 | apply IsS94.set_2) | exact HI0.out)⟩, ⟨by repeat (first | (with_reducible first | exact HK.out | apply KeepBut.set_ | apply keep_drewN | apply keep_drew | apply keep_alloc) | exact HK.out)⟩, ⟨by repeat (first | (with_reducible first | exact HB.out | apply below_alloc | apply pw_below_drewN | apply below_drew1 | refine below_set ?_ (IsS94.ge HI0.out)) | exact HB.out)⟩⟩
          case round =>
            clear H'
            try clear c1
            try clear p2
            try clear c4
            try clear c5
            try clear c5b0
            try clear c5b1
            try clear c6
            try clear c6b0
            try clear c11
            try clear hcz12_0
            try clear hcz12_1
            try clear hcz12_2
            try clear hcz7_0
            try clear hcz7_1
            try clear hcz7_2
            try clear hcz8_0
            try clear hcz8_1
            try clear hcz8_2
            try clear hcz9_0
            try clear hcz9_1
            try clear hcz9_2
            try clear hfz12_1
            try clear hfz12_2
            try clear hfz7_1
            try clear hfz7_2
            try clear hfz8_1
            try clear hfz8_2
            try clear hfz9_1
            try clear hfz9_2
            try clear p2
            obtain ⟨x4_3, x5_3, x6_3, x1001_3, x1002_3, rfl, rfl, HA, HK3, HO_4, HI0, HK, HB⟩ := hrel
            cases gk with
            | zero => exact absurd HA.out (by simp [interleaveref11_reader_list.l0])
            | succ k3 =>
              have H := HA.out
              clear HA
              simp only [interleaveref11_reader_list.l0] at H
              by_cases c13 : x6_3 < t235
              · rw [if_pos c13] at H
                have c13b0 : decide (x6_3 < t235) = true := decide_eq_true c13
                clear c13
                by_cases c14 : x1002_3 = 0
                · rw [if_pos c14] at H
                  have c14b0 : (x1002_3 == 0) = true := beq_iff_eq.mpr c14
                  have c14b1 : (x1002_3 != 0) = false := bne_eq_false_iff_eq.mpr c14
                  clear c14
                  replace H := Option.bind_eq_some_iff.mp H
                  obtain ⟨⟨t238, t239, t240⟩, A150, H⟩ := H
                  replace H : (if x4_3.length < 17592186044416 then (interleaveref11_reader_list.l0 k3 t235 (x4_3 ++ [wrap64 (x5_3 + t238)]) (wrap64 (x5_3 + t238)) (wrap64 (x6_3 + 1)) s0_0 t239 t240) else (none)) = some (r1, r2, r3) := H
                  have A15 := Aside0.mk A150
                  clear A150
                  by_cases c16 : x4_3.length < 17592186044416
                  · rw [if_pos c16] at H
                    have LMc16 := Aside0.mk c16
                    clear c16
                    obtain ⟨y241, hy241⟩ : ∃ y_ : List Int, y_ = (x4_3 ++ [wrap64 (x5_3 + t238)]) := ⟨_, rfl⟩
                    replace H : (interleaveref11_reader_list.l0 k3 t235 y241 (wrap64 (x5_3 + t238)) (wrap64 (x6_3 + 1)) s0_0 t239 t240) = some (r1, r2, r3) := by first | (rw [hy241]; with_reducible exact H) | (have H2_ := (Option.bind_some _ _).symm.trans H; rw [hy241]; with_reducible exact H2_) | (have H2_ := (Option.bind_some _ _).symm.trans H; with_reducible exact H2_) | with_reducible exact H | (rw [hy241]; exact H) | exact H
                    have Ny241 := Aside0.mk hy241
                    clear hy241
                    have H' := Aside0.mk H
                    clear H
                    obtain ⟨ASz17_0, cSz17_0, HGz17, hgz17, ⟨HSz17_0, _⟩⟩ := HI0.out
                    have hcz17_0 := cellS94_0 HGz17
                    have hcz17_1 := cellS94_1 HGz17
                    have hcz17_2 := cellS94_2 HGz17
                    have hfz17_1 := blk_frozen HGz17 1
                    have hfz17_2 := blk_frozen HGz17 2
                    clear HGz17 hgz17
                    go_wp2_with (first | ((with_reducible refine gate_callee (f := 47) rfl ?_); refine goesL_ (some 39) rfl rfl Try.func47 (by kernel_rfl) rfl #[.pointer (some ⟨g, 0, none⟩)] rfl (by (try simp only [List.map_toArray, List.map_cons, List.map_nil]); first | done | rfl | (simp only [List.length_drop, List.length_take]; rfl)) ?_; (with_reducible refine (interleaveref11_reader_num.calls k3 g s0_0 x1001_3 x1002_3 t238 t239 t240 w0 _ ?side1 ?side2 A15.out).mono ?_); (case side1 => repeat (first | (with_reducible first | exact HI0.out | apply IsS94.alloc | apply IsS94.drewN | apply IsS94.drew | apply IsS94.set_1 | apply IsS94.set_2) | exact HI0.out)); (case side2 => repeat (first | (with_reducible first | exact HB.out | apply below_alloc | apply pw_below_drewN | apply below_drew1 | refine below_set ?_ (IsS94.ge HI0.out)) | exact HB.out)); rintro e w18 ⟨rfl, hi, hb, hk⟩; refine ⟨_, rfl, ?_⟩; have n0_ := Aside0.mk (Kd.R_mono (Kd.R_keep (IsS94.apart (show IsS94 w0 _ g s0_0 x1001_3 x1002_3 from by repeat (first | (with_reducible first | exact HI0.out | apply IsS94.alloc | apply IsS94.drewN | apply IsS94.drew | apply IsS94.set_1 | apply IsS94.set_2) | exact HI0.out)) (by (with_reducible repeat (first | apply Kd.R_alloc | apply Kd.R_drewN | apply Kd.R_drew)); exact HO_4.out) (by decide)) hk (fun _ h => h.2)) (fun _ h => h.1)); have n1_ := Aside0.mk (KeepBut.trans (by repeat (first | (with_reducible first | exact HK.out | apply KeepBut.set_ | apply keep_drewN | apply keep_drew | apply keep_alloc) | exact HK.out)) hk (.inl rfl)); have n2_ := Aside0.mk (hb); have n3_ := Aside0.mk (hi); clear HO_4; clear HK; clear HB; clear HI0; have HO_4 := n0_; have HK := n1_; have HB := n2_; have HI0 := n3_; clear n0_ n1_ n2_ n3_; (try clear hb); (try clear hb2); (try clear hk); (try clear hi)) | ((with_reducible refine gate_builtin (b := .append) (xs := #[.tmp 41, .tmp 43]) rfl ?_); at_builtin; refine Kd.R_append (Kd.int .i64) w.heap.size rfl (.tmp 41) (.tmp 43) 22 3 (.int .i64 0) 8 rfl Try.underlying22 info3 rfl (by decide) (by omega) u4 x4_3 (wrap64 (x5_3 + t238)) [.int .i64 (wrap64 (x5_3 + t238))] (fun _ => True) (fun _ => False) rfl rfl ?aP (fun _ hk => hk.elim) ?aF ?aO (Below.refl _ _) ?aS ?aL ?_; (case aP => exact rfl); (case aF => exact (fun _ _ => trivial)); (case aO => exact (by (with_reducible repeat (first | apply Kd.R_alloc | apply Kd.R_drewN | apply Kd.R_drew)); exact HO_4.out)); (case aS => exact (keep_size (w := w) (g := g) (row := none) (by repeat (first | (with_reducible first | exact HK.out | apply KeepBut.set_ | apply keep_drewN | apply keep_drew | apply keep_alloc) | exact HK.out)))); (case aL => have := LMc16.out; omega); intro v242 w19 ho hb hg hat; rw [← Ny241.out] at ho; have n0_ := Aside0.mk (IsS94.grown (by repeat (first | (with_reducible first | exact HI0.out | apply IsS94.alloc | apply IsS94.drewN | apply IsS94.drew | apply IsS94.set_1 | apply IsS94.set_2) | exact HI0.out)) hg (IsS94.own_ne HI0.out HO_4.out (by decide))); have n1_ := Aside0.mk (below_weaken (by repeat (first | (with_reducible first | exact HB.out | apply below_alloc | apply pw_below_drewN | apply below_drew1 | refine below_set ?_ (IsS94.ge HI0.out)) | exact HB.out)) HL.out hb); have n2_ := Aside0.mk (KeepBut.trans (by repeat (first | (with_reducible first | exact HK.out | apply KeepBut.set_ | apply keep_drewN | apply keep_drew | apply keep_alloc) | exact HK.out)) (KeepBut.of_grown hg g) (Kd.R_base2 HO_4.out)); have n3_ := Aside0.mk (ho); clear HI0; clear HB; clear HK; clear HO_4; have HI0 := n0_; have HB := n1_; have HK := n2_; have HO243 := n3_; clear n0_ n1_ n2_ n3_; clear ho hb hg hat))
                    go_roundg k3
                    case measure => have := HJ2.out; have := HJ9.out; have := HK3.out; omega
                    case rel => exact ⟨(y241), (wrap64 (x5_3 + t238)), (wrap64 (x6_3 + 1)), (t239), (t240), (by first | rfl | (simp; done) | (simp [*]; done)), (by first | rfl | (simp; done) | (simp [*]; done)), H', ⟨by have := HJ2.out; have := HJ9.out; have := HK3.out; omega⟩, ⟨by (with_reducible repeat (first | apply Kd.R_alloc | apply Kd.R_drewN | apply Kd.R_drew)); exact HO243.out⟩, ⟨by repeat (first | (with_reducible first | exact HI0.out | apply IsS94.alloc | apply IsS94.drewN | apply IsS94.drew | apply IsS94.set_1 | apply IsS94.set_2) | exact HI0.out)⟩, ⟨by repeat (first | (with_reducible first | exact HK.out | apply KeepBut.set_ | apply keep_drewN | apply keep_drew | apply keep_alloc) | exact HK.out)⟩, ⟨by repeat (first | (with_reducible first | exact HB.out | apply below_alloc | apply pw_below_drewN | apply below_drew1 | refine below_set ?_ (IsS94.ge HI0.out)) | exact HB.out)⟩⟩
                  · rw [if_neg c16] at H
                    exact absurd H (by simp)
                · rw [if_neg c14] at H
                  have c14b0 : (x1002_3 == 0) = false := beq_eq_false_iff_ne.mpr c14
                  have c14b1 : (x1002_3 != 0) = true := bne_iff_ne.mpr c14
                  simp only [Option.some.injEq, Prod.mk.injEq] at H
                  obtain ⟨rfl, rfl, rfl⟩ := H
                  obtain ⟨ASz20_0, cSz20_0, HGz20, hgz20, ⟨HSz20_0, _⟩⟩ := HI0.out
                  have hcz20_0 := cellS94_0 HGz20
                  have hcz20_1 := cellS94_1 HGz20
                  have hcz20_2 := cellS94_2 HGz20
                  have hfz20_1 := blk_frozen HGz20 1
                  have hfz20_2 := blk_frozen HGz20 2
                  clear HGz20 hgz20
                  go_wp2
                  go_ret
                  exact ⟨_, by first | rfl | (simp [errW_none, errW_some] <;> rfl) | (simp [*, errW_none, errW_some] <;> rfl), by (with_reducible repeat (first | apply Kd.R_alloc | apply Kd.R_drewN | apply Kd.R_drew)); exact HO_4.out, by repeat (first | (with_reducible first | exact HI0.out | apply IsS94.alloc | apply IsS94.drewN | apply IsS94.drew | apply IsS94.set_1 | apply IsS94.set_2) | exact HI0.out), by repeat (first | (with_reducible first | exact HB.out | apply below_alloc | apply pw_below_drewN | apply below_drew1 | refine below_set ?_ (IsS94.ge HI0.out)) | exact HB.out), by repeat (first | (with_reducible first | exact HK.out | apply KeepBut.set_ | apply keep_drewN | apply keep_drew | apply keep_alloc) | exact HK.out)⟩
              · rw [if_neg c13] at H
                have c13b0 : decide (x6_3 < t235) = false := decide_eq_false c13
                clear c13
                simp only [Option.some.injEq, Prod.mk.injEq] at H
                obtain ⟨rfl, rfl, rfl⟩ := H
                go_wp2
                go_ret
                exact ⟨_, by first | rfl | (simp [errW_none, errW_some] <;> rfl) | (simp [*, errW_none, errW_some] <;> rfl), by (with_reducible repeat (first | apply Kd.R_alloc | apply Kd.R_drewN | apply Kd.R_drew)); exact HO_4.out, by repeat (first | (with_reducible first | exact HI0.out | apply IsS94.alloc | apply IsS94.drewN | apply IsS94.drew | apply IsS94.set_1 | apply IsS94.set_2) | exact HI0.out), by repeat (first | (with_reducible first | exact HB.out | apply below_alloc | apply pw_below_drewN | apply below_drew1 | refine below_set ?_ (IsS94.ge HI0.out)) | exact HB.out), by repeat (first | (with_reducible first | exact HK.out | apply KeepBut.set_ | apply keep_drewN | apply keep_drew | apply keep_alloc) | exact HK.out)⟩
end Go.Proofs.Ytnmmkgagbfniiaa.A
end
