/- MEventSpoilt7: texts of this session and of the kit's printer on the road to the statement EventSpoilt, laid into one and rid of what it doesn't need. No condition beyond what each fact names. -/
import Derived.Test.YtnmmkgagbfniiaaMEventSpoilt3
import Derived.Test.YtnmmkgagbfniiaaMEventSpoilt6
import Derived.Test.YtnmmkgagbfniiaaMEventSpoilt5
import Derived.Test.YtnmmkgagbfniiaaMEventSpoilt4
section
namespace Go.Proofs.Ytnmmkgagbfniiaa.A
open Go.RowKit Go.Proofs.YtnmmkgagbfniiaaW.PrintWords Go.Proofs.YtnmmkgagbfniiaaW.PrintLast Go.Proofs.YtnmmkgagbfniiaaW.PrintMore
attribute [local go_sem] max2_int min2_int max_two min_two max_three min_three max_four min_four
set_option linter.unusedVariables false
set_option linter.unusedSimpArgs false
def interleaveref11_Read.f (k : Nat) (l0 : List Int) (a1 a2 : Int) : Option (Int × Int × Int × Int × Int × Int × List Int × List Int × Int × Int) :=
  (interleaveref11_reader_num.f k l0 0 0).bind fun p0 => (interleaveref11_reader_num.f k l0 p0.2.1 p0.2.2).bind fun p1 => (interleaveref11_reader_num.f k l0 p1.2.1 p1.2.2).bind fun p2 => (interleaveref11_reader_num.f k l0 p2.2.1 p2.2.2).bind fun p3 => (interleaveref11_reader_num.f k l0 p3.2.1 p3.2.2).bind fun p4 => (interleaveref11_reader_list.f k l0 p4.2.1 p4.2.2).bind fun q5 => (interleaveref11_reader_list.f k l0 q5.2.1 q5.2.2).bind fun q6 => if q6.2.2 = 0 then some (wrap64 (a2 + p0.1), a1, p1.1, p2.1, p3.1, p4.1, q5.1, q6.1, q6.2.1, 0) else some (0, 0, 0, 0, 0, 0, [], [], 0, q6.2.2)
theorem interleaveref11_Read.mono : ∀ a0 a1 a2 k, LeO (interleaveref11_Read.f k a0 a1 a2) (interleaveref11_Read.f (k + 1) a0 a1 a2) := by
  intro a0 a1 a2 k
  unfold interleaveref11_Read.f
  exact LeO.bind (interleaveref11_reader_num.mono _ _ _ _) fun _ => LeO.bind (interleaveref11_reader_num.mono _ _ _ _) fun _ => LeO.bind (interleaveref11_reader_num.mono _ _ _ _) fun _ => LeO.bind (interleaveref11_reader_num.mono _ _ _ _) fun _ => LeO.bind (interleaveref11_reader_num.mono _ _ _ _) fun _ => LeO.bind (interleaveref11_reader_list.mono _ _ _ _) fun _ => LeO.bind (interleaveref11_reader_list.mono _ _ _ _) fun _ => LeO.refl _
structure interleaveref11_Read.St (w W : World) (g x r : Nat) (cs cr : Array Value) (l0 : List Int) (a e : Int) : Prop where
  fi : IsS94 w W g l0 a e
  fB : Below w.heap.size w W
  fx : W.heap[x]? = some (.cells cs 26 (0, 0))
  fr : W.heap[r]? = some (.cells cr 26 (0, 0))
  gx : x ≠ g
  gr : r ≠ g
  xr : x ≠ r
  hx : w.heap.size ≤ x
theorem interleaveref11_Read.St.call {w W W1 : World} {g x r : Nat} {cs cr : Array Value} {l0 : List Int} {a e a' e' : Int} (S : interleaveref11_Read.St w W g x r cs cr l0 a e) (hi : IsS94 w W1 g l0 a' e') (hb : Below w.heap.size w W1) (hk : KeepBut W W1 g none) : interleaveref11_Read.St w W1 g x r cs cr l0 a' e' :=
  ⟨hi, hb, (hk.2 _ (blk_lt S.fx) S.gx (by simp)).trans S.fx, (hk.2 _ (blk_lt S.fr) S.gr (by simp)).trans S.fr, S.gx, S.gr, S.xr, S.hx⟩
theorem interleaveref11_Read.St.set {w W : World} {g x r : Nat} {cs cr : Array Value} {l0 : List Int} {a e : Int} (S : interleaveref11_Read.St w W g x r cs cr l0 a e) (j : Nat) (v : Value) : interleaveref11_Read.St w (W.setCell ⟨x, j, none⟩ v) g x r (cs.setIfInBounds j v) cr l0 a e :=
  ⟨S.fi.far (by exact fun h => S.gx h.symm) v, below_set S.fB S.hx, by simpa using blk_set S.fx j v, by rw [Below.heap_setCell _ _ _ _ (fun h => S.xr h.symm)]; exact S.fr, S.gx, S.gr, S.xr, S.hx⟩
theorem interleaveref11_Read.put8 {W : World} {r : Nat} {v0 v1 v2 v3 v4 v5 v6 v7 u0 u1 u2 u3 u4 u5 u6 u7 : Value} (h : W.heap[r]? = some (.cells #[u0, u1, u2, u3, u4, u5, u6, u7] 26 (0, 0))) : ((((((((W.setCell ⟨r, 0, none⟩ v0).setCell ⟨r, 1, none⟩ v1).setCell ⟨r, 2, none⟩ v2).setCell ⟨r, 3, none⟩ v3).setCell ⟨r, 4, none⟩ v4).setCell ⟨r, 5, none⟩ v5).setCell ⟨r, 6, none⟩ v6).setCell ⟨r, 7, none⟩ v7).heap[r]? = some (.cells #[v0, v1, v2, v3, v4, v5, v6, v7] 26 (0, 0)) := by
  have h0 : (W.setCell ⟨r, 0, none⟩ v0).heap[r]? = some (.cells #[v0, u1, u2, u3, u4, u5, u6, u7] 26 (0, 0)) := by simpa using blk_set h 0 v0
  have h1 : ((W.setCell ⟨r, 0, none⟩ v0).setCell ⟨r, 1, none⟩ v1).heap[r]? = some (.cells #[v0, v1, u2, u3, u4, u5, u6, u7] 26 (0, 0)) := by simpa using blk_set h0 1 v1
  generalize (W.setCell ⟨r, 0, none⟩ v0).setCell ⟨r, 1, none⟩ v1 = W1 at h1 ⊢
  have h2 : (W1.setCell ⟨r, 2, none⟩ v2).heap[r]? = some (.cells #[v0, v1, v2, u3, u4, u5, u6, u7] 26 (0, 0)) := by simpa using blk_set h1 2 v2
  have h3 : ((W1.setCell ⟨r, 2, none⟩ v2).setCell ⟨r, 3, none⟩ v3).heap[r]? = some (.cells #[v0, v1, v2, v3, u4, u5, u6, u7] 26 (0, 0)) := by simpa using blk_set h2 3 v3
  generalize (W1.setCell ⟨r, 2, none⟩ v2).setCell ⟨r, 3, none⟩ v3 = W2 at h3 ⊢
  have h4 : (W2.setCell ⟨r, 4, none⟩ v4).heap[r]? = some (.cells #[v0, v1, v2, v3, v4, u5, u6, u7] 26 (0, 0)) := by simpa using blk_set h3 4 v4
  have h5 : ((W2.setCell ⟨r, 4, none⟩ v4).setCell ⟨r, 5, none⟩ v5).heap[r]? = some (.cells #[v0, v1, v2, v3, v4, v5, u6, u7] 26 (0, 0)) := by simpa using blk_set h4 5 v5
  generalize (W2.setCell ⟨r, 4, none⟩ v4).setCell ⟨r, 5, none⟩ v5 = W3 at h5 ⊢
  have h6 : (W3.setCell ⟨r, 6, none⟩ v6).heap[r]? = some (.cells #[v0, v1, v2, v3, v4, v5, v6, u7] 26 (0, 0)) := by simpa using blk_set h5 6 v6
  simpa using blk_set h6 7 v7
theorem interleaveref11_Read.far8 {α : Type} {d : Kd α} {e base : Nat} {W : World} {ok : Nat → Prop} {v : Value} {xs : List α} {r : Nat} {v0 v1 v2 v3 v4 v5 v6 v7 : Value} (h : d.R e W base ok v xs) (hr : ∀ k, ok k → k ≠ r) : d.R e ((((((((W.setCell ⟨r, 0, none⟩ v0).setCell ⟨r, 1, none⟩ v1).setCell ⟨r, 2, none⟩ v2).setCell ⟨r, 3, none⟩ v3).setCell ⟨r, 4, none⟩ v4).setCell ⟨r, 5, none⟩ v5).setCell ⟨r, 6, none⟩ v6).setCell ⟨r, 7, none⟩ v7) base ok v xs :=
  Kd.R_far (Kd.R_far (Kd.R_far (Kd.R_far (Kd.R_far (Kd.R_far (Kd.R_far (Kd.R_far h (p := ⟨r, 0, none⟩) hr _) (p := ⟨r, 1, none⟩) hr _) (p := ⟨r, 2, none⟩) hr _) (p := ⟨r, 3, none⟩) hr _) (p := ⟨r, 4, none⟩) hr _) (p := ⟨r, 5, none⟩) hr _) (p := ⟨r, 6, none⟩) hr _) (p := ⟨r, 7, none⟩) hr _
theorem interleaveref11_Read.below8 {w W : World} {r : Nat} {v0 v1 v2 v3 v4 v5 v6 v7 : Value} (h : Below w.heap.size w W) (hr : w.heap.size ≤ r) : Below w.heap.size w ((((((((W.setCell ⟨r, 0, none⟩ v0).setCell ⟨r, 1, none⟩ v1).setCell ⟨r, 2, none⟩ v2).setCell ⟨r, 3, none⟩ v3).setCell ⟨r, 4, none⟩ v4).setCell ⟨r, 5, none⟩ v5).setCell ⟨r, 6, none⟩ v6).setCell ⟨r, 7, none⟩ v7) :=
  below_set (below_set (below_set (below_set (below_set (below_set (below_set (below_set h hr) hr) hr) hr) hr) hr) hr) hr
set_option maxHeartbeats 4000000 in
set_option maxRecDepth 100000 in
theorem interleaveref11_Read.calls (k : Nat) (A0 : Option Addr) (c0 : Nat) (l0 : List Int) (a1 : Int) (a2 : Int) (r1 r2 r3 r4 r5 r6 : Int) (r7 r8 : List Int) (r9 r10 : Int) (w : World) (hr0 : Kd.C (Kd.int .u8) w A0 l0.length l0) (hc0 : l0.length ≤ c0) (h : interleaveref11_Read.f k l0 a1 a2 = some (r1, r2, r3, r4, r5, r6, r7, r8, r9, r10)) :
    Calls Try.prog 17 #[.slice A0 l0.length c0, .int .i64 a1, .int .i64 a2] w fun e w' => ∃ v6_ v7_ : Value, e = .returned (.tuple #[.agg #[.int .i64 r1, .int .i64 r2, .int .i64 r3, .int .i64 r4, .int .i64 r5, .int .i64 r6, v6_, v7_], .int .i64 r9, .int .i64 r10]) ∧ Kd.R (Kd.int .i64) 3 w' w.heap.size (fun k_ => some k_ ≠ (v7_ : Value).ownBlock) v6_ r7 ∧ Kd.R (Kd.int .i64) 3 w' w.heap.size (fun k_ => some k_ ≠ (v6_ : Value).ownBlock) v7_ r8 ∧ Below w.heap.size w w' := by
  obtain ⟨⟨n0, b0, e0⟩, h0, h_0⟩ := Option.bind_eq_some_iff.mp h
  clear h
  obtain ⟨⟨n1, b1, e1⟩, h1, h_1⟩ := Option.bind_eq_some_iff.mp h_0
  clear h_0
  obtain ⟨⟨n2, b2, e2⟩, h2, h_2⟩ := Option.bind_eq_some_iff.mp h_1
  clear h_1
  obtain ⟨⟨n3, b3, e3⟩, h3, h_3⟩ := Option.bind_eq_some_iff.mp h_2
  clear h_2
  obtain ⟨⟨n4, b4, e4⟩, h4, h_4⟩ := Option.bind_eq_some_iff.mp h_3
  clear h_3
  obtain ⟨⟨l5, b5, e5⟩, h5, h_5⟩ := Option.bind_eq_some_iff.mp h_4
  clear h_4
  obtain ⟨⟨l6, b6, e6⟩, h6, h_6⟩ := Option.bind_eq_some_iff.mp h_5
  clear h_5
  have h := h_6
  clear h_6
  dsimp only at h h0 h1 h2 h3 h4 h5 h6
  have H0 := Aside0.mk h0
  have H1 := Aside0.mk h1
  have H2 := Aside0.mk h2
  have H3 := Aside0.mk h3
  have H4 := Aside0.mk h4
  have H5 := Aside0.mk h5
  have H6 := Aside0.mk h6
  have HH := Aside0.mk h
  clear h h0 h1 h2 h3 h4 h5 h6
  obtain ⟨W1, hW1⟩ : ∃ W1 : World, W1 = (w.alloc (.cells #[.int .i64 0, .int .i64 0, .int .i64 0, .int .i64 0, .int .i64 0, .int .i64 0, .slice none 0 0, .slice none 0 0] 26)).alloc (.cells #[.slice A0 l0.length c0, .int .i64 0, .int .i64 0] 94) := ⟨_, rfl⟩
  have HI1 : Aside0 (IsS94 w W1 (w.heap.size + 1) l0 0 0) := ⟨by
    have := IsS94.new w (w.alloc (.cells #[.int .i64 0, .int .i64 0, .int .i64 0, .int .i64 0, .int .i64 0, .int .i64 0, .slice none 0 0, .slice none 0 0] 26)) A0 c0 l0 0 0 (below_alloc (Below.refl _ _) _) ⟨hr0, hc0⟩
    rw [hW1]
    simpa using this⟩
  have HB1 : Aside0 (Below w.heap.size w W1) := ⟨by rw [hW1]; exact below_alloc (below_alloc (Below.refl _ _) _) _⟩
  have HR1 : Aside0 (W1.heap[w.heap.size]? = some (.cells #[.int .i64 0, .int .i64 0, .int .i64 0, .int .i64 0, .int .i64 0, .int .i64 0, .slice none 0 0, .slice none 0 0] 26 (0, 0))) := ⟨by rw [hW1, heap_alloc_old _ _ (by simp), heap_alloc_new]⟩
  clear hr0 hc0
  go_enter Try.func17, Try.ntmps17
  by_cases ce : e6 = 0
  · have ce0 : (e6 != 0) = false := by simp [ce]
    have HH1 := Aside0.mk ((if_pos ce).symm.trans HH.out)
    clear HH
    simp only [Option.some.injEq, Prod.mk.injEq] at HH1
    obtain ⟨rfl, rfl, rfl, rfl, rfl, rfl, rfl, rfl, rfl, rfl⟩ := HH1.out
    clear HH1 ce
    go_wp2_with (first | (go_at_call 47; rw [← hW1]; refine (interleaveref11_reader_num.calls k (w.heap.size + 1) l0 0 0 n0 b0 e0 w _ HI1.out HB1.out H0.out).mono ?_; rintro e w2 ⟨rfl, hi, hb, hk⟩; have HR2 := (hk.2 _ (blk_lt HR1.out) (by omega) (by simp)).trans HR1.out; have HS0 : Aside0 (interleaveref11_Read.St w (w2.alloc (.cells #[.int .i64 (wrap64 (a2 + n0)), .int .i64 a1, .int .i64 0, .int .i64 0, .int .i64 0, .int .i64 0, .slice none 0 0, .slice none 0 0] 26)) (w.heap.size + 1) w2.heap.size w.heap.size #[.int .i64 (wrap64 (a2 + n0)), .int .i64 a1, .int .i64 0, .int .i64 0, .int .i64 0, .int .i64 0, .slice none 0 0, .slice none 0 0] #[.int .i64 0, .int .i64 0, .int .i64 0, .int .i64 0, .int .i64 0, .int .i64 0, .slice none 0 0, .slice none 0 0] l0 b0 e0) := ⟨⟨hi.alloc _, (below_then hb hb.size (below_alloc (Below.refl _ _) _)), heap_alloc_new _ _, (heap_alloc_old _ _ (blk_lt HR2)).trans HR2, (Nat.ne_of_gt hi.lt), by omega, Nat.ne_of_gt (blk_lt HR2), hb.size⟩⟩; have HLT : Aside0 (w.heap.size + 1 < w2.heap.size) := ⟨hi.lt⟩; clear hi hb hk HR2) | (go_at_call 47; refine (interleaveref11_reader_num.calls k (w.heap.size + 1) l0 b0 e0 n1 b1 e1 w _ HS0.out.fi HS0.out.fB H1.out).mono ?_; rintro e w3 ⟨rfl, hi, hb, hk⟩; have HT1 := Aside0.mk (HS0.out.call hi hb hk); have HS1 : Aside0 (interleaveref11_Read.St w (w3.setCell ⟨w2.heap.size, 2, none⟩ (.int .i64 n1)) (w.heap.size + 1) w2.heap.size w.heap.size #[.int .i64 (wrap64 (a2 + n0)), .int .i64 a1, .int .i64 n1, .int .i64 0, .int .i64 0, .int .i64 0, .slice none 0 0, .slice none 0 0] #[.int .i64 0, .int .i64 0, .int .i64 0, .int .i64 0, .int .i64 0, .int .i64 0, .slice none 0 0, .slice none 0 0] l0 b1 e1) := ⟨HT1.out.set 2 (.int .i64 n1)⟩; have q1 := (blk_cell HT1.out.fx 2).trans rfl; have f1 := blk_frozen HT1.out.fx 2; clear hi hb hk) | (go_at_call 47; refine (interleaveref11_reader_num.calls k (w.heap.size + 1) l0 b1 e1 n2 b2 e2 w _ HS1.out.fi HS1.out.fB H2.out).mono ?_; rintro e w4 ⟨rfl, hi, hb, hk⟩; have HT2 := Aside0.mk (HS1.out.call hi hb hk); have HS2 : Aside0 (interleaveref11_Read.St w (w4.setCell ⟨w2.heap.size, 3, none⟩ (.int .i64 n2)) (w.heap.size + 1) w2.heap.size w.heap.size #[.int .i64 (wrap64 (a2 + n0)), .int .i64 a1, .int .i64 n1, .int .i64 n2, .int .i64 0, .int .i64 0, .slice none 0 0, .slice none 0 0] #[.int .i64 0, .int .i64 0, .int .i64 0, .int .i64 0, .int .i64 0, .int .i64 0, .slice none 0 0, .slice none 0 0] l0 b2 e2) := ⟨HT2.out.set 3 (.int .i64 n2)⟩; have q2 := (blk_cell HT2.out.fx 3).trans rfl; have f2 := blk_frozen HT2.out.fx 3; clear hi hb hk) | (go_at_call 47; refine (interleaveref11_reader_num.calls k (w.heap.size + 1) l0 b2 e2 n3 b3 e3 w _ HS2.out.fi HS2.out.fB H3.out).mono ?_; rintro e w5 ⟨rfl, hi, hb, hk⟩; have HT3 := Aside0.mk (HS2.out.call hi hb hk); have HS3 : Aside0 (interleaveref11_Read.St w (w5.setCell ⟨w2.heap.size, 4, none⟩ (.int .i64 n3)) (w.heap.size + 1) w2.heap.size w.heap.size #[.int .i64 (wrap64 (a2 + n0)), .int .i64 a1, .int .i64 n1, .int .i64 n2, .int .i64 n3, .int .i64 0, .slice none 0 0, .slice none 0 0] #[.int .i64 0, .int .i64 0, .int .i64 0, .int .i64 0, .int .i64 0, .int .i64 0, .slice none 0 0, .slice none 0 0] l0 b3 e3) := ⟨HT3.out.set 4 (.int .i64 n3)⟩; have q3 := (blk_cell HT3.out.fx 4).trans rfl; have f3 := blk_frozen HT3.out.fx 4; clear hi hb hk) | (go_at_call 47; refine (interleaveref11_reader_num.calls k (w.heap.size + 1) l0 b3 e3 n4 b4 e4 w _ HS3.out.fi HS3.out.fB H4.out).mono ?_; rintro e w6 ⟨rfl, hi, hb, hk⟩; have HT4 := Aside0.mk (HS3.out.call hi hb hk); have HS4 : Aside0 (interleaveref11_Read.St w (w6.setCell ⟨w2.heap.size, 5, none⟩ (.int .i64 n4)) (w.heap.size + 1) w2.heap.size w.heap.size #[.int .i64 (wrap64 (a2 + n0)), .int .i64 a1, .int .i64 n1, .int .i64 n2, .int .i64 n3, .int .i64 n4, .slice none 0 0, .slice none 0 0] #[.int .i64 0, .int .i64 0, .int .i64 0, .int .i64 0, .int .i64 0, .int .i64 0, .slice none 0 0, .slice none 0 0] l0 b4 e4) := ⟨HT4.out.set 5 (.int .i64 n4)⟩; have q4 := (blk_cell HT4.out.fx 5).trans rfl; have f4 := blk_frozen HT4.out.fx 5; clear hi hb hk) | (go_at_call 48; refine (interleaveref11_reader_list.calls k (w.heap.size + 1) l0 b4 e4 l5 b5 e5 w _ HS4.out.fi HS4.out.fB H5.out).mono ?_; rintro e w7 ⟨v5, rfl, ho, hi, hb, hk⟩; have HL5 := Aside0.mk (Kd.R_lower (Kd.R_mono (ok' := fun k_ => w2.heap.size < k_) (Kd.R_bound ho) (fun k_ hk_ => Nat.lt_of_lt_of_le (blk_lt HS4.out.fx) hk_.2.1)) HS4.out.fB.size); have HT5 := Aside0.mk (HS4.out.call hi hb hk); obtain ⟨A5, c5, ee5⟩ := Kd.R_slice ho; subst ee5; have HS5 : Aside0 (interleaveref11_Read.St w (w7.setCell ⟨w2.heap.size, 6, none⟩ (.slice A5 l5.length c5)) (w.heap.size + 1) w2.heap.size w.heap.size #[.int .i64 (wrap64 (a2 + n0)), .int .i64 a1, .int .i64 n1, .int .i64 n2, .int .i64 n3, .int .i64 n4, .slice A5 l5.length c5, .slice none 0 0] #[.int .i64 0, .int .i64 0, .int .i64 0, .int .i64 0, .int .i64 0, .int .i64 0, .slice none 0 0, .slice none 0 0] l0 b5 e5) := ⟨HT5.out.set 6 _⟩; have q5 := (blk_cell HT5.out.fx 6).trans rfl; have f5 := blk_frozen HT5.out.fx 6; clear ho hi hb hk) | (go_at_call 48; refine (interleaveref11_reader_list.calls k (w.heap.size + 1) l0 b5 e5 l6 b6 e6 w _ HS5.out.fi HS5.out.fB H6.out).mono ?_; rintro e w8 ⟨v6, rfl, ho, hi, hb, hk⟩; have HL5b := Aside0.mk (Kd.R_keep (Kd.R_far (p := ⟨w2.heap.size, 6, none⟩) HL5.out (fun k_ hk_ => Nat.ne_of_gt hk_) (.slice A5 l5.length c5)) hk (fun k_ hk_ => by have := HS5.out.gx; have := HS5.out.fi.lt; have := HLT.out; omega)); obtain ⟨in5, ow5⟩ := Kd.R_own (Kd.R_far (p := ⟨w2.heap.size, 6, none⟩) HL5.out (fun k_ hk_ => Nat.ne_of_gt hk_) (.slice A5 l5.length c5)); have HL6 := Aside0.mk (Kd.R_lower (Kd.R_mono (ok' := fun k_ => w2.heap.size < k_ ∧ some k_ ≠ (Value.slice A5 l5.length c5).ownBlock) (Kd.R_bound (Kd.R_new ho ow5)) (fun k_ hk_ => ⟨Nat.lt_of_lt_of_le (blk_lt HS5.out.fx) hk_.2.1, hk_.1.2⟩)) HS5.out.fB.size); have HT6 := Aside0.mk (HS5.out.call hi hb hk); obtain ⟨A6, c6, ee6⟩ := Kd.R_slice ho; subst ee6; have HS6 : Aside0 (interleaveref11_Read.St w (w8.setCell ⟨w2.heap.size, 7, none⟩ (.slice A6 l6.length c6)) (w.heap.size + 1) w2.heap.size w.heap.size #[.int .i64 (wrap64 (a2 + n0)), .int .i64 a1, .int .i64 n1, .int .i64 n2, .int .i64 n3, .int .i64 n4, .slice A5 l5.length c5, .slice A6 l6.length c6] #[.int .i64 0, .int .i64 0, .int .i64 0, .int .i64 0, .int .i64 0, .int .i64 0, .slice none 0 0, .slice none 0 0] l0 b6 e6) := ⟨HT6.out.set 7 _⟩; have q6 := (blk_cell HT6.out.fx 7).trans rfl; have f6 := blk_frozen HT6.out.fx 7; obtain ⟨Az, cz, hz, _, _⟩ := HS6.out.fi; have q7 := cellS94_2 hz; have q8 := cellS94_1 hz; clear ho hi hb hk ow5 hz))
    have x0 := (blk_cell HS6.out.fx 0).trans rfl
    have y0 := (blk_cell HS6.out.fr 0).trans rfl
    have z0 := blk_frozen HS6.out.fr 0
    have x1 := (blk_cell HS6.out.fx 1).trans rfl
    have y1 := (blk_cell HS6.out.fr 1).trans rfl
    have z1 := blk_frozen HS6.out.fr 1
    have x2 := (blk_cell HS6.out.fx 2).trans rfl
    have y2 := (blk_cell HS6.out.fr 2).trans rfl
    have z2 := blk_frozen HS6.out.fr 2
    have x3 := (blk_cell HS6.out.fx 3).trans rfl
    have y3 := (blk_cell HS6.out.fr 3).trans rfl
    have z3 := blk_frozen HS6.out.fr 3
    have x4 := (blk_cell HS6.out.fx 4).trans rfl
    have y4 := (blk_cell HS6.out.fr 4).trans rfl
    have z4 := blk_frozen HS6.out.fr 4
    have x5 := (blk_cell HS6.out.fx 5).trans rfl
    have y5 := (blk_cell HS6.out.fr 5).trans rfl
    have z5 := blk_frozen HS6.out.fr 5
    have x6 := (blk_cell HS6.out.fx 6).trans rfl
    have y6 := (blk_cell HS6.out.fr 6).trans rfl
    have z6 := blk_frozen HS6.out.fr 6
    have x7 := (blk_cell HS6.out.fx 7).trans rfl
    have y7 := (blk_cell HS6.out.fr 7).trans rfl
    have z7 := blk_frozen HS6.out.fr 7
    clear HR1 hW1
    go_region
    all_goals (try go_wp2)
    all_goals refine bodyPost_ret (results_ctt rfl _ _ w.heap.size 26 #[.int .i64 (wrap64 (a2 + n0)), .int .i64 a1, .int .i64 n1, .int .i64 n2, .int .i64 n3, .int .i64 n4, .slice A5 l5.length c5, .slice A6 l6.length c6] (0, 0) _ rfl (blk_drew (interleaveref11_Read.put8 HS6.out.fr)) Try.underlying26 rfl (by kernel_rfl)) rfl ?_
    all_goals exact ⟨_, _, rfl, Kd.R_flat (d := Kd.int .i64) (fun h_ => h_) (ok := fun k_ => w2.heap.size < k_) (by exact Kd.R_drew (interleaveref11_Read.far8 (Kd.R_far (p := ⟨w2.heap.size, 7, none⟩) HL5b.out (fun k_ hk_ => Nat.ne_of_gt hk_) _) (fun k_ hk_ => by have := HLT.out; show k_ ≠ w.heap.size; omega))) (fun k_ hk_ _ he_ => (HL6.out.1 k_ he_.symm).2 hk_.symm), Kd.R_mono (ok := fun k_ => w2.heap.size < k_ ∧ some k_ ≠ (Value.slice A5 l5.length c5).ownBlock) (by exact Kd.R_drew (interleaveref11_Read.far8 (Kd.R_far (p := ⟨w2.heap.size, 7, none⟩) HL6.out (fun k_ hk_ => Nat.ne_of_gt hk_.1) _) (fun k_ hk_ => by have := HLT.out; show k_ ≠ w.heap.size; have := hk_.1; omega))) (fun _ hk_ => hk_.2), below_drew1 (interleaveref11_Read.below8 HS6.out.fB (Nat.le_refl _))⟩
  · have ce0 : (e6 != 0) = true := by simp [ce]
    have HH1 := Aside0.mk ((if_neg ce).symm.trans HH.out)
    clear HH
    simp only [Option.some.injEq, Prod.mk.injEq] at HH1
    obtain ⟨rfl, rfl, rfl, rfl, rfl, rfl, rfl, rfl, rfl, rfl⟩ := HH1.out
    clear HH1 ce
    go_wp2_with (first | (go_at_call 47; rw [← hW1]; refine (interleaveref11_reader_num.calls k (w.heap.size + 1) l0 0 0 n0 b0 e0 w _ HI1.out HB1.out H0.out).mono ?_; rintro e w2 ⟨rfl, hi, hb, hk⟩; have HR2 := (hk.2 _ (blk_lt HR1.out) (by omega) (by simp)).trans HR1.out; have HS0 : Aside0 (interleaveref11_Read.St w (w2.alloc (.cells #[.int .i64 (wrap64 (a2 + n0)), .int .i64 a1, .int .i64 0, .int .i64 0, .int .i64 0, .int .i64 0, .slice none 0 0, .slice none 0 0] 26)) (w.heap.size + 1) w2.heap.size w.heap.size #[.int .i64 (wrap64 (a2 + n0)), .int .i64 a1, .int .i64 0, .int .i64 0, .int .i64 0, .int .i64 0, .slice none 0 0, .slice none 0 0] #[.int .i64 0, .int .i64 0, .int .i64 0, .int .i64 0, .int .i64 0, .int .i64 0, .slice none 0 0, .slice none 0 0] l0 b0 e0) := ⟨⟨hi.alloc _, (below_then hb hb.size (below_alloc (Below.refl _ _) _)), heap_alloc_new _ _, (heap_alloc_old _ _ (blk_lt HR2)).trans HR2, (Nat.ne_of_gt hi.lt), by omega, Nat.ne_of_gt (blk_lt HR2), hb.size⟩⟩; have HLT : Aside0 (w.heap.size + 1 < w2.heap.size) := ⟨hi.lt⟩; clear hi hb hk HR2) | (go_at_call 47; refine (interleaveref11_reader_num.calls k (w.heap.size + 1) l0 b0 e0 n1 b1 e1 w _ HS0.out.fi HS0.out.fB H1.out).mono ?_; rintro e w3 ⟨rfl, hi, hb, hk⟩; have HT1 := Aside0.mk (HS0.out.call hi hb hk); have HS1 : Aside0 (interleaveref11_Read.St w (w3.setCell ⟨w2.heap.size, 2, none⟩ (.int .i64 n1)) (w.heap.size + 1) w2.heap.size w.heap.size #[.int .i64 (wrap64 (a2 + n0)), .int .i64 a1, .int .i64 n1, .int .i64 0, .int .i64 0, .int .i64 0, .slice none 0 0, .slice none 0 0] #[.int .i64 0, .int .i64 0, .int .i64 0, .int .i64 0, .int .i64 0, .int .i64 0, .slice none 0 0, .slice none 0 0] l0 b1 e1) := ⟨HT1.out.set 2 (.int .i64 n1)⟩; have q1 := (blk_cell HT1.out.fx 2).trans rfl; have f1 := blk_frozen HT1.out.fx 2; clear hi hb hk) | (go_at_call 47; refine (interleaveref11_reader_num.calls k (w.heap.size + 1) l0 b1 e1 n2 b2 e2 w _ HS1.out.fi HS1.out.fB H2.out).mono ?_; rintro e w4 ⟨rfl, hi, hb, hk⟩; have HT2 := Aside0.mk (HS1.out.call hi hb hk); have HS2 : Aside0 (interleaveref11_Read.St w (w4.setCell ⟨w2.heap.size, 3, none⟩ (.int .i64 n2)) (w.heap.size + 1) w2.heap.size w.heap.size #[.int .i64 (wrap64 (a2 + n0)), .int .i64 a1, .int .i64 n1, .int .i64 n2, .int .i64 0, .int .i64 0, .slice none 0 0, .slice none 0 0] #[.int .i64 0, .int .i64 0, .int .i64 0, .int .i64 0, .int .i64 0, .int .i64 0, .slice none 0 0, .slice none 0 0] l0 b2 e2) := ⟨HT2.out.set 3 (.int .i64 n2)⟩; have q2 := (blk_cell HT2.out.fx 3).trans rfl; have f2 := blk_frozen HT2.out.fx 3; clear hi hb hk) | (go_at_call 47; refine (interleaveref11_reader_num.calls k (w.heap.size + 1) l0 b2 e2 n3 b3 e3 w _ HS2.out.fi HS2.out.fB H3.out).mono ?_; rintro e w5 ⟨rfl, hi, hb, hk⟩; have HT3 := Aside0.mk (HS2.out.call hi hb hk); have HS3 : Aside0 (interleaveref11_Read.St w (w5.setCell ⟨w2.heap.size, 4, none⟩ (.int .i64 n3)) (w.heap.size + 1) w2.heap.size w.heap.size #[.int .i64 (wrap64 (a2 + n0)), .int .i64 a1, .int .i64 n1, .int .i64 n2, .int .i64 n3, .int .i64 0, .slice none 0 0, .slice none 0 0] #[.int .i64 0, .int .i64 0, .int .i64 0, .int .i64 0, .int .i64 0, .int .i64 0, .slice none 0 0, .slice none 0 0] l0 b3 e3) := ⟨HT3.out.set 4 (.int .i64 n3)⟩; have q3 := (blk_cell HT3.out.fx 4).trans rfl; have f3 := blk_frozen HT3.out.fx 4; clear hi hb hk) | (go_at_call 47; refine (interleaveref11_reader_num.calls k (w.heap.size + 1) l0 b3 e3 n4 b4 e4 w _ HS3.out.fi HS3.out.fB H4.out).mono ?_; rintro e w6 ⟨rfl, hi, hb, hk⟩; have HT4 := Aside0.mk (HS3.out.call hi hb hk); have HS4 : Aside0 (interleaveref11_Read.St w (w6.setCell ⟨w2.heap.size, 5, none⟩ (.int .i64 n4)) (w.heap.size + 1) w2.heap.size w.heap.size #[.int .i64 (wrap64 (a2 + n0)), .int .i64 a1, .int .i64 n1, .int .i64 n2, .int .i64 n3, .int .i64 n4, .slice none 0 0, .slice none 0 0] #[.int .i64 0, .int .i64 0, .int .i64 0, .int .i64 0, .int .i64 0, .int .i64 0, .slice none 0 0, .slice none 0 0] l0 b4 e4) := ⟨HT4.out.set 5 (.int .i64 n4)⟩; have q4 := (blk_cell HT4.out.fx 5).trans rfl; have f4 := blk_frozen HT4.out.fx 5; clear hi hb hk) | (go_at_call 48; refine (interleaveref11_reader_list.calls k (w.heap.size + 1) l0 b4 e4 l5 b5 e5 w _ HS4.out.fi HS4.out.fB H5.out).mono ?_; rintro e w7 ⟨v5, rfl, ho, hi, hb, hk⟩; have HL5 := Aside0.mk (Kd.R_lower (Kd.R_mono (ok' := fun k_ => w2.heap.size < k_) (Kd.R_bound ho) (fun k_ hk_ => Nat.lt_of_lt_of_le (blk_lt HS4.out.fx) hk_.2.1)) HS4.out.fB.size); have HT5 := Aside0.mk (HS4.out.call hi hb hk); obtain ⟨A5, c5, ee5⟩ := Kd.R_slice ho; subst ee5; have HS5 : Aside0 (interleaveref11_Read.St w (w7.setCell ⟨w2.heap.size, 6, none⟩ (.slice A5 l5.length c5)) (w.heap.size + 1) w2.heap.size w.heap.size #[.int .i64 (wrap64 (a2 + n0)), .int .i64 a1, .int .i64 n1, .int .i64 n2, .int .i64 n3, .int .i64 n4, .slice A5 l5.length c5, .slice none 0 0] #[.int .i64 0, .int .i64 0, .int .i64 0, .int .i64 0, .int .i64 0, .int .i64 0, .slice none 0 0, .slice none 0 0] l0 b5 e5) := ⟨HT5.out.set 6 _⟩; have q5 := (blk_cell HT5.out.fx 6).trans rfl; have f5 := blk_frozen HT5.out.fx 6; clear ho hi hb hk) | (go_at_call 48; refine (interleaveref11_reader_list.calls k (w.heap.size + 1) l0 b5 e5 l6 b6 e6 w _ HS5.out.fi HS5.out.fB H6.out).mono ?_; rintro e w8 ⟨v6, rfl, ho, hi, hb, hk⟩; have HL5b := Aside0.mk (Kd.R_keep (Kd.R_far (p := ⟨w2.heap.size, 6, none⟩) HL5.out (fun k_ hk_ => Nat.ne_of_gt hk_) (.slice A5 l5.length c5)) hk (fun k_ hk_ => by have := HS5.out.gx; have := HS5.out.fi.lt; have := HLT.out; omega)); obtain ⟨in5, ow5⟩ := Kd.R_own (Kd.R_far (p := ⟨w2.heap.size, 6, none⟩) HL5.out (fun k_ hk_ => Nat.ne_of_gt hk_) (.slice A5 l5.length c5)); have HL6 := Aside0.mk (Kd.R_lower (Kd.R_mono (ok' := fun k_ => w2.heap.size < k_ ∧ some k_ ≠ (Value.slice A5 l5.length c5).ownBlock) (Kd.R_bound (Kd.R_new ho ow5)) (fun k_ hk_ => ⟨Nat.lt_of_lt_of_le (blk_lt HS5.out.fx) hk_.2.1, hk_.1.2⟩)) HS5.out.fB.size); have HT6 := Aside0.mk (HS5.out.call hi hb hk); obtain ⟨A6, c6, ee6⟩ := Kd.R_slice ho; subst ee6; have HS6 : Aside0 (interleaveref11_Read.St w (w8.setCell ⟨w2.heap.size, 7, none⟩ (.slice A6 l6.length c6)) (w.heap.size + 1) w2.heap.size w.heap.size #[.int .i64 (wrap64 (a2 + n0)), .int .i64 a1, .int .i64 n1, .int .i64 n2, .int .i64 n3, .int .i64 n4, .slice A5 l5.length c5, .slice A6 l6.length c6] #[.int .i64 0, .int .i64 0, .int .i64 0, .int .i64 0, .int .i64 0, .int .i64 0, .slice none 0 0, .slice none 0 0] l0 b6 e6) := ⟨HT6.out.set 7 _⟩; have q6 := (blk_cell HT6.out.fx 7).trans rfl; have f6 := blk_frozen HT6.out.fx 7; obtain ⟨Az, cz, hz, _, _⟩ := HS6.out.fi; have q7 := cellS94_2 hz; have q8 := cellS94_1 hz; clear ho hi hb hk ow5 hz))
    have x0 := (blk_cell HS6.out.fx 0).trans rfl
    have y0 := (blk_cell HS6.out.fr 0).trans rfl
    have z0 := blk_frozen HS6.out.fr 0
    have x1 := (blk_cell HS6.out.fx 1).trans rfl
    have y1 := (blk_cell HS6.out.fr 1).trans rfl
    have z1 := blk_frozen HS6.out.fr 1
    have x2 := (blk_cell HS6.out.fx 2).trans rfl
    have y2 := (blk_cell HS6.out.fr 2).trans rfl
    have z2 := blk_frozen HS6.out.fr 2
    have x3 := (blk_cell HS6.out.fx 3).trans rfl
    have y3 := (blk_cell HS6.out.fr 3).trans rfl
    have z3 := blk_frozen HS6.out.fr 3
    have x4 := (blk_cell HS6.out.fx 4).trans rfl
    have y4 := (blk_cell HS6.out.fr 4).trans rfl
    have z4 := blk_frozen HS6.out.fr 4
    have x5 := (blk_cell HS6.out.fx 5).trans rfl
    have y5 := (blk_cell HS6.out.fr 5).trans rfl
    have z5 := blk_frozen HS6.out.fr 5
    have x6 := (blk_cell HS6.out.fx 6).trans rfl
    have y6 := (blk_cell HS6.out.fr 6).trans rfl
    have z6 := blk_frozen HS6.out.fr 6
    have x7 := (blk_cell HS6.out.fx 7).trans rfl
    have y7 := (blk_cell HS6.out.fr 7).trans rfl
    have z7 := blk_frozen HS6.out.fr 7
    clear HR1 hW1
    go_region
    all_goals (try go_wp2)
    all_goals refine bodyPost_ret (results_ctt rfl _ _ w.heap.size 26 #[.int .i64 0, .int .i64 0, .int .i64 0, .int .i64 0, .int .i64 0, .int .i64 0, .slice none 0 0, .slice none 0 0] (0, 0) _ rfl (blk_drew (interleaveref11_Read.put8 HS6.out.fr)) Try.underlying26 rfl (by kernel_rfl)) rfl ?_
    all_goals exact ⟨_, _, rfl, Kd.R_nil _ _ _ _ _, Kd.R_nil _ _ _ _ _, below_drew1 (interleaveref11_Read.below8 HS6.out.fB (Nat.le_refl _))⟩
end Go.Proofs.Ytnmmkgagbfniiaa.A
end
section
namespace Go.Proofs.Ytnmmkgagbfniiaa.Pl
open Go.RowKit Go.Proofs.YtnmmkgagbfniiaaW.PrintWords Go.Proofs.YtnmmkgagbfniiaaW.PrintMore Go.Proofs.Ytnmmkgagbfniiaa.A
set_option linter.unusedVariables false
def nx (l : List Int) (at_ : Nat) (e : Int) : Int × Nat × Int :=
  if e = 0 then ((dec 10 0 (l.drop at_)).1, at_ + (dec 10 0 (l.drop at_)).2.1.toNat, (dec 10 0 (l.drop at_)).2.2) else (0, at_, e)
def c3 (r : Int × Nat × Int) : Int × Int × Int := (r.1, (r.2.1 : Int), r.2.2)
theorem dec_size : ∀ (d : Nat) (u : Int) (l : List Int), d ≤ 10 → 0 ≤ (dec d u l).2.1 ∧ (dec d u l).2.1 ≤ (l.length : Int) + (10 - (d : Int)) ∧ ((dec d u l).2.2 ≠ 0 → (dec d u l).1 = 0 ∧ (dec d u l).2.1 = 0) := by
  intro d
  induction d with
  | zero => intro u l _; simp [dec]; omega
  | succ d ih =>
    intro u l hd
    rcases l with _ | ⟨c, t⟩
    · simp [dec]; omega
    · rw [dec]
      split
      · obtain ⟨h1, h2, h3⟩ := ih (u + (c % 128) * 2 ^ (7 * (9 - d))) t (by omega)
        refine ⟨h1, ?_, h3⟩
        rw [List.length_cons]
        omega
      · split
        · simp; omega
        · rw [List.length_cons]
          refine ⟨by show 0 ≤ 10 - (d : Int); omega, by show 10 - (d : Int) ≤ _; omega, fun h => absurd rfl h⟩
theorem nx_le {l : List Int} {at_ : Nat} {e : Int} (h : at_ ≤ l.length) : (nx l at_ e).2.1 ≤ l.length := by
  unfold nx
  split
  · obtain ⟨h1, h2, _⟩ := dec_size 10 0 (l.drop at_) (by omega)
    rw [List.length_drop] at h2
    show at_ + (dec 10 0 (l.drop at_)).2.1.toNat ≤ _
    omega
  · exact h
section
variable {l : List Int} (hm : l.length ≤ 1000000) (hx : ∀ c ∈ l, 0 ≤ c ∧ c < 256)
include hm hx
theorem next_f (at_ : Nat) (e : Int) (h : at_ ≤ l.length) : Ev (fun k => event_reader_next.f k l (at_ : Int) e) (c3 (nx l at_ e)) := by
  unfold nx
  by_cases c : e = 0
  · rw [if_pos c]
    have hd := int_f (l.drop at_) (by rw [List.length_drop]; omega) (fun z hz => hx z (List.mem_of_mem_drop hz))
    obtain ⟨h1, h2, _⟩ := dec_size 10 0 (l.drop at_) (by omega)
    rw [List.length_drop] at h2
    generalize dec 10 0 (l.drop at_) = p at hd h1 h2 ⊢
    obtain ⟨n, z, e'⟩ := p
    dsimp only at h1 h2
    refine Ev.congr (fun k => by unfold event_reader_next.f; rw [if_pos c, if_pos (by omega), Int.toNat_natCast]) (Ev.bind hd ?_)
    refine Ev.congr (fun k => ?_) (Ev.now _)
    show some (n, wrap64 ((at_ : Int) + z), e') = some (n, ((at_ + z.toNat : Nat) : Int), e')
    rw [wrap64_id (by omega) (by omega), show (at_ : Int) + z = ((at_ + z.toNat : Nat) : Int) by omega]
  · rw [if_neg c]
    exact Ev.congr (fun k => by unfold event_reader_next.f; rw [if_neg c]; rfl) (Ev.now _)
theorem num_f (at_ : Nat) (e : Int) (h : at_ ≤ l.length) : Ev (fun k => interleaveref11_reader_num.f k l (at_ : Int) e) (c3 (nx l at_ e)) := by
  unfold nx
  by_cases c : e = 0
  · rw [if_pos c]
    have hd := refInt_f (l.drop at_) (by rw [List.length_drop]; omega) (fun z hz => hx z (List.mem_of_mem_drop hz))
    obtain ⟨h1, h2, h3⟩ := dec_size 10 0 (l.drop at_) (by omega)
    rw [List.length_drop] at h2
    generalize dec 10 0 (l.drop at_) = p at hd h1 h2 h3 ⊢
    obtain ⟨n, z, e'⟩ := p
    dsimp only at h1 h2 h3
    refine Ev.congr (fun k => by unfold interleaveref11_reader_num.f; rw [if_pos c, if_pos (by omega), Int.toNat_natCast]) (Ev.bind hd ?_)
    refine Ev.congr (fun k => ?_) (Ev.now _)
    show (if e' = 0 then some (n, wrap64 ((at_ : Int) + z), e) else some (0, (at_ : Int), e')) = some (n, ((at_ + z.toNat : Nat) : Int), e')
    by_cases c2 : e' = 0
    · rw [if_pos c2, wrap64_id (by omega) (by omega), show (at_ : Int) + z = ((at_ + z.toNat : Nat) : Int) by omega, c, c2]
    · obtain ⟨h4, h5⟩ := h3 c2
      rw [if_neg c2, h4, h5]
      rfl
  · rw [if_neg c]
    exact Ev.congr (fun k => by unfold interleaveref11_reader_num.f; rw [if_neg c]; rfl) (Ev.now _)
end
def ls (l : List Int) : Nat → Int → List Int → Nat → Int → List Int × Nat × Int
  | 0, _, acc, at_, e => (acc, at_, e)
  | m + 1, last, acc, at_, e => if e = 0 then ls l m (wrap64 (last + (nx l at_ e).1)) (acc ++ [wrap64 (last + (nx l at_ e).1)]) (nx l at_ e).2.1 (nx l at_ e).2.2 else (acc, at_, e)
theorem ls_err (l : List Int) {m : Nat} {last : Int} {acc : List Int} {at_ : Nat} {e : Int} (h : e ≠ 0) : ls l m last acc at_ e = (acc, at_, e) := by
  cases m with
  | zero => rfl
  | succ m => rw [ls, if_neg h]
def l3 (r : List Int × Nat × Int) : List Int × Int × Int := (r.1, (r.2.1 : Int), r.2.2)
def li (l : List Int) (at_ : Nat) (e : Int) : List Int × Nat × Int :=
  let r := nx l at_ e
  if r.2.2 = 0 then (if r.1 < 0 ∨ r.1 > 400 then ([], r.2.1, 11) else ls l r.1.toNat 0 [] r.2.1 r.2.2) else ([], r.2.1, r.2.2)
section
variable {l : List Int} (hm : l.length ≤ 1000000) (hx : ∀ c ∈ l, 0 ≤ c ∧ c < 256)
include hm hx
theorem list_l0 (N : Nat) : ∀ m i (last : Int) (acc : List Int) (at_ : Nat) (e : Int), i + m = N → N ≤ 1000 → at_ ≤ l.length → acc.length ≤ i →
    Ev (fun k => event_reader_list.l0 k (N : Int) acc last (i : Int) l (at_ : Int) e) (l3 (ls l m last acc at_ e)) := by
  intro m
  induction m with
  | zero =>
    intro i last acc at_ e hi hN hat ha
    refine Ev.step (f := fun _ => some _) (fun k => ?_) (Ev.now _)
    simp only [event_reader_list.l0]
    rw [if_neg (by omega)]
    rfl
  | succ m ih =>
    intro i last acc at_ e hi hN hat ha
    rw [ls]
    by_cases c : e = 0
    · rw [if_pos c]
      refine Ev.step (fun k => by simp only [event_reader_list.l0]; rw [if_pos (by omega), if_pos c]) (Ev.bind (next_f hm hx at_ e hat) ?_)
      refine Ev.congr (fun k => ?_) (ih (i + 1) (wrap64 (last + (nx l at_ e).1)) (acc ++ [wrap64 (last + (nx l at_ e).1)]) (nx l at_ e).2.1 (nx l at_ e).2.2 (by omega) hN (nx_le hat) (by rw [List.length_append, List.length_singleton]; omega))
      rw [if_pos (by omega), wrap64_id (x := (i : Int) + 1) (by omega) (by omega)]
      rfl
    · rw [if_neg c]
      refine Ev.step (f := fun _ => some _) (fun k => ?_) (Ev.now _)
      simp only [event_reader_list.l0]
      rw [if_pos (by omega), if_neg c]
      rfl
theorem refList_l0 (N : Nat) : ∀ m i (last : Int) (acc : List Int) (at_ : Nat) (e : Int), i + m = N → N ≤ 1000 → at_ ≤ l.length → acc.length ≤ i →
    Ev (fun k => interleaveref11_reader_list.l0 k (N : Int) acc last (i : Int) l (at_ : Int) e) (l3 (ls l m last acc at_ e)) := by
  intro m
  induction m with
  | zero =>
    intro i last acc at_ e hi hN hat ha
    refine Ev.step (f := fun _ => some _) (fun k => ?_) (Ev.now _)
    simp only [interleaveref11_reader_list.l0]
    rw [if_neg (by omega)]
    rfl
  | succ m ih =>
    intro i last acc at_ e hi hN hat ha
    rw [ls]
    by_cases c : e = 0
    · rw [if_pos c]
      refine Ev.step (fun k => by simp only [interleaveref11_reader_list.l0]; rw [if_pos (by omega), if_pos c]) (Ev.bind (num_f hm hx at_ e hat) ?_)
      refine Ev.congr (fun k => ?_) (ih (i + 1) (wrap64 (last + (nx l at_ e).1)) (acc ++ [wrap64 (last + (nx l at_ e).1)]) (nx l at_ e).2.1 (nx l at_ e).2.2 (by omega) hN (nx_le hat) (by rw [List.length_append, List.length_singleton]; omega))
      rw [if_pos (by omega), wrap64_id (x := (i : Int) + 1) (by omega) (by omega)]
      rfl
    · rw [if_neg c]
      refine Ev.step (f := fun _ => some _) (fun k => ?_) (Ev.now _)
      simp only [interleaveref11_reader_list.l0]
      rw [if_pos (by omega), if_neg c]
      rfl
end
theorem ls_le {l : List Int} : ∀ m (last : Int) (acc : List Int) (at_ : Nat) (e : Int), at_ ≤ l.length → (ls l m last acc at_ e).2.1 ≤ l.length ∧ (ls l m last acc at_ e).1.length ≤ acc.length + m := by
  intro m
  induction m with
  | zero => intro last acc at_ e h; exact ⟨h, Nat.le_refl _⟩
  | succ m ih =>
    intro last acc at_ e h
    rw [ls]
    split
    · obtain ⟨h1, h2⟩ := ih (wrap64 (last + (nx l at_ e).1)) (acc ++ [wrap64 (last + (nx l at_ e).1)]) (nx l at_ e).2.1 (nx l at_ e).2.2 (nx_le h)
      rw [List.length_append, List.length_singleton] at h2
      exact ⟨h1, by omega⟩
    · exact ⟨h, by show acc.length ≤ _; omega⟩
end Go.Proofs.Ytnmmkgagbfniiaa.Pl
end
section
namespace Go.Proofs.Ytnmmkgagbfniiaa.Pl
open Go.RowKit Go.Proofs.YtnmmkgagbfniiaaW.PrintWords Go.Proofs.YtnmmkgagbfniiaaW.PrintMore Go.Proofs.Ytnmmkgagbfniiaa.A
set_option linter.unusedVariables false
theorem list_err {l : List Int} {n : Int} {at_ : Nat} {e : Int} (h : e ≠ 0) : Ev (fun k => event_reader_list.l0 k n [] 0 0 l (at_ : Int) e) (l3 ([], at_, e)) := by
  refine Ev.step (f := fun _ => some _) (fun k => ?_) (Ev.now _)
  simp only [event_reader_list.l0]
  rw [if_neg h]
  split <;> rfl
theorem list {l : List Int} (hm : l.length ≤ 1000000) (hx : ∀ c ∈ l, 0 ≤ c ∧ c < 256) (at_ : Nat) (e : Int) (h : at_ ≤ l.length) : Ev (fun k => event_reader_list.f k l (at_ : Int) e) (l3 (li l at_ e)) := by
  have hn := next_f hm hx at_ e h
  have hle := nx_le (l := l) (e := e) h
  unfold li
  generalize nx l at_ e = p at hn hle ⊢
  obtain ⟨n, a, e'⟩ := p
  dsimp only at hle ⊢
  refine Ev.bind hn ?_
  have j1 : ∀ {e2 : Int} {r : List Int × Int × Int}, Ev (fun k => event_reader_list.l0 k n [] 0 0 l (a : Int) e2) r → Ev (fun k => event_reader_list.j1 k n l (a : Int) e2) r := fun hh => Ev.step (fun k => by simp only [event_reader_list.j1]) hh
  have j0t : ∀ {r : List Int × Int × Int}, Ev (fun k => event_reader_list.l0 k n [] 0 0 l (a : Int) 11) r → Ev (fun k => event_reader_list.j0 k n true l (a : Int) e') r := fun hh => Ev.step (fun k => by simp only [event_reader_list.j0]; rw [if_pos trivial]) (j1 hh)
  have j0f : ∀ {r : List Int × Int × Int}, Ev (fun k => event_reader_list.l0 k n [] 0 0 l (a : Int) e') r → Ev (fun k => event_reader_list.j0 k n false l (a : Int) e') r := fun hh => Ev.step (fun k => by simp only [event_reader_list.j0]; rw [if_neg (by simp)]) (j1 hh)
  by_cases c : e' = 0
  · rw [if_pos c]
    by_cases c1 : n < 0
    · rw [if_pos (.inl c1)]
      exact Ev.congr (fun k => by show (if e' = 0 then _ else _) = _; rw [if_pos c]; show (if n < 0 then _ else _) = _; rw [if_pos c1]; rfl) (j0t (list_err (by decide)))
    · by_cases c2 : n > 400
      · rw [if_pos (.inr c2)]
        exact Ev.congr (fun k => by show (if e' = 0 then _ else _) = _; rw [if_pos c]; show (if n < 0 then _ else _) = _; rw [if_neg c1]; show event_reader_list.j0 k n (decide (n > 400)) l (a : Int) e' = _; rw [decide_eq_true c2]) (j0t (list_err (by decide)))
      · rw [if_neg (by omega)]
        obtain ⟨N, rfl⟩ := Int.eq_ofNat_of_zero_le (show 0 ≤ n by omega)
        have := list_l0 hm hx N N 0 0 [] a e' (by omega) (by omega) hle (Nat.le_refl _)
        exact Ev.congr (fun k => by show (if e' = 0 then _ else _) = _; rw [if_pos c]; show (if (N : Int) < 0 then _ else _) = _; rw [if_neg c1]; show event_reader_list.j0 k (N : Int) (decide ((N : Int) > 400)) l (a : Int) e' = _; rw [decide_eq_false c2]) (j0f this)
  · rw [if_neg c]
    exact Ev.congr (fun k => by show (if e' = 0 then _ else _) = _; rw [if_neg c]; rfl) (j0f (list_err c))
theorem refList_err {l : List Int} {n : Int} {at_ : Nat} {e : Int} (h : e ≠ 0) : Ev (fun k => interleaveref11_reader_list.l0 k n [] 0 0 l (at_ : Int) e) (l3 ([], at_, e)) := by
  refine Ev.step (f := fun _ => some _) (fun k => ?_) (Ev.now _)
  simp only [interleaveref11_reader_list.l0]
  rw [if_neg h]
  split <;> rfl
theorem refList {l : List Int} (hm : l.length ≤ 1000000) (hx : ∀ c ∈ l, 0 ≤ c ∧ c < 256) (at_ : Nat) (e : Int) (h : at_ ≤ l.length) : Ev (fun k => interleaveref11_reader_list.f k l (at_ : Int) e) (l3 (li l at_ e)) := by
  have hn := num_f hm hx at_ e h
  have hle := nx_le (l := l) (e := e) h
  unfold li
  generalize nx l at_ e = p at hn hle ⊢
  obtain ⟨n, a, e'⟩ := p
  dsimp only at hle ⊢
  refine Ev.bind hn ?_
  have j1 : ∀ {e2 : Int} {r : List Int × Int × Int}, Ev (fun k => interleaveref11_reader_list.l0 k n [] 0 0 l (a : Int) e2) r → Ev (fun k => interleaveref11_reader_list.j1 k n l (a : Int) e2) r := fun hh => Ev.step (fun k => by simp only [interleaveref11_reader_list.j1]) hh
  have j0t : ∀ {r : List Int × Int × Int}, Ev (fun k => interleaveref11_reader_list.l0 k n [] 0 0 l (a : Int) 11) r → Ev (fun k => interleaveref11_reader_list.j0 k n true l (a : Int) e') r := fun hh => Ev.step (fun k => by simp only [interleaveref11_reader_list.j0]; rw [if_pos trivial]) (j1 hh)
  have j0f : ∀ {r : List Int × Int × Int}, Ev (fun k => interleaveref11_reader_list.l0 k n [] 0 0 l (a : Int) e') r → Ev (fun k => interleaveref11_reader_list.j0 k n false l (a : Int) e') r := fun hh => Ev.step (fun k => by simp only [interleaveref11_reader_list.j0]; rw [if_neg (by simp)]) (j1 hh)
  by_cases c : e' = 0
  · rw [if_pos c]
    by_cases c1 : n < 0
    · rw [if_pos (.inl c1)]
      exact Ev.congr (fun k => by show (if e' = 0 then _ else _) = _; rw [if_pos c]; show (if n < 0 then _ else _) = _; rw [if_pos c1]; rfl) (j0t (refList_err (by decide)))
    · by_cases c2 : n > 400
      · rw [if_pos (.inr c2)]
        exact Ev.congr (fun k => by show (if e' = 0 then _ else _) = _; rw [if_pos c]; show (if n < 0 then _ else _) = _; rw [if_neg c1]; show interleaveref11_reader_list.j0 k n (decide (n > 400)) l (a : Int) e' = _; rw [decide_eq_true c2]) (j0t (refList_err (by decide)))
      · rw [if_neg (by omega)]
        obtain ⟨N, rfl⟩ := Int.eq_ofNat_of_zero_le (show 0 ≤ n by omega)
        have := refList_l0 hm hx N N 0 0 [] a e' (by omega) (by omega) hle (Nat.le_refl _)
        exact Ev.congr (fun k => by show (if e' = 0 then _ else _) = _; rw [if_pos c]; show (if (N : Int) < 0 then _ else _) = _; rw [if_neg c1]; show interleaveref11_reader_list.j0 k (N : Int) (decide ((N : Int) > 400)) l (a : Int) e' = _; rw [decide_eq_false c2]) (j0f this)
  · rw [if_neg c]
    exact Ev.congr (fun k => by show (if e' = 0 then _ else _) = _; rw [if_neg c]; rfl) (j0f (refList_err c))
theorem li_le {l : List Int} {at_ : Nat} {e : Int} (h : at_ ≤ l.length) : (li l at_ e).2.1 ≤ l.length ∧ (li l at_ e).1.length ≤ 400 := by
  have hle := nx_le (l := l) (e := e) h
  unfold li
  dsimp only
  split
  · split
    · exact ⟨hle, by simp⟩
    · obtain ⟨h1, h2⟩ := ls_le (l := l) (nx l at_ e).1.toNat 0 [] (nx l at_ e).2.1 (nx l at_ e).2.2 hle
      rw [List.length_nil] at h2
      exact ⟨h1, by omega⟩
  · exact ⟨hle, by simp⟩
def r0 (l : List Int) := nx l 0 0
def r1 (l : List Int) := nx l (r0 l).2.1 (r0 l).2.2
def r2 (l : List Int) := nx l (r1 l).2.1 (r1 l).2.2
def r3 (l : List Int) := nx l (r2 l).2.1 (r2 l).2.2
def r4 (l : List Int) := nx l (r3 l).2.1 (r3 l).2.2
def r5 (l : List Int) := li l (r4 l).2.1 (r4 l).2.2
def r6 (l : List Int) := li l (r5 l).2.1 (r5 l).2.2
def rdS (l : List Int) (th sq : Int) : Int × Int × Int × Int × Int × Int × List Int × List Int × Int × Int :=
  if (r6 l).2.2 = 0 then (wrap64 ((r0 l).1 + sq), th, (r1 l).1, (r2 l).1, (r3 l).1, (r4 l).1, (r5 l).1, (r6 l).1, ((r6 l).2.1 : Int), 0) else (0, 0, 0, 0, 0, 0, [], [], 0, (r6 l).2.2)
theorem r_le (l : List Int) : (r0 l).2.1 ≤ l.length ∧ (r1 l).2.1 ≤ l.length ∧ (r2 l).2.1 ≤ l.length ∧ (r3 l).2.1 ≤ l.length ∧ (r4 l).2.1 ≤ l.length ∧ (r5 l).2.1 ≤ l.length ∧ (r6 l).2.1 ≤ l.length := by
  have h0 : (r0 l).2.1 ≤ l.length := nx_le (Nat.zero_le _)
  have h1 : (r1 l).2.1 ≤ l.length := nx_le h0
  have h2 : (r2 l).2.1 ≤ l.length := nx_le h1
  have h3 : (r3 l).2.1 ≤ l.length := nx_le h2
  have h4 : (r4 l).2.1 ≤ l.length := nx_le h3
  have h5 : (r5 l).2.1 ≤ l.length := (li_le h4).1
  exact ⟨h0, h1, h2, h3, h4, h5, (li_le h5).1⟩
theorem read_f {l : List Int} (hm : l.length ≤ 1000000) (hx : ∀ c ∈ l, 0 ≤ c ∧ c < 256) (th sq : Int) : Ev (fun k => event_Read.f k l th sq) (rdS l th sq) := by
  obtain ⟨h0, h1, h2, h3, h4, h5, h6⟩ := r_le l
  refine Ev.bind (next_f hm hx 0 0 (Nat.zero_le _)) (Ev.bind (next_f hm hx (r0 l).2.1 (r0 l).2.2 h0) (Ev.bind (next_f hm hx (r1 l).2.1 (r1 l).2.2 h1) (Ev.bind (next_f hm hx (r2 l).2.1 (r2 l).2.2 h2) (Ev.bind (next_f hm hx (r3 l).2.1 (r3 l).2.2 h3) (Ev.bind (list hm hx (r4 l).2.1 (r4 l).2.2 h4) (Ev.bind (list hm hx (r5 l).2.1 (r5 l).2.2 h5) ?_))))))
  refine Ev.congr (fun k => ?_) (Ev.now _)
  unfold rdS
  show (if (r6 l).2.2 = 0 then _ else _) = some (if (r6 l).2.2 = 0 then _ else _)
  split <;> rfl
theorem refRead_f {l : List Int} (hm : l.length ≤ 1000000) (hx : ∀ c ∈ l, 0 ≤ c ∧ c < 256) (th sq : Int) : Ev (fun k => interleaveref11_Read.f k l th sq) (rdS l th sq) := by
  obtain ⟨h0, h1, h2, h3, h4, h5, h6⟩ := r_le l
  refine Ev.bind (num_f hm hx 0 0 (Nat.zero_le _)) (Ev.bind (num_f hm hx (r0 l).2.1 (r0 l).2.2 h0) (Ev.bind (num_f hm hx (r1 l).2.1 (r1 l).2.2 h1) (Ev.bind (num_f hm hx (r2 l).2.1 (r2 l).2.2 h2) (Ev.bind (num_f hm hx (r3 l).2.1 (r3 l).2.2 h3) (Ev.bind (refList hm hx (r4 l).2.1 (r4 l).2.2 h4) (Ev.bind (refList hm hx (r5 l).2.1 (r5 l).2.2 h5) ?_))))))
  refine Ev.congr (fun k => ?_) (Ev.now _)
  unfold rdS
  show (if (r6 l).2.2 = 0 then some (wrap64 (sq + (r0 l).1), _) else _) = some (if (r6 l).2.2 = 0 then (wrap64 ((r0 l).1 + sq), _) else _)
  rw [Int.add_comm sq]
  split <;> rfl
end Go.Proofs.Ytnmmkgagbfniiaa.Pl
end
section
namespace Go.Proofs.Ytnmmkgagbfniiaa.A
open Go.RowKit Go.Proofs.YtnmmkgagbfniiaaW.PrintWords Go.Proofs.YtnmmkgagbfniiaaW.PrintLast Go.Proofs.YtnmmkgagbfniiaaW.PrintMore
attribute [local go_sem] max2_int min2_int max_two min_two max_three min_three max_four min_four
set_option linter.unusedVariables false
set_option linter.unusedSimpArgs false
def event_appendList.l0 : Nat → List Int → Int → List Int → Int → Int → Option (List Int)
  | 0, _, _, _, _, _ => none
  | k + 1, x0, x5, x12, x13, x14 => if x14 < x13 then (if 0 ≤ x14 then (if x14 < (x12.length : Int) then ((event_appendInt.f k x0 (wrap64 ((rd x12 x14) - x5))).bind fun t112 => (event_appendList.l0 k t112 (rd x12 x14) x12 x13 (wrap64 (x14 + 1)))) else (none)) else (none)) else (some x0)
def event_appendList.f (k : Nat) (l0 : List Int) (l1 : List Int) : Option (List Int) := (event_appendInt.f k l0 (l1.length : Int)).bind fun t108 => (event_appendList.l0 k t108 0 l1 (l1.length : Int) 0)
theorem event_appendList.mono_l : ∀ k, (∀ y0 y1 y2 y3 y4, LeO (event_appendList.l0 k y0 y1 y2 y3 y4) (event_appendList.l0 (k + 1) y0 y1 y2 y3 y4))
  | 0 => fun _ _ _ _ _ r h => by simp [event_appendList.l0] at h
  | k + 1 => by
    have ih0 := event_appendList.mono_l k
    · intro y0 y1 y2 y3 y4
      unfold event_appendList.l0
      repeat' first
      | (with_reducible exact ih0 _ _ _ _ _)
      | (with_reducible exact event_appendInt.mono _ _ _)
      | (with_reducible exact LeO.refl _)
      | (with_reducible exact LeO.none _)
      | (with_reducible refine LeO.ite ?_ ?_)
      | (with_reducible refine LeO.bind ?_ (fun _ => ?_))
      | exact ih0 _ _ _ _ _
      | exact event_appendInt.mono _ _ _
      | exact LeO.none _
      | refine LeO.ite ?_ ?_
      | refine LeO.bind ?_ (fun _ => ?_)
theorem event_appendList.mono : ∀ a0 a1 k, LeO (event_appendList.f k a0 a1) (event_appendList.f (k + 1) a0 a1) := by
  intro a0 a1 k
  have ih0 := event_appendList.mono_l k
  unfold event_appendList.f
  repeat' first
      | (with_reducible exact ih0 _ _ _ _ _)
      | (with_reducible exact event_appendInt.mono _ _ _)
      | (with_reducible exact LeO.refl _)
      | (with_reducible exact LeO.none _)
      | (with_reducible refine LeO.ite ?_ ?_)
      | (with_reducible refine LeO.bind ?_ (fun _ => ?_))
      | exact ih0 _ _ _ _ _
      | exact event_appendInt.mono _ _ _
      | exact LeO.none _
      | refine LeO.ite ?_ ?_
      | refine LeO.bind ?_ (fun _ => ?_)
set_option maxHeartbeats 8000000 in
set_option maxRecDepth 100000 in
theorem event_appendList.calls (k : Nat) (P0_ : Nat → Prop) (u9000_ : Value) (l0 : List Int) (A1 : Option Addr) (c1 : Nat) (l1 : List Int) (r : List Int) (w0 w : World) (hB : Below w0.heap.size w0 w) (ho0 : Kd.R (Kd.int .u8) 5 w w0.heap.size P0_ u9000_ l0) (hr1 : ∀ W_, Kept w W_ (fun k_ => P0_ k_) → Kd.C (Kd.int .i64) W_ A1 l1.length l1) (hc1 : l1.length ≤ c1) (h : event_appendList.f k l0 l1 = some r) :
    Calls Try.prog 41 #[u9000_, .slice A1 l1.length c1] w fun e w' => ∃ v0_ : Value, e = .returned (v0_) ∧ Kd.R (Kd.int .u8) 5 w' w0.heap.size (fun k_ => (P0_ k_ ∨ w.heap.size ≤ k_)) v0_ r ∧ Below w0.heap.size w0 w' ∧ Kept w w' (fun k_ => P0_ k_) := by
  have HO0 := Aside0.mk (show Kd.R (Kd.int .u8) 5 w w0.heap.size (fun k_ => (P0_ k_ ∨ w.heap.size ≤ k_)) u9000_ l0 from Kd.R_mono ho0 (fun k_ hk => (.inl hk)))
  have HR1 := Aside0.mk hr1
  have HC1 := Aside0.mk hc1
  clear hr1 hc1
  have HK := Aside0.mk (Kept.refl w (fun k_ => P0_ k_))
  have HW0 := Aside0.mk hB.size
  have HB := Aside0.mk hB
  clear hB
  have H : ((event_appendInt.f k l0 (l1.length : Int)).bind fun t108 => (event_appendList.l0 k t108 0 l1 (l1.length : Int) 0)) = some r := h
  clear h
  replace H := Option.bind_eq_some_iff.mp H
  obtain ⟨t108, A30, H⟩ := H
  replace H : (event_appendList.l0 k t108 0 l1 (l1.length : Int) 0) = some r := H
  have A3 := Aside0.mk A30
  clear A30
  have H' := Aside0.mk H
  clear H
  obtain ⟨Ao4, co4, eo4⟩ := Kd.R_slice HO0.out
  subst eo4
  go_enter Try.func41, Try.ntmps41
  go_wp2_with (first | ((with_reducible refine gate_callee (f := 40) rfl ?_); refine goesL_ (some 11) rfl rfl Try.func40 (by kernel_rfl) rfl #[.slice Ao4 l0.length co4, .int .i64 (l1.length : Int)] rfl (by (try simp only [List.map_toArray, List.map_cons, List.map_nil]); first | done | rfl | (simp only [List.length_drop, List.length_take]; rfl)) ?_; (with_reducible refine (event_appendInt.calls k (fun k_ => some k_ = (.slice Ao4 l0.length co4 : Value).ownBlock) (.slice Ao4 l0.length co4) l0 (l1.length : Int) t108 w0 _ ?side1 ?side2 A3.out).mono ?_); (case side1 => repeat (first | (with_reducible first | exact HB.out | apply below_alloc | apply pw_below_drewN | apply below_drew1) | exact HB.out)); (case side2 => exact Kd.R_tight rfl HO0.out); rintro e w5 ⟨v109, rfl, ho0, hb, hkp⟩; refine ⟨_, rfl, ?_⟩; have n0_ := Aside0.mk (Kd.R_mono (ok' := fun k_ => (P0_ k_ ∨ w.heap.size ≤ k_)) ho0 (fun k_ hk_ => Or.elim hk_ (fun hs_ => (HO0.out.1 k_ (hs_).symm)) (fun hn_ => (.inr (Nat.le_trans (by first | exact HK.out.1 | exact (show Kept w _ (fun k_ => P0_ k_) from by repeat (first | (with_reducible first | exact HK.out | apply Kept.alloc | apply Kept.drewN | apply Kept.drew) | exact HK.out)).1) hn_))))); have n1_ := Aside0.mk (Kept.then_ (S := (fun k_ => P0_ k_)) (by repeat (first | (with_reducible first | exact HK.out | apply Kept.alloc | apply Kept.drewN | apply Kept.drew) | exact HK.out)) hkp (fun k_ hs_ => (fun e_ => (HO0.out.1 k_ e_.symm)) hs_)); have n2_ := Aside0.mk (hb); clear HK; clear HB; clear HO0; have HO110 := n0_; have HK := n1_; have HB := n2_; clear n0_ n1_ n2_; (try clear hb); (try clear hkp); (try clear ho0)))
  go_loopg [0, 5, 14] k (fun kq v0 v5 v14 w' => ∃ (x0_1 : List Int) (x5_1 : Int) (x14_1 : Int), v5 = .int .i64 x5_1 ∧ v14 = .int .i64 x14_1 ∧ Aside0 (event_appendList.l0 kq x0_1 x5_1 l1 (l1.length : Int) x14_1 = some r) ∧ Aside0 (kq ≤ k) ∧ Aside0 (Kd.R (Kd.int .u8) 5 w' w0.heap.size (fun k_ => (P0_ k_ ∨ w.heap.size ≤ k_)) v0 x0_1) ∧ Aside0 (Kept w w' (fun k_ => P0_ k_)) ∧ Aside0 (Below w0.heap.size w0 w'))
  case atStart => exact ⟨(t108), (0), (0), (by first | rfl | (simp; done) | (simp [*]; done)), (by first | rfl | (simp; done) | (simp [*]; done)), H', ⟨Nat.le_refl _⟩, ⟨by (with_reducible repeat (first | apply Kd.R_alloc | apply Kd.R_drewN | apply Kd.R_drew)); exact HO110.out⟩, ⟨by repeat (first | (with_reducible first | exact HK.out | apply Kept.alloc | apply Kept.drewN | apply Kept.drew) | exact HK.out)⟩, ⟨by repeat (first | (with_reducible first | exact HB.out | apply below_alloc | apply pw_below_drewN | apply below_drew1) | exact HB.out)⟩⟩
  case round =>
    clear H'
    try clear c1
    try clear p2
    try clear c4
    obtain ⟨x0_1, x5_1, x14_1, rfl, rfl, HA, HK1, HO_0, HK, HB⟩ := hrel
    cases gk with
    | zero => exact absurd HA.out (by simp [event_appendList.l0])
    | succ k1 =>
      have H := HA.out
      clear HA
      simp only [event_appendList.l0] at H
      by_cases c6 : x14_1 < (l1.length : Int)
      · rw [if_pos c6] at H
        have c6b0 : decide (x14_1 < (l1.length : Int)) = true := decide_eq_true c6
        clear c6
        by_cases c7 : 0 ≤ x14_1
        · rw [if_pos c7] at H
          have c7b0 : decide (0 ≤ x14_1) = true := decide_eq_true c7
          clear c7
          by_cases c8 : x14_1 < (l1.length : Int)
          · rw [if_pos c8] at H
            have c8b0 : decide (x14_1 < (l1.length : Int)) = true := decide_eq_true c8
            clear c8
            replace H := Option.bind_eq_some_iff.mp H
            obtain ⟨t112, A90, H⟩ := H
            replace H : (event_appendList.l0 k1 t112 (rd l1 x14_1) l1 (l1.length : Int) (wrap64 (x14_1 + 1))) = some r := H
            have A9 := Aside0.mk A90
            clear A90
            have H' := Aside0.mk H
            clear H
            have p111 : 0 ≤ (x14_1 : Int) := of_decide_eq_true (by first | (with_reducible assumption) | assumption)
            have q111 : x14_1 < (l1.length : Int) := of_decide_eq_true (by first | (with_reducible assumption) | assumption)
            obtain ⟨ad111, e111, hx111_0⟩ := Kd.at_int (Kd.C_kept_now HR1.out HK.out) x14_1 p111 q111
            cases e111
            replace p111 := eq_true p111
            replace q111 := eq_true q111
            obtain ⟨Ao10, co10, eo10⟩ := Kd.R_slice HO_0.out
            subst eo10
            go_wp2_with (first | ((with_reducible refine gate_callee (f := 40) rfl ?_); refine goesL_ (some 22) rfl rfl Try.func40 (by kernel_rfl) rfl #[.slice Ao10 x0_1.length co10, .int .i64 (wrap64 ((rd l1 x14_1) - x5_1))] rfl (by (try simp only [List.map_toArray, List.map_cons, List.map_nil]); first | done | rfl | (simp only [List.length_drop, List.length_take]; rfl)) ?_; (with_reducible refine (event_appendInt.calls k1 (fun k_ => some k_ = (.slice Ao10 x0_1.length co10 : Value).ownBlock) (.slice Ao10 x0_1.length co10) x0_1 (wrap64 ((rd l1 x14_1) - x5_1)) t112 w0 _ ?side1 ?side2 A9.out).mono ?_); (case side1 => repeat (first | (with_reducible first | exact HB.out | apply below_alloc | apply pw_below_drewN | apply below_drew1) | exact HB.out)); (case side2 => exact Kd.R_tight rfl HO_0.out); rintro e w11 ⟨v113, rfl, ho0, hb, hkp⟩; refine ⟨_, rfl, ?_⟩; have n0_ := Aside0.mk (Kd.R_mono (ok' := fun k_ => (P0_ k_ ∨ w.heap.size ≤ k_)) ho0 (fun k_ hk_ => Or.elim hk_ (fun hs_ => (HO_0.out.1 k_ (hs_).symm)) (fun hn_ => (.inr (Nat.le_trans (by first | exact HK.out.1 | exact (show Kept w _ (fun k_ => P0_ k_) from by repeat (first | (with_reducible first | exact HK.out | apply Kept.alloc | apply Kept.drewN | apply Kept.drew) | exact HK.out)).1) hn_))))); have n1_ := Aside0.mk (Kept.then_ (S := (fun k_ => P0_ k_)) (by repeat (first | (with_reducible first | exact HK.out | apply Kept.alloc | apply Kept.drewN | apply Kept.drew) | exact HK.out)) hkp (fun k_ hs_ => (fun e_ => (HO_0.out.1 k_ e_.symm)) hs_)); have n2_ := Aside0.mk (hb); clear HK; clear HB; clear HO_0; have HO114 := n0_; have HK := n1_; have HB := n2_; clear n0_ n1_ n2_; (try clear hb); (try clear hkp); (try clear ho0)))
            go_roundg k1
            case measure => have := HK1.out; omega
            case rel => exact ⟨(t112), (rd l1 x14_1), (wrap64 (x14_1 + 1)), (by first | rfl | (simp; done) | (simp [*]; done)), (by first | rfl | (simp; done) | (simp [*]; done)), H', ⟨by have := HK1.out; omega⟩, ⟨by (with_reducible repeat (first | apply Kd.R_alloc | apply Kd.R_drewN | apply Kd.R_drew)); exact HO114.out⟩, ⟨by repeat (first | (with_reducible first | exact HK.out | apply Kept.alloc | apply Kept.drewN | apply Kept.drew) | exact HK.out)⟩, ⟨by repeat (first | (with_reducible first | exact HB.out | apply below_alloc | apply pw_below_drewN | apply below_drew1) | exact HB.out)⟩⟩
          · rw [if_neg c8] at H
            exact absurd H (by simp)
        · rw [if_neg c7] at H
          exact absurd H (by simp)
      · rw [if_neg c6] at H
        have c6b0 : decide (x14_1 < (l1.length : Int)) = false := decide_eq_false c6
        clear c6
        obtain rfl := Option.some.inj H
        go_wp2
        go_ret
        exact ⟨_, by first | rfl | (simp [errW_none, errW_some] <;> rfl) | (simp [*, errW_none, errW_some] <;> rfl), by (with_reducible repeat (first | apply Kd.R_alloc | apply Kd.R_drewN | apply Kd.R_drew)); exact HO_0.out, by repeat (first | (with_reducible first | exact HB.out | apply below_alloc | apply pw_below_drewN | apply below_drew1) | exact HB.out), by repeat (first | (with_reducible first | exact HK.out | apply Kept.alloc | apply Kept.drewN | apply Kept.drew) | exact HK.out)⟩
end Go.Proofs.Ytnmmkgagbfniiaa.A
end
section
namespace Go.Proofs.Ytnmmkgagbfniiaa.A
open Go.RowKit Go.Proofs.YtnmmkgagbfniiaaW.PrintWords Go.Proofs.YtnmmkgagbfniiaaW.PrintLast Go.Proofs.YtnmmkgagbfniiaaW.PrintMore
attribute [local go_sem] max2_int min2_int max_two min_two max_three min_three max_four min_four
set_option linter.unusedVariables false
set_option linter.unusedSimpArgs false
def event_Append.f (k : Nat) (l0 : List Int) (a1_0 : Int) (a1_1 : Int) (a1_2 : Int) (a1_3 : Int) (a1_4 : Int) (a1_5 : Int) (l1_6 : List Int) (l1_7 : List Int) (a2 : Int) : Option (List Int) :=
  (event_appendInt.f k l0 (wrap64 (a1_0 - a2))).bind fun t1 => (event_appendInt.f k t1 a1_2).bind fun t2 => (event_appendInt.f k t2 a1_3).bind fun t3 => (event_appendInt.f k t3 a1_4).bind fun t4 => (event_appendInt.f k t4 a1_5).bind fun t5 => (event_appendList.f k t5 l1_6).bind fun t6 => event_appendList.f k t6 l1_7
theorem event_Append.mono : ∀ a0 a1 a2 a3 a4 a5 a6 a7 a8 a9 k, LeO (event_Append.f k a0 a1 a2 a3 a4 a5 a6 a7 a8 a9) (event_Append.f (k + 1) a0 a1 a2 a3 a4 a5 a6 a7 a8 a9) := by
  intro a0 a1 a2 a3 a4 a5 a6 a7 a8 a9 k
  unfold event_Append.f
  exact LeO.bind (event_appendInt.mono _ _ _) fun _ => LeO.bind (event_appendInt.mono _ _ _) fun _ => LeO.bind (event_appendInt.mono _ _ _) fun _ => LeO.bind (event_appendInt.mono _ _ _) fun _ => LeO.bind (event_appendInt.mono _ _ _) fun _ => LeO.bind (event_appendList.mono _ _ _) fun _ => event_appendList.mono _ _ _
set_option maxHeartbeats 4000000 in
set_option maxRecDepth 100000 in
theorem event_Append.calls (k : Nat) (A0 : Option Addr) (c0 : Nat) (l0 : List Int) (a1_0 : Int) (a1_1 : Int) (a1_2 : Int) (a1_3 : Int) (a1_4 : Int) (a1_5 : Int) (A1_6 : Option Addr) (c1_6 : Nat) (l1_6 : List Int) (A1_7 : Option Addr) (c1_7 : Nat) (l1_7 : List Int) (a2 : Int) (r : List Int) (w : World) (hr0 : Kd.C (Kd.int .u8) w A0 l0.length l0) (hc0 : l0.length ≤ c0) (hr1_6 : Kd.C (Kd.int .i64) w A1_6 l1_6.length l1_6) (hc1_6 : l1_6.length ≤ c1_6) (hr1_7 : Kd.C (Kd.int .i64) w A1_7 l1_7.length l1_7) (hc1_7 : l1_7.length ≤ c1_7) (h : event_Append.f k l0 a1_0 a1_1 a1_2 a1_3 a1_4 a1_5 l1_6 l1_7 a2 = some r) :
    Calls Try.prog 12 #[.slice A0 l0.length c0, .agg #[.int .i64 a1_0, .int .i64 a1_1, .int .i64 a1_2, .int .i64 a1_3, .int .i64 a1_4, .int .i64 a1_5, .slice A1_6 l1_6.length c1_6, .slice A1_7 l1_7.length c1_7], .int .i64 a2] w fun e w' => ∃ v0_ : Value, e = .returned (v0_) ∧ Kd.R (Kd.int .u8) 5 w' w.heap.size (fun _ => True) v0_ r ∧ Below w.heap.size w w' := by
  obtain ⟨t1, h1, h⟩ := Option.bind_eq_some_iff.mp h
  obtain ⟨t2, h2, h⟩ := Option.bind_eq_some_iff.mp h
  obtain ⟨t3, h3, h⟩ := Option.bind_eq_some_iff.mp h
  obtain ⟨t4, h4, h⟩ := Option.bind_eq_some_iff.mp h
  obtain ⟨t5, h5, h⟩ := Option.bind_eq_some_iff.mp h
  obtain ⟨t6, h6, h7⟩ := Option.bind_eq_some_iff.mp h
  have HT0 := Aside0.mk h1
  obtain ⟨ns, hns⟩ : ∃ f : Nat → Int, f = fun j => [wrap64 (a1_0 - a2), a1_2, a1_3, a1_4, a1_5].getD j 0 := ⟨_, rfl⟩
  obtain ⟨ts, hts⟩ : ∃ f : Nat → List Int, f = fun j => [l0, t1, t2, t3, t4, t5].getD j [] := ⟨_, rfl⟩
  have HT := Aside0.mk (show ∀ j, j < 5 → event_appendInt.f k (ts j) (ns j) = some (ts (j + 1)) by
    subst hns hts
    intro j hj
    match j, hj with
    | 0, _ => exact h1
    | 1, _ => exact h2
    | 2, _ => exact h3
    | 3, _ => exact h4
    | 4, _ => exact h5)
  have HR0 := Aside0.mk hr0
  have HN0 := Aside0.mk (ow_none hr0)
  have HR6 := Aside0.mk hr1_6
  have HC6 := Aside0.mk hc1_6
  have HR7 := Aside0.mk hr1_7
  have HC7 := Aside0.mk hc1_7
  have HT6 := Aside0.mk h6
  have HT7 := Aside0.mk h7
  have HT5 := Aside0.mk (show ts 5 = t5 by rw [hts]; rfl)
  have HTZ := Aside0.mk (show ts 0 = l0 by rw [hts]; rfl)
  have HNS := Aside0.mk hns
  clear hr0 hr1_6 hc1_6 hr1_7 hc1_7 h h1 h2 h3 h4 h5 h6 h7 hts hns HT0
  go_enter Try.func12, Try.ntmps12
  go_wp2
  obtain ⟨W3, hW3⟩ : ∃ W3 : World, W3 = ((w.alloc (.cells #[.int .i64 a1_0, .int .i64 a1_1, .int .i64 a1_2, .int .i64 a1_3, .int .i64 a1_4, .int .i64 a1_5, .slice A1_6 l1_6.length c1_6, .slice A1_7 l1_7.length c1_7] 26)).alloc (.cells #[.int .i64 a1_1, .int .i64 a1_2, .int .i64 a1_3, .int .i64 a1_4, .int .i64 a1_5, .slice A1_6 l1_6.length c1_6, .slice A1_7 l1_7.length c1_7] 24)).alloc (.cells #[.int .i64 (wrap64 (a1_0 - a2)), .int .i64 a1_2, .int .i64 a1_3, .int .i64 a1_4, .int .i64 a1_5] 2) := ⟨_, rfl⟩
  rw [← hW3]
  have HZ := Aside0.mk (show W3.heap.size = w.heap.size + 3 by rw [hW3]; simp)
  have HB0 := Aside0.mk (show Below w.heap.size w W3 by rw [hW3]; exact below_alloc (below_alloc (below_alloc (Below.refl _ _) _) _) _)
  have HE := Aside0.mk (show ∀ j, j < 5 → W3.cell? ⟨w.heap.size + 1 + 1, j, none⟩ = some (.int .i64 (ns j)) by
    intro j hj
    rw [hW3]
    have := World.cell?_alloc_mark ((w.alloc (.cells #[.int .i64 a1_0, .int .i64 a1_1, .int .i64 a1_2, .int .i64 a1_3, .int .i64 a1_4, .int .i64 a1_5, .slice A1_6 l1_6.length c1_6, .slice A1_7 l1_7.length c1_7] 26)).alloc (.cells #[.int .i64 a1_1, .int .i64 a1_2, .int .i64 a1_3, .int .i64 a1_4, .int .i64 a1_5, .slice A1_6 l1_6.length c1_6, .slice A1_7 l1_7.length c1_7] 24)) #[.int .i64 (wrap64 (a1_0 - a2)), .int .i64 a1_2, .int .i64 a1_3, .int .i64 a1_4, .int .i64 a1_5] 2 (0, 0) j
    rw [show ((w.alloc (.cells #[.int .i64 a1_0, .int .i64 a1_1, .int .i64 a1_2, .int .i64 a1_3, .int .i64 a1_4, .int .i64 a1_5, .slice A1_6 l1_6.length c1_6, .slice A1_7 l1_7.length c1_7] 26)).alloc (.cells #[.int .i64 a1_1, .int .i64 a1_2, .int .i64 a1_3, .int .i64 a1_4, .int .i64 a1_5, .slice A1_6 l1_6.length c1_6, .slice A1_7 l1_7.length c1_7] 24)).heap.size = w.heap.size + 1 + 1 by simp] at this
    rw [this, HNS.out]
    match j, hj with
    | 0, _ => rfl
    | 1, _ => rfl
    | 2, _ => rfl
    | 3, _ => rfl
    | 4, _ => rfl)
  have HD := Aside0.mk (show W3.cell? ⟨w.heap.size + 1, 5, none⟩ = some (.slice A1_6 l1_6.length c1_6) ∧ W3.cell? ⟨w.heap.size + 1, 6, none⟩ = some (.slice A1_7 l1_7.length c1_7) by
    have key := World.cell?_alloc_mark (w.alloc (.cells #[.int .i64 a1_0, .int .i64 a1_1, .int .i64 a1_2, .int .i64 a1_3, .int .i64 a1_4, .int .i64 a1_5, .slice A1_6 l1_6.length c1_6, .slice A1_7 l1_7.length c1_7] 26)) #[.int .i64 a1_1, .int .i64 a1_2, .int .i64 a1_3, .int .i64 a1_4, .int .i64 a1_5, .slice A1_6 l1_6.length c1_6, .slice A1_7 l1_7.length c1_7] 24 (0, 0)
    rw [show (w.alloc (.cells #[.int .i64 a1_0, .int .i64 a1_1, .int .i64 a1_2, .int .i64 a1_3, .int .i64 a1_4, .int .i64 a1_5, .slice A1_6 l1_6.length c1_6, .slice A1_7 l1_7.length c1_7] 26)).heap.size = w.heap.size + 1 by simp] at key
    rw [hW3]
    exact ⟨pw_cell_below (below_alloc (Below.refl _ _) _) (key 5), pw_cell_below (below_alloc (Below.refl _ _) _) (key 6)⟩)
  clear hW3
  go_loopw [8, 33] (fun v i wr => ∃ j : Nat, j ≤ 5 ∧ i = .int .i64 j ∧ Aside0 (Below W3.heap.size W3 wr) ∧ (v = .slice A0 l0.length l0.length ∧ Aside0 (j = 0) ∨ Aside0 (0 < j ∧ Kd.R (Kd.int .u8) 5 wr W3.heap.size (fun k_ => W3.heap.size ≤ k_) v (ts j)))) (fun _ i _ => 5 - (intOf i).toNat)
  case atStart => exact ⟨0, by omega, rfl, ⟨Below.refl _ _⟩, .inl ⟨rfl, ⟨rfl⟩⟩⟩
  case round =>
    obtain ⟨j, hj, rfl, HB, HO⟩ := hrel
    by_cases hlt : j < 5
    · have hcell : wr.cell? ⟨w.heap.size + 1 + 1, j, none⟩ = some (.int .i64 (ns j)) := (HB.out.cell (p := ⟨w.heap.size + 1 + 1, j, none⟩) (by have := HZ.out; show _ < _; simp; omega)).trans (HE.out j hlt)
      have HTj := Aside0.mk (HT.out j hlt)
      rcases HO with ⟨rfl, HJ⟩ | HO
      · have HX := Aside0.mk (show Kd.C (Kd.int .u8) wr A0 l0.length l0 from Kd.C_below (Kd.C_below HR0.out HB0.out) HB.out)
        have HTq := Aside0.mk (show event_appendInt.f k l0 (ns j) = some (ts (j + 1)) by have := HTj.out; rw [HJ.out, HTZ.out] at this; rw [HJ.out]; exact this)
        go_wp2_with (go_at_call 40; refine (event_appendInt_tight k A0 l0 (ns j) (ts (j + 1)) _ HX.out HTq.out).mono ?_; rintro e w5 ⟨v5, rfl, ho, hb⟩; have HO1 := Aside0.mk (Kd.R_mono (ok' := fun k_ => W3.heap.size ≤ k_) (Kd.R_bound (Kd.R_lower ho HB.out.size)) (fun _ hk => hk.2.1)); have HB1 := Aside0.mk (below_then HB.out HB.out.size hb); clear ho hb)
        go_roundw
        case rel => exact ⟨j + 1, by omega, by go_num, HB1, .inr ⟨by omega, HO1.out⟩⟩
        case measure => simp [intOf]; omega
      · have HO' := Aside0.mk HO.out.2
        clear HO
        obtain ⟨Ao, co, eo⟩ := Kd.R_slice HO'.out
        subst eo
        go_wp2_with (go_at_call 40; refine (event_appendInt.calls k (fun k_ => W3.heap.size ≤ k_) (.slice Ao (ts j).length co) (ts j) (ns j) (ts (j + 1)) W3 _ HB.out HO'.out HTj.out).mono ?_; rintro e w5 ⟨v5, rfl, ho, hb, hkp⟩; have HO1 := Aside0.mk (Kd.R_mono (ok' := fun k_ => W3.heap.size ≤ k_) (Kd.R_bound ho) (fun _ hk => hk.2.1)); have HB1 := Aside0.mk hb; clear ho hb hkp)
        go_roundw
        case rel => exact ⟨j + 1, by omega, by go_num, HB1, .inr ⟨by omega, HO1.out⟩⟩
        case measure => simp [intOf]; omega
    · obtain rfl : j = 5 := by omega
      rcases HO with ⟨rfl, HJ⟩ | HO
      · exact absurd HJ.out (by omega)
      · have HO' := Aside0.mk (show Kd.R (Kd.int .u8) 5 wr W3.heap.size (fun k_ => W3.heap.size ≤ k_) u8 t5 by rw [← HT5.out]; exact HO.out.2)
        clear HO
        obtain ⟨Ao, co, eo⟩ := Kd.R_slice HO'.out
        subst eo
        have HS := Aside0.mk (show ∀ w', Below W3.heap.size W3 w' → w'.cell? ⟨w.heap.size + 1, 5, none⟩ = some (.slice A1_6 l1_6.length c1_6) ∧ w'.cell? ⟨w.heap.size + 1, 6, none⟩ = some (.slice A1_7 l1_7.length c1_7) from fun w' hb => ⟨(hb.cell (p := ⟨w.heap.size + 1, 5, none⟩) (by have := HZ.out; show _ < _; simp; omega)).trans HD.out.1, (hb.cell (p := ⟨w.heap.size + 1, 6, none⟩) (by have := HZ.out; show _ < _; simp; omega)).trans HD.out.2⟩)
        have HQ6 := Aside0.mk (show ∀ wx W_ : World, Below W3.heap.size W3 wx → Kept wx W_ (fun k_ => W3.heap.size ≤ k_) → Kd.C (Kd.int .i64) W_ A1_6 l1_6.length l1_6 from fun wx W_ hb hk => Kd.C_kept_came (Kd.heap_int .i64) (Kd.C_below HR6.out HB0.out) hb (fun _ h => h) W_ hk)
        have HQ7 := Aside0.mk (show ∀ wx W_ : World, Below W3.heap.size W3 wx → Kept wx W_ (fun k_ => W3.heap.size ≤ k_) → Kd.C (Kd.int .i64) W_ A1_7 l1_7.length l1_7 from fun wx W_ hb hk => Kd.C_kept_came (Kd.heap_int .i64) (Kd.C_below HR7.out HB0.out) hb (fun _ h => h) W_ hk)
        go_wp2
        go_region_held3 (fun w' => w'.cell? ⟨w.heap.size + 1, 5, none⟩ = some (.slice A1_6 l1_6.length c1_6) ∧ w'.cell? ⟨w.heap.size + 1, 6, none⟩ = some (.slice A1_7 l1_7.length c1_7)) (exact HS.out _ (by repeat (first | exact HB2.out | exact HB1.out | exact HB.out | apply below_drew1 | apply pw_below_drewN))) (first | (go_at_call 41; refine (event_appendList.calls k (fun k_ => W3.heap.size ≤ k_) (.slice Ao t5.length co) t5 A1_6 c1_6 l1_6 t6 W3 _ ?s1 ?s2 ?s3 HC6.out HT6.out).mono ?_; (case s1 => repeat (first | exact HB.out | apply below_drew1 | apply pw_below_drewN)); (case s2 => repeat (first | exact HO'.out | apply Kd.R_drewN | apply Kd.R_drew)); (case s3 => exact fun W_ hk => HQ6.out _ W_ (by repeat (first | exact HB.out | apply below_drew1 | apply pw_below_drewN)) hk); rintro e w5 ⟨v5, rfl, ho, hb, hkp⟩; have HO1 := Aside0.mk (Kd.R_mono (ok' := fun k_ => W3.heap.size ≤ k_) (Kd.R_bound ho) (fun _ hk => hk.2.1)); have HB1 := Aside0.mk hb; clear ho hb hkp HT6) | (go_at_call 41; refine (event_appendList.calls k (fun k_ => W3.heap.size ≤ k_) _ t6 A1_7 c1_7 l1_7 r W3 _ ?s1 ?s2 ?s3 HC7.out HT7.out).mono ?_; (case s1 => repeat (first | exact HB1.out | apply below_drew1 | apply pw_below_drewN)); (case s2 => repeat (first | exact HO1.out | apply Kd.R_drewN | apply Kd.R_drew)); (case s3 => exact fun W_ hk => HQ7.out _ W_ (by repeat (first | exact HB1.out | apply below_drew1 | apply pw_below_drewN)) hk); rintro e w6 ⟨v6, rfl, ho, hb, hkp⟩; have HO2 := Aside0.mk (Kd.R_mono (ok' := fun k_ => W3.heap.size ≤ k_) (Kd.R_bound ho) (fun _ hk => hk.2.1)); have HB2 := Aside0.mk hb; clear ho hb hkp))
        all_goals
          go_wp2
          go_ret
          exact ⟨_, rfl, Kd.R_mono (Kd.R_lower HO2.out HB0.out.size) (fun _ _ => trivial), below_then HB0.out HB0.out.size HB2.out⟩
end Go.Proofs.Ytnmmkgagbfniiaa.A
end
section
namespace Go.Proofs.Ytnmmkgagbfniiaa.A
open Go.RowKit Go.Proofs.YtnmmkgagbfniiaaW.PrintWords Go.Proofs.YtnmmkgagbfniiaaW.PrintLast Go.Proofs.YtnmmkgagbfniiaaW.PrintMore
attribute [local go_sem] max2_int min2_int max_two min_two max_three min_three max_four min_four
set_option linter.unusedVariables false
set_option linter.unusedSimpArgs false
def interleaveref11_putList.l0 : Nat → List Int → List Int → Int → Int → Option (List Int)
  | 0, _, _, _, _ => none
  | k + 1, x0, x1, x5, x6 => if x6 < (x1.length : Int) then (if 0 ≤ x6 then ((interleaveref11_PutInt.f k x0 (wrap64 ((rd x1 x6) - x5))).bind fun t205 => (interleaveref11_putList.l0 k t205 x1 (rd x1 x6) (wrap64 (x6 + 1)))) else (none)) else (some x0)
def interleaveref11_putList.f (k : Nat) (l0 : List Int) (l1 : List Int) : Option (List Int) := (interleaveref11_PutInt.f k l0 (l1.length : Int)).bind fun t201 => (interleaveref11_putList.l0 k t201 l1 0 0)
theorem interleaveref11_putList.mono_l : ∀ k, (∀ y0 y1 y2 y3, LeO (interleaveref11_putList.l0 k y0 y1 y2 y3) (interleaveref11_putList.l0 (k + 1) y0 y1 y2 y3))
  | 0 => fun _ _ _ _ r h => by simp [interleaveref11_putList.l0] at h
  | k + 1 => by
    have ih0 := interleaveref11_putList.mono_l k
    · intro y0 y1 y2 y3
      unfold interleaveref11_putList.l0
      repeat' first
      | (with_reducible exact ih0 _ _ _ _)
      | (with_reducible exact interleaveref11_PutInt.mono _ _ _)
      | (with_reducible exact LeO.refl _)
      | (with_reducible exact LeO.none _)
      | (with_reducible refine LeO.ite ?_ ?_)
      | (with_reducible refine LeO.bind ?_ (fun _ => ?_))
      | exact ih0 _ _ _ _
      | exact interleaveref11_PutInt.mono _ _ _
      | exact LeO.none _
      | refine LeO.ite ?_ ?_
      | refine LeO.bind ?_ (fun _ => ?_)
theorem interleaveref11_putList.mono : ∀ a0 a1 k, LeO (interleaveref11_putList.f k a0 a1) (interleaveref11_putList.f (k + 1) a0 a1) := by
  intro a0 a1 k
  have ih0 := interleaveref11_putList.mono_l k
  unfold interleaveref11_putList.f
  repeat' first
      | (with_reducible exact ih0 _ _ _ _)
      | (with_reducible exact interleaveref11_PutInt.mono _ _ _)
      | (with_reducible exact LeO.refl _)
      | (with_reducible exact LeO.none _)
      | (with_reducible refine LeO.ite ?_ ?_)
      | (with_reducible refine LeO.bind ?_ (fun _ => ?_))
      | exact ih0 _ _ _ _
      | exact interleaveref11_PutInt.mono _ _ _
      | exact LeO.none _
      | refine LeO.ite ?_ ?_
      | refine LeO.bind ?_ (fun _ => ?_)
set_option maxHeartbeats 8000000 in
set_option maxRecDepth 100000 in
theorem interleaveref11_putList.calls (k : Nat) (A0 : Option Addr) (c0 : Nat) (l0 : List Int) (A1 : Option Addr) (c1 : Nat) (l1 : List Int) (r : List Int) (w : World) (hr0 : Kd.C (Kd.int .u8) w A0 l0.length l0) (hc0 : l0.length ≤ c0) (hr1 : Kd.C (Kd.int .i64) w A1 l1.length l1) (hc1 : l1.length ≤ c1) (h : interleaveref11_putList.f k l0 l1 = some r) :
    Calls Try.prog 46 #[.slice A0 l0.length c0, .slice A1 l1.length c1] w fun e w' => ∃ v0_ : Value, e = .returned (v0_) ∧ Kd.R (Kd.int .u8) 5 w' w.heap.size (fun _ => True) v0_ r ∧ Below w.heap.size w w' := by
  have HR0 := Aside0.mk hr0
  have HC0 := Aside0.mk hc0
  clear hr0 hc0
  have HR1 := Aside0.mk hr1
  have HC1 := Aside0.mk hc1
  clear hr1 hc1
  have HB := Aside0.mk (Below.refl w.heap.size w)
  have H : ((interleaveref11_PutInt.f k l0 (l1.length : Int)).bind fun t201 => (interleaveref11_putList.l0 k t201 l1 0 0)) = some r := h
  clear h
  replace H := Option.bind_eq_some_iff.mp H
  obtain ⟨t201, A30, H⟩ := H
  replace H : (interleaveref11_putList.l0 k t201 l1 0 0) = some r := H
  have A3 := Aside0.mk A30
  clear A30
  have H' := Aside0.mk H
  clear H
  go_enter Try.func46, Try.ntmps46
  go_wp2_with (first | ((with_reducible refine gate_callee (f := 45) rfl ?_); refine goesL_ (some 10) rfl rfl Try.func45 (by kernel_rfl) rfl #[.slice A0 l0.length c0, .int .i64 (l1.length : Int)] rfl (by (try simp only [List.map_toArray, List.map_cons, List.map_nil]); first | done | rfl | (simp only [List.length_drop, List.length_take]; rfl)) ?_; (with_reducible refine (interleaveref11_PutInt.calls k _ _ l0 (l1.length : Int) t201 _ ?side1 ?side2 A3.out).mono ?_); (case side1 => repeat (first | exact HR0.out | (with_reducible refine Kd.C_alloc ?_ _) | (with_reducible refine Kd.C_drewN ?_ _) | (with_reducible refine Kd.C_drew ?_))); (case side2 => exact HC0.out); rintro e w4 ⟨v202, rfl, ho0, hb⟩; refine ⟨_, rfl, ?_⟩; have n0_ := Aside0.mk (Kd.R_lower ho0 (below_size (by repeat (first | (with_reducible first | exact HB.out | apply below_alloc | apply pw_below_drewN | apply below_drew1) | exact HB.out)))); have n1_ := Aside0.mk (below_step (by repeat (first | (with_reducible first | exact HB.out | apply below_alloc | apply pw_below_drewN | apply below_drew1) | exact HB.out)) hb); clear HB; have HO203 := n0_; have HB := n1_; clear n0_ n1_; (try clear hb); (try clear hb2); (try clear hk); (try clear hi); (try clear ho0)))
  go_loopg [0, 5, 6] k (fun kq v0 v5 v6 w' => ∃ (x0_1 : List Int) (x5_1 : Int) (x6_1 : Int), v5 = .int .i64 x5_1 ∧ v6 = .int .i64 x6_1 ∧ Aside0 (interleaveref11_putList.l0 kq x0_1 l1 x5_1 x6_1 = some r) ∧ Aside0 (kq ≤ k) ∧ Aside0 (Kd.R (Kd.int .u8) 5 w' w.heap.size (fun _ => True) v0 x0_1) ∧ Aside0 (Below w.heap.size w w'))
  case atStart => exact ⟨(t201), (0), (0), (by first | rfl | (simp; done) | (simp [*]; done)), (by first | rfl | (simp; done) | (simp [*]; done)), H', ⟨Nat.le_refl _⟩, ⟨by (with_reducible repeat (first | apply Kd.R_alloc | apply Kd.R_drewN | apply Kd.R_drew)); exact HO203.out⟩, ⟨by repeat (first | (with_reducible first | exact HB.out | apply below_alloc | apply pw_below_drewN | apply below_drew1) | exact HB.out)⟩⟩
  case round =>
    clear H'
    try clear c1
    try clear p2
    try clear c4
    obtain ⟨x0_1, x5_1, x6_1, rfl, rfl, HA, HK1, HO_0, HB⟩ := hrel
    cases gk with
    | zero => exact absurd HA.out (by simp [interleaveref11_putList.l0])
    | succ k1 =>
      have H := HA.out
      clear HA
      simp only [interleaveref11_putList.l0] at H
      by_cases c5 : x6_1 < (l1.length : Int)
      · rw [if_pos c5] at H
        have c5b0 : decide (x6_1 < (l1.length : Int)) = true := decide_eq_true c5
        clear c5
        by_cases c6 : 0 ≤ x6_1
        · rw [if_pos c6] at H
          have c6b0 : decide (0 ≤ x6_1) = true := decide_eq_true c6
          clear c6
          replace H := Option.bind_eq_some_iff.mp H
          obtain ⟨t205, A70, H⟩ := H
          replace H : (interleaveref11_putList.l0 k1 t205 l1 (rd l1 x6_1) (wrap64 (x6_1 + 1))) = some r := H
          have A7 := Aside0.mk A70
          clear A70
          have H' := Aside0.mk H
          clear H
          have p204 : 0 ≤ (x6_1 : Int) := of_decide_eq_true (by first | (with_reducible assumption) | assumption)
          have q204 : x6_1 < (l1.length : Int) := of_decide_eq_true (by first | (with_reducible assumption) | assumption)
          obtain ⟨ad204, e204, hx204_0⟩ := Kd.at_int HR1.out x6_1 p204 q204
          cases e204
          replace hx204_0 := (HB.out.cell (World.block_lt_of_cell? w _ hx204_0)).trans hx204_0
          replace p204 := eq_true p204
          replace q204 := eq_true q204
          obtain ⟨Ao8, co8, eo8⟩ := Kd.R_slice HO_0.out
          subst eo8
          go_wp2_with (first | ((with_reducible refine gate_callee (f := 45) rfl ?_); refine goesL_ (some 24) rfl rfl Try.func45 (by kernel_rfl) rfl #[.slice Ao8 x0_1.length co8, .int .i64 (wrap64 ((rd l1 x6_1) - x5_1))] rfl (by (try simp only [List.map_toArray, List.map_cons, List.map_nil]); first | done | rfl | (simp only [List.length_drop, List.length_take]; rfl)) ?_; (with_reducible refine (interleaveref11_PutInt.calls k1 _ _ x0_1 (wrap64 ((rd l1 x6_1) - x5_1)) t205 _ ?side1 ?side2 A7.out).mono ?_); (case side1 => repeat (first | exact (Kd.R_reads' HO_0.out).2.2 | (with_reducible refine Kd.C_alloc ?_ _) | (with_reducible refine Kd.C_drewN ?_ _) | (with_reducible refine Kd.C_drew ?_))); (case side2 => exact (Kd.R_reads' HO_0.out).2.1); rintro e w9 ⟨v206, rfl, ho0, hb⟩; refine ⟨_, rfl, ?_⟩; have n0_ := Aside0.mk (Kd.R_elder' (by (with_reducible repeat (first | apply Kd.R_alloc | apply Kd.R_drewN | apply Kd.R_drew)); exact HO_0.out) (Kd.R_base ho0) hb); have n1_ := Aside0.mk (Kd.R_lower (Kd.R_new' ho0 (Kd.R_lt (by (with_reducible repeat (first | apply Kd.R_alloc | apply Kd.R_drewN | apply Kd.R_drew)); exact HO_0.out))) (below_size (by repeat (first | (with_reducible first | exact HB.out | apply below_alloc | apply pw_below_drewN | apply below_drew1) | exact HB.out)))); have n2_ := Aside0.mk (below_step (by repeat (first | (with_reducible first | exact HB.out | apply below_alloc | apply pw_below_drewN | apply below_drew1) | exact HB.out)) hb); clear HO_0; clear HB; have HO_0 := n0_; have HO207 := n1_; have HB := n2_; clear n0_ n1_ n2_; (try clear hb); (try clear hb2); (try clear hk); (try clear hi); (try clear ho0); have p208 : 0 ≤ (x6_1 : Int) := of_decide_eq_true (by first | (with_reducible assumption) | assumption); have q208 : x6_1 < (l1.length : Int) := of_decide_eq_true (by first | (with_reducible assumption) | assumption); obtain ⟨ad208, e208, hx208_0⟩ := Kd.at_int HR1.out x6_1 p208 q208; obtain rfl : ad204 = ad208 := (by injection e208); replace hx208_0 := (HB.out.cell (World.block_lt_of_cell? w _ hx208_0)).trans hx208_0; replace p208 := eq_true p208; replace q208 := eq_true q208))
          go_roundg k1
          case measure => have := HK1.out; omega
          case rel => exact ⟨(t205), (rd l1 x6_1), (wrap64 (x6_1 + 1)), (by first | rfl | (simp; done) | (simp [*]; done)), (by first | rfl | (simp; done) | (simp [*]; done)), H', ⟨by have := HK1.out; omega⟩, ⟨by (with_reducible repeat (first | apply Kd.R_alloc | apply Kd.R_drewN | apply Kd.R_drew)); exact Kd.R_mono HO207.out (fun _ hk => trivial)⟩, ⟨by repeat (first | (with_reducible first | exact HB.out | apply below_alloc | apply pw_below_drewN | apply below_drew1) | exact HB.out)⟩⟩
        · rw [if_neg c6] at H
          exact absurd H (by simp)
      · rw [if_neg c5] at H
        have c5b0 : decide (x6_1 < (l1.length : Int)) = false := decide_eq_false c5
        clear c5
        obtain rfl := Option.some.inj H
        go_wp2
        go_ret
        exact ⟨_, by first | rfl | (simp [errW_none, errW_some] <;> rfl) | (simp [*, errW_none, errW_some] <;> rfl), by (with_reducible repeat (first | apply Kd.R_alloc | apply Kd.R_drewN | apply Kd.R_drew)); exact HO_0.out, by repeat (first | (with_reducible first | exact HB.out | apply below_alloc | apply pw_below_drewN | apply below_drew1) | exact HB.out)⟩
end Go.Proofs.Ytnmmkgagbfniiaa.A
end
