/- MRecordErrors9: texts of this session and of the kit's printer on the road to the statement RecordErrors, laid into one and rid of what it doesn't need. No condition beyond what each fact names. -/
import Derived.Test.YtnmmkgagbfniiaaMRecordErrors3
import Derived.Test.YtnmmkgagbfniiaaMRecordErrors2
import Derived.Test.YtnmmkgagbfniiaaMRecordErrors4
import Derived.Test.YtnmmkgagbfniiaaMRecordErrors5
import Derived.Test.YtnmmkgagbfniiaaMRecordErrors8
section
namespace Go.Proofs.Ytnmmkgagbfniiaa.A
open Go.RowKit Go.Proofs.YtnmmkgagbfniiaaW.PrintWords Go.Proofs.YtnmmkgagbfniiaaW.PrintLast Go.Proofs.YtnmmkgagbfniiaaW.PrintMore
attribute [local go_sem] max2_int min2_int max_two min_two max_three min_three max_four min_four
set_option linter.unusedVariables false
set_option linter.unusedSimpArgs false
structure record_recorder.St (w0 : World) (gx : Nat) (pa pb pc pd : Value) (T : Nat) (bufs : List (List S26)) (first : List Int) (files : List (List Int)) (gb cb gf cf gs cs : Nat) (W : World) : Prop where
 x : W.heap[gx]? = some (.cells #[pa, pb, pc, pd, .slice (some ⟨gb, 0, none⟩) T cb, .slice (some ⟨gf, 0, none⟩) T cf, .slice (some ⟨gs, 0, none⟩) T cs] 107 (0, 0))
 b : Kd.S (Kd.slice 26 (Kd.fixed k26 w0)) 40 W w0.heap.size (fun _ => True) (.slice (some ⟨gb, 0, none⟩) T cb) bufs
 f : Kd.R (Kd.int .i64) 3 W w0.heap.size (fun _ => True) (.slice (some ⟨gf, 0, none⟩) T cf) first
 s : Kd.S (Kd.slice 5 (Kd.int .u8)) 27 W w0.heap.size (fun _ => True) (.slice (some ⟨gs, 0, none⟩) T cs) files
 B : Below w0.heap.size w0 W
 g : w0.heap.size ≤ gx
section
variable {w0 W w1 : World} {gx T gb cb gf cf gs cs : Nat} {pa pb pc pd : Value} {bufs : List (List S26)} {first : List Int} {files : List (List Int)}
theorem record_recorder.St.below (h : record_recorder.St w0 gx pa pb pc pd T bufs first files gb cb gf cf gs cs W) (hb : Below W.heap.size W w1) : record_recorder.St w0 gx pa pb pc pd T bufs first files gb cb gf cf gs cs w1 :=
 ⟨blk_below h.x hb, Kd.S_below h.b hb, Kd.R_below h.f hb, Kd.S_below h.s hb, below_step h.B hb, h.g⟩
theorem record_recorder.St.drew (h : record_recorder.St w0 gx pa pb pc pd T bufs first files gb cb gf cf gs cs W) : record_recorder.St w0 gx pa pb pc pd T bufs first files gb cb gf cf gs cs W.drew := h.below (below_drew (Below.refl _ _))
theorem record_recorder.St.len (h : record_recorder.St w0 gx pa pb pc pd T bufs first files gb cb gf cf gs cs W) : T = bufs.length ∧ T = first.length ∧ T = files.length := ⟨(Kd.S_reads' h.b).1, (Kd.R_reads' h.f).1, (Kd.S_reads' h.s).1⟩
theorem record_recorder.St.typ (h : record_recorder.St w0 gx pa pb pc pd T bufs first files gb cb gf cf gs cs W) : (∃ c, W.heap[gb]? = some (.cells c 40 (0, 0))) ∧ (∃ c, W.heap[gf]? = some (.cells c 3 (0, 0))) ∧ (∃ c, W.heap[gs]? = some (.cells c 27 (0, 0))) := ⟨Kd.S_typed h.b gb rfl, Kd.R_typed h.f gf rfl, Kd.S_typed h.s gs rfl⟩
theorem record_recorder.St.ge (h : record_recorder.St w0 gx pa pb pc pd T bufs first files gb cb gf cf gs cs W) : w0.heap.size ≤ gb ∧ w0.heap.size ≤ gf ∧ w0.heap.size ≤ gs := ⟨Kd.S_base h.b gb rfl, Kd.R_base h.f gf rfl, Kd.S_base h.s gs rfl⟩
theorem record_recorder.St.cells (h : record_recorder.St w0 gx pa pb pc pd T bufs first files gb cb gf cf gs cs W) {t : Int} (h0 : 0 ≤ t) (h1 : t < (T : Int)) :
  W.cell? ⟨gx, 4, none⟩ = some (.slice (some ⟨gb, 0, none⟩) T cb) ∧ W.cell? ⟨gx, 5, none⟩ = some (.slice (some ⟨gf, 0, none⟩) T cf) ∧ W.cell? ⟨gx, 6, none⟩ = some (.slice (some ⟨gs, 0, none⟩) T cs) ∧ W.cell? ⟨gf, t.toNat, none⟩ = some (.int .i64 (rd first t)) ∧ W.frozen? ⟨gf, t.toNat, none⟩ = false := by
 obtain ⟨hl1, hl2, hl3⟩ := h.len
 have hf := h.f
 rw [hl2] at hf
 obtain ⟨h2, h3⟩ := Kd.R_cell (0 : Int) hf t h0 (by omega)
 exact ⟨(blk_cell h.x 4).trans rfl, (blk_cell h.x 5).trans rfl, (blk_cell h.x 6).trans rfl, h2, h3⟩
theorem record_recorder.St.setF (h : record_recorder.St w0 gx pa pb pc pd T bufs first files gb cb gf cf gs cs W) (t : Int) (x : Int) : record_recorder.St w0 gx pa pb pc pd T bufs (first.set t.toNat x) files gb cb gf cf gs cs (W.setCell ⟨gf, t.toNat, none⟩ (.int .i64 x)) := by
 obtain ⟨hl1, hl2, hl3⟩ := h.len
 obtain ⟨⟨c1, t1⟩, ⟨c2, t2⟩, ⟨c3, t3⟩⟩ := h.typ
 have hf := h.f
 rw [hl2] at hf
 have hf2 := (Kd.R_put hf t x).1
 rw [← hl2] at hf2
 exact y29
theorem record_recorder.St.setB (h : record_recorder.St w0 gx pa pb pc pd T bufs first files gb cb gf cf gs cs W) {t : Int} {oki : Nat → Prop} {vi v1 : Value} {ys : List S26} (hH : Kd.H (Kd.slice 26 (Kd.fixed k26 w0)) 40 W w0.heap.size (fun _ => True) (.slice (some ⟨gb, 0, none⟩) T cb) bufs t oki [vi]) (h0 : 0 ≤ t) (h1 : t < (T : Int)) (hne : ∀ k, oki k → k ≠ gb)
  (hg : W.grownBy w1 vi.ownBlock) (hB : Below w0.heap.size w0 w1) (hR0 : (Kd.fixed k26 w0).R 26 W w0.heap.size oki vi (bufs.getD t.toNat [])) (hR : (Kd.fixed k26 w0).R 26 w1 w0.heap.size (fun k => oki k ∨ W.heap.size ≤ k) v1 ys) : record_recorder.St w0 gx pa pb pc pd T (bufs.set t.toNat ys) first files gb cb gf cf gs cs (w1.setCell ⟨gb, t.toNat, none⟩ v1) := by
 obtain ⟨⟨c1, t1⟩, ⟨c2, t2⟩, ⟨c3, t3⟩⟩ := h.typ
 have hty := Kd.R_typed hR0
 have ne : ∀ {g ty : Nat} {c : Array Value}, W.heap[g]? = some (.cells c ty (0, 0)) → ty ≠ 26 → some g ≠ vi.ownBlock := fun hb hn he => by obtain ⟨c', hc⟩ := hty _ he.symm; exact blk_ne hb hc hn rfl
 have t1' := blk_grown t1 hg (ne t1 (by decide))
 have t3' := blk_grown t3 hg (ne t3 (by decide))
 have x' := blk_grown h.x hg (ne h.x (by decide))
 exact y24
theorem record_recorder.St.setS (h : record_recorder.St w0 gx pa pb pc pd T bufs first files gb cb gf cf gs cs W) {t : Int} {oki : Nat → Prop} {vi v1 : Value} {ys : List Int} (hH : Kd.H (Kd.slice 5 (Kd.int .u8)) 27 W w0.heap.size (fun _ => True) (.slice (some ⟨gs, 0, none⟩) T cs) files t oki [vi]) (h0 : 0 ≤ t) (h1 : t < (T : Int)) (hne : ∀ k, oki k → k ≠ gs)
  (hg : W.grownBy w1 vi.ownBlock) (hB : Below w0.heap.size w0 w1) (hR0 : (Kd.int .u8).R 5 W w0.heap.size oki vi (files.getD t.toNat [])) (hR : (Kd.int .u8).R 5 w1 w0.heap.size (fun k => oki k ∨ W.heap.size ≤ k) v1 ys) : record_recorder.St w0 gx pa pb pc pd T bufs first (files.set t.toNat ys) gb cb gf cf gs cs (w1.setCell ⟨gs, t.toNat, none⟩ v1) := by
 obtain ⟨⟨c1, t1⟩, ⟨c2, t2⟩, ⟨c3, t3⟩⟩ := h.typ
 have hty := Kd.R_typed hR0
 have ne : ∀ {g ty : Nat} {c : Array Value}, W.heap[g]? = some (.cells c ty (0, 0)) → ty ≠ 5 → some g ≠ vi.ownBlock := fun hb hn he => by obtain ⟨c', hc⟩ := hty _ he.symm; exact blk_ne hb hc hn rfl
 have t3' := blk_grown t3 hg (ne t3 (by decide))
 have x' := blk_grown h.x hg (ne h.x (by decide))
 exact y17
end
set_option maxHeartbeats 4000000 in
set_option maxRecDepth 100000 in
theorem record_recorder.write (k : Nat) (t : Int) (w0 W : World) (gx : Nat) (pa pb pc pd : Value) (T : Nat) (bufs : List (List S26)) (first : List Int) (files : List (List Int)) (gb cb gf cf gs cs : Nat) (r : List (List S26) × List Int × List (List Int)) (hS : record_recorder.St w0 gx pa pb pc pd T bufs first files gb cb gf cf gs cs W) (h0 : 0 ≤ t) (h1 : t < (T : Int))
  (h : wrF block_Encode.f k t bufs first files = some r) :
  Calls Try.prog 81 #[.pointer (some ⟨gx, 0, none⟩), .int .i64 t] W fun e W' => e = .returned (.tuple #[]) ∧ record_recorder.St w0 gx pa pb pc pd T r.1 r.2.1 r.2.2 gb cb gf cf gs cs W' := by
 have HS := am hS
 have HT := am (And.intro h0 h1)
 obtain ⟨oki, A, c, he1, he2, heR, heH, hne⟩ := ow_elem hS.b t h0 h1
 unfold wrF at h
 obtain ⟨bt, hbt⟩ : ∃ bt, bufs.getD t.toNat [] = bt := ⟨_, rfl⟩
 obtain ⟨ft, hft⟩ : ∃ ft, files.getD t.toNat [] = ft := ⟨_, rfl⟩
 obtain ⟨n0, hn0⟩ : ∃ n0, rd first t = n0 := ⟨_, rfl⟩
 obtain ⟨hv1, hv2, hv3, hv4, hv5⟩ := hS.cells h0 h1
 have HBT := am hbt
 have HFT := am hft
 have HN0 := am hn0
 rw [hbt] at h he1 heR heH
 rw [hft, hn0] at h
 rw [hn0] at hv4
 have HER := am heR
 have HEH := am heH
 have HNE := am hne
 have HF5 := am hv5
 have hm : Try.prog.follows .mixedOrders = true := by kernel_rfl
 have p1 := eq_true h0
 have p2 := eq_true h1
 clear hS heR heH hne hbt hft hn0 hv5 he2 h0 h1
 by_cases cz : bt.length = 0
 ·
  rw [if_pos cz] at h
  obtain rfl := Option.some.inj h
  have c0 : ((bt.length : Int) == 0) = true := by simp [cz]
  clear h cz
  go_enter Try.func81, Try.ntmps81
  go_wp2
  refine bodyPost_ret (results_none rfl _ _ _) rfl ?_
  exact ⟨rfl, HS.out⟩
 rw [if_neg cz] at h
 have c0 : ((bt.length : Int) == 0) = false := by simp; exact fun h => cz (by rw [h]; rfl)
 obtain ⟨⟨q1, q2⟩, hq, h⟩ := Option.bind_eq_some_iff.mp h
 dsimp only at h
 have HQ := am hq
 by_cases cl : ft.length + q1.length < 140737488355328
 rotate_left
 ·
  rw [if_neg cl] at h
  cases h
 rw [if_pos cl] at h
 have HLM := am cl
 have HH := am (Option.some.inj h)
 obtain ⟨hx1, hx2, hx3⟩ := ow_fixedC HER.out HS.out.B
 have HEC := am hx3
 have HEL := am hx2
 clear cz hq h cl hx1 hx2 hx3
 go_enter Try.func81, Try.ntmps81
 go_wp2
 refine start_ (n := 22) (S := fun w' => w'.cell? ⟨gx, 4, none⟩ = some (.slice (some ⟨gb, 0, none⟩) T cb) ∧ w'.cell? ⟨gx, 5, none⟩ = some (.slice (some ⟨gf, 0, none⟩) T cf) ∧ w'.cell? ⟨gf, t.toNat, none⟩ = some (.int .i64 n0) ∧ w'.cell? ⟨gb, t.toNat, none⟩ = some (.slice A bt.length c)) (ds := [16]) #[false, false, false, false, false, false, false, false, false, false, false, false, false, false, false, false, false, false, false, false, false, false] (by kernel_rfl) rfl rfl ⟨hv1, hv2, hv4, he1⟩ (fun hHeld => ?_)
 have HS1 := am HS.out.drew
 replace HEC := am (Kd.C_below HEC.out (below_drew (Below.refl _ _)))
 clear HS HER HEH HNE he1 hv1 hv2 hv3 hv4 HF5
 generalize W.drew = W1 at HS1 HEC hHeld ⊢
 refine pure_ (i := 0) (N := some 16) (v := ?_) (a' := ?_) #[true, false, false, false, false, false, false, false, false, false, false, false, false, false, false, false, false, false, false, false, false, false] rfl rfl (by kernel_rfl) (fun _ _ _ h => h) (Or.inl ⟨by rfl, ?_⟩) ?_ ?_
 rotate_left
 ·
  intro w'
  go_simp
  with_reducible rfl
 rotate_left
 ·
  simp only [Act.put, List.setIfInBounds_toArray, List.set_cons_zero, List.set_cons_succ, i64_w, i32_w]
  rfl
 refine pure_ (i := 1) (N := some 17) (v := ?_) (a' := ?_) #[true, true, false, false, false, false, false, false, false, false, false, false, false, false, false, false, false, false, false, false, false, false] rfl rfl (by kernel_rfl) (fun _ _ _ h => h) (Or.inl ⟨by rfl, ?_⟩) ?_ ?_
 rotate_left
 ·
  intro w'
  go_simp
  with_reducible rfl
 rotate_left
 ·
  simp only [Act.put, List.setIfInBounds_toArray, List.set_cons_zero, List.set_cons_succ, i64_w, i32_w]
  rfl
 refine pure_ (i := 2) (N := some 18) (v := ?_) (a' := ?_) #[true, true, true, false, false, false, false, false, false, false, false, false, false, false, false, false, false, false, false, false, false, false] rfl rfl (by kernel_rfl) (fun _ _ _ h => h) (Or.inl ⟨by rfl, ?_⟩) ?_ ?_
 rotate_left
 ·
  intro w'
  go_simp
  with_reducible rfl
 rotate_left
 ·
  simp only [Act.put, List.setIfInBounds_toArray, List.set_cons_zero, List.set_cons_succ, i64_w, i32_w]
  rfl
 refine pure_ (i := 3) (N := some 19) (v := ?_) (a' := ?_) #[true, true, true, true, false, false, false, false, false, false, false, false, false, false, false, false, false, false, false, false, false, false] rfl rfl (by kernel_rfl) (fun _ _ _ h => h) (Or.inl ⟨by rfl, ?_⟩) ?_ ?_
 rotate_left
 ·
  intro w'
  go_simp
  with_reducible rfl
 rotate_left
 ·
  simp only [Act.put, List.setIfInBounds_toArray, List.set_cons_zero, List.set_cons_succ, i64_w, i32_w]
  rfl
 refine pure_ (i := 5) (N := some 21) (v := ?_) (a' := ?_) #[true, true, true, true, false, true, false, false, false, false, false, false, false, false, false, false, false, false, false, false, false, false] rfl rfl (by kernel_rfl) (fun _ _ _ h => h) (Or.inl ⟨by rfl, ?_⟩) ?_ ?_
 rotate_left
 ·
  intro w'
  go_simp
  with_reducible rfl
 rotate_left
 ·
  simp only [Act.put, List.setIfInBounds_toArray, List.set_cons_zero, List.set_cons_succ, i64_w, i32_w]
  rfl
 refine pure_ (i := 8) (N := some 24) (v := ?_) (a' := ?_) #[true, true, true, true, false, true, false, false, true, false, false, false, false, false, false, false, false, false, false, false, false, false] rfl rfl (by kernel_rfl) (fun _ _ _ h => h) (Or.inl ⟨by rfl, ?_⟩) ?_ ?_
 rotate_left
 ·
  intro w'
  go_simp
  with_reducible rfl
 rotate_left
 ·
  simp only [Act.put, List.setIfInBounds_toArray, List.set_cons_zero, List.set_cons_succ, i64_w, i32_w]
  rfl
 refine pure_ (i := 9) (N := some 25) (v := ?_) (a' := ?_) #[true, true, true, true, false, true, false, false, true, true, false, false, false, false, false, false, false, false, false, false, false, false] rfl rfl (by kernel_rfl) (fun _ _ _ h => h) (Or.inl ⟨by rfl, ?_⟩) ?_ ?_
 rotate_left
 ·
  intro w'
  go_simp
  with_reducible rfl
 rotate_left
 ·
  simp only [Act.put, List.setIfInBounds_toArray, List.set_cons_zero, List.set_cons_succ, i64_w, i32_w]
  rfl
 refine pure_ (i := 10) (N := some 26) (v := ?_) (a' := ?_) #[true, true, true, true, false, true, false, false, true, true, true, false, false, false, false, false, false, false, false, false, false, false] rfl rfl (by kernel_rfl) (fun _ _ _ h => h) (Or.inl ⟨by rfl, ?_⟩) ?_ ?_
 rotate_left
 ·
  intro w'
  go_simp
  with_reducible rfl
 rotate_left
 ·
  simp only [Act.put, List.setIfInBounds_toArray, List.set_cons_zero, List.set_cons_succ, i64_w, i32_w]
  rfl
 refine pure_ (i := 12) (N := some 28) (v := ?_) (a' := ?_) #[true, true, true, true, false, true, false, false, true, true, true, false, true, false, false, false, false, false, false, false, false, false] rfl rfl (by kernel_rfl) (fun _ _ _ h => h) (Or.inl ⟨by rfl, ?_⟩) ?_ ?_
 rotate_left
 ·
  intro w'
  go_simp
  with_reducible rfl
 rotate_left
 ·
  simp only [Act.put, List.setIfInBounds_toArray, List.set_cons_zero, List.set_cons_succ, i64_w, i32_w]
  rfl
 refine take_ (i := 4) (N := some 20) (v := ?_) (a' := ?_) #[true, true, true, true, true, true, false, false, true, true, true, false, true, false, false, false, false, false, false, false, false, false] rfl rfl (by kernel_rfl) (fun _ _ _ h => h) (Or.inl ⟨by rfl, ?_⟩) hHeld ?_ ?_
 rotate_left
 ·
  rintro w' ⟨s0, s1, s2, s3⟩
  go_simp
  with_reducible rfl
 rotate_left
 ·
  simp only [Act.put, List.setIfInBounds_toArray, List.set_cons_zero, List.set_cons_succ, i64_w, i32_w]
  rfl
 refine pure_ (i := 6) (N := some 22) (v := ?_) (a' := ?_) #[true, true, true, true, true, true, true, false, true, true, true, false, true, false, false, false, false, false, false, false, false, false] rfl rfl (by kernel_rfl) (fun _ _ _ h => h) (Or.inl ⟨by rfl, ?_⟩) ?_ ?_
 rotate_left
 ·
  intro w'
  go_simp
  with_reducible rfl
 rotate_left
 ·
  simp only [Act.put, List.setIfInBounds_toArray, List.set_cons_zero, List.set_cons_succ, i64_w, i32_w]
  rfl
 refine take_ (i := 7) (N := some 23) (v := ?_) (a' := ?_) #[true, true, true, true, true, true, true, true, true, true, true, false, true, false, false, false, false, false, false, false, false, false] rfl rfl (by kernel_rfl) (fun _ _ _ h => h) (Or.inl ⟨by rfl, ?_⟩) hHeld ?_ ?_
 rotate_left
 ·
  rintro w' ⟨s0, s1, s2, s3⟩
  go_simp
  with_reducible rfl
 rotate_left
 ·
  simp only [Act.put, List.setIfInBounds_toArray, List.set_cons_zero, List.set_cons_succ, i64_w, i32_w]
  rfl
 refine take_ (i := 11) (N := some 27) (v := ?_) (a' := ?_) #[true, true, true, true, true, true, true, true, true, true, true, true, true, false, false, false, false, false, false, false, false, false] rfl rfl (by kernel_rfl) (fun _ _ _ h => h) (Or.inl ⟨by rfl, ?_⟩) hHeld ?_ ?_
 rotate_left
 ·
  rintro w' ⟨s0, s1, s2, s3⟩
  go_simp
  with_reducible rfl
 rotate_left
 ·
  simp only [Act.put, List.setIfInBounds_toArray, List.set_cons_zero, List.set_cons_succ, i64_w, i32_w]
  rfl
 refine pure_ (i := 13) (N := some 29) (v := ?_) (a' := ?_) #[true, true, true, true, true, true, true, true, true, true, true, true, true, true, false, false, false, false, false, false, false, false] rfl rfl (by kernel_rfl) (fun _ _ _ h => h) (Or.inl ⟨by rfl, ?_⟩) ?_ ?_
 rotate_left
 ·
  intro w'
  go_simp
  with_reducible rfl
 rotate_left
 ·
  simp only [Act.put, List.setIfInBounds_toArray, List.set_cons_zero, List.set_cons_succ, i64_w, i32_w]
  rfl
 refine take_ (i := 14) (N := some 30) (v := ?_) (a' := ?_) #[true, true, true, true, true, true, true, true, true, true, true, true, true, true, true, false, false, false, false, false, false, false] rfl rfl (by kernel_rfl) (fun _ _ _ h => h) (Or.inl ⟨by rfl, ?_⟩) hHeld ?_ ?_
 rotate_left
 ·
  rintro w' ⟨s0, s1, s2, s3⟩
  go_simp
  with_reducible rfl
 rotate_left
 ·
  simp only [Act.put, List.setIfInBounds_toArray, List.set_cons_zero, List.set_cons_succ, i64_w, i32_w]
  rfl
 refine pure_ (i := 15) (N := some 31) (v := ?_) (a' := ?_) #[true, true, true, true, true, true, true, true, true, true, true, true, true, true, true, true, false, false, false, false, false, false] rfl rfl (by kernel_rfl) (fun _ _ _ h => h) (Or.inl ⟨by rfl, ?_⟩) ?_ ?_
 rotate_left
 ·
  intro w'
  go_simp
  with_reducible rfl
 rotate_left
 ·
  simp only [Act.put, List.setIfInBounds_toArray, List.set_cons_zero, List.set_cons_succ, i64_w, i32_w]
  rfl
 refine last_ (i := 16) (N := some 32) #[true, true, true, true, true, true, true, true, true, true, true, true, true, true, true, true, true, false, false, false, false, false] rfl rfl (by kernel_rfl) (by decide) (fun K hK => ?_)
 refine goes_ Try.func21 (by kernel_rfl) rfl #[.agg #[.int .i64 t, .int .i64 n0, .slice A bt.length c]] (by rfl) rfl rfl (by simp only [List.map_toArray, List.map_cons, List.map_nil]; rfl) ?_
 with_reducible refine (block_Encode.calls k t n0 A c bt q1 q2 _ (HEC.out) HEL.out HQ.out).mono ?_
 rintro e w2 ⟨v2, rfl, hr2, hb2⟩
 refine ⟨_, rfl, ?_⟩
 obtain ⟨A2, c2, e2⟩ := Kd.R_slice hr2
 subst e2
 have HR2 := am (Kd.R_lower hr2 HS1.out.B.size)
 have HS2 := am (HS1.out.below hb2)
 clear hr2 hb2
 refine hK.out _ _ ?_
 clear hK K
 refine norm_ (a' := ?_) ?_ ?_
 rotate_left
 ·
  show Act.put _ (some 32) _ = _
  simp only [Act.put, List.setIfInBounds_toArray, List.set_cons_zero, List.set_cons_succ, i64_w, i32_w]
  rfl
 refine pure_ (i := 17) (N := some 15) (v := ?_) (a' := ?_) #[true, true, true, true, true, true, true, true, true, true, true, true, true, true, true, true, true, true, false, false, false, false] rfl rfl (by kernel_rfl) (fun _ _ _ h => h) (Or.inl ⟨by rfl, ?_⟩) ?_ ?_
 rotate_left
 ·
  intro w'
  go_simp
  with_reducible rfl
 rotate_left
 ·
  simp only [Act.put, List.setIfInBounds_toArray, List.set_cons_zero, List.set_cons_succ, i64_w, i32_w]
  rfl
 refine pure_ (i := 18) (N := some 33) (v := ?_) (a' := ?_) #[true, true, true, true, true, true, true, true, true, true, true, true, true, true, true, true, true, true, true, false, false, false] rfl rfl (by kernel_rfl) (fun _ _ _ h => h) (Or.inl ⟨by rfl, ?_⟩) ?_ ?_
 rotate_left
 ·
  intro w'
  go_simp
  with_reducible rfl
 rotate_left
 ·
  simp only [Act.put, List.setIfInBounds_toArray, List.set_cons_zero, List.set_cons_succ, i64_w, i32_w]
  rfl
 refine pure_ (i := 19) (N := some 34) (v := ?_) (a' := ?_) #[true, true, true, true, true, true, true, true, true, true, true, true, true, true, true, true, true, true, true, true, false, false] rfl rfl (by kernel_rfl) (fun _ _ _ h => h) (Or.inl ⟨by rfl, ?_⟩) ?_ ?_
 rotate_left
 ·
  intro w'
  go_simp
  with_reducible rfl
 rotate_left
 ·
  simp only [Act.put, List.setIfInBounds_toArray, List.set_cons_zero, List.set_cons_succ, i64_w, i32_w]
  rfl
 refine pure_ (i := 20) (N := some 4) (v := ?_) (a' := ?_) #[true, true, true, true, true, true, true, true, true, true, true, true, true, true, true, true, true, true, true, true, true, false] rfl rfl (by kernel_rfl) (fun _ _ _ h => h) (Or.inl ⟨by rfl, ?_⟩) ?_ ?_
 rotate_left
 ·
  intro w'
  go_simp
  with_reducible rfl
 rotate_left
 ·
  simp only [Act.put, List.setIfInBounds_toArray, List.set_cons_zero, List.set_cons_succ, i64_w, i32_w]
  rfl
 refine pure_ (i := 21) (N := some 5) (v := ?_) (a' := ?_) #[true, true, true, true, true, true, true, true, true, true, true, true, true, true, true, true, true, true, true, true, true, true] rfl rfl (by kernel_rfl) (fun _ _ _ h => h) (Or.inl ⟨by rfl, ?_⟩) ?_ ?_
 rotate_left
 ·
  intro w'
  go_simp
  with_reducible rfl
 rotate_left
 ·
  simp only [Act.put, List.setIfInBounds_toArray, List.set_cons_zero, List.set_cons_succ, i64_w, i32_w]
  rfl
 refine done_ (by kernel_rfl) ?_
 clear HEC HEL HQ HS1 hHeld
 replace HR2 := am (Kd.R_drew HR2.out)
 replace HS2 := am HS2.out.drew
 try go_wp2
 generalize hW2 : w2.drew = W2 at HR2 HS2
 obtain ⟨oks, As, cs2, hs1, hs2, hsR, hsH, hsn⟩ := ow_elem HS2.out.s t HT.out.1 HT.out.2
 rw [HFT.out] at hs1 hsR hsH
 have HSR := am hsR
 have HSH := am hsH
 have HSN := am hsn
 have HSC := am (And.intro hs1 hs2)
 obtain ⟨-, -, hv3, -, -⟩ := HS2.out.cells HT.out.1 HT.out.2
 clear hsR hsH hsn hs2
 have HW2 := am hW2
 clear hW2
 refine start_ (n := 16) (S := fun w' => w'.cell? ⟨gx, 6, none⟩ = some (.slice (some ⟨gs, 0, none⟩) T cs) ∧ w'.cell? ⟨gs, t.toNat, none⟩ = some (.slice As ft.length cs2)) (ds := [15]) #[false, false, false, false, false, false, false, false, false, false, false, false, false, false, false, false] (by kernel_rfl) rfl rfl (by rw [HW2.out]; exact ⟨hv3, hs1⟩) (fun hHeld => ?_)
 rw [HW2.out] at hHeld ⊢
 clear HW2
 refine pure_ (i := 0) (N := some 35) (v := ?_) (a' := ?_) #[true, false, false, false, false, false, false, false, false, false, false, false, false, false, false, false] rfl rfl (by kernel_rfl) (fun _ _ _ h => h) (Or.inl ⟨by rfl, ?_⟩) ?_ ?_
 rotate_left
 ·
  intro w'
  go_simp
  with_reducible rfl
 rotate_left
 ·
  simp only [Act.put, List.setIfInBounds_toArray, List.set_cons_zero, List.set_cons_succ, i64_w, i32_w]
  rfl
 refine pure_ (i := 1) (N := some 36) (v := ?_) (a' := ?_) #[true, true, false, false, false, false, false, false, false, false, false, false, false, false, false, false] rfl rfl (by kernel_rfl) (fun _ _ _ h => h) (Or.inl ⟨by rfl, ?_⟩) ?_ ?_
 rotate_left
 ·
  intro w'
  go_simp
  with_reducible rfl
 rotate_left
 ·
  simp only [Act.put, List.setIfInBounds_toArray, List.set_cons_zero, List.set_cons_succ, i64_w, i32_w]
  rfl
 refine pure_ (i := 2) (N := some 37) (v := ?_) (a' := ?_) #[true, true, true, false, false, false, false, false, false, false, false, false, false, false, false, false] rfl rfl (by kernel_rfl) (fun _ _ _ h => h) (Or.inl ⟨by rfl, ?_⟩) ?_ ?_
 rotate_left
 ·
  intro w'
  go_simp
  with_reducible rfl
 rotate_left
 ·
  simp only [Act.put, List.setIfInBounds_toArray, List.set_cons_zero, List.set_cons_succ, i64_w, i32_w]
  rfl
 refine pure_ (i := 4) (N := some 39) (v := ?_) (a' := ?_) #[true, true, true, false, true, false, false, false, false, false, false, false, false, false, false, false] rfl rfl (by kernel_rfl) (fun _ _ _ h => h) (Or.inl ⟨by rfl, ?_⟩) ?_ ?_
 rotate_left
 ·
  intro w'
  go_simp
  with_reducible rfl
 rotate_left
 ·
  simp only [Act.put, List.setIfInBounds_toArray, List.set_cons_zero, List.set_cons_succ, i64_w, i32_w]
  rfl
 refine pure_ (i := 5) (N := some 40) (v := ?_) (a' := ?_) #[true, true, true, false, true, true, false, false, false, false, false, false, false, false, false, false] rfl rfl (by kernel_rfl) (fun _ _ _ h => h) (Or.inl ⟨by rfl, ?_⟩) ?_ ?_
 rotate_left
 ·
  intro w'
  go_simp
  with_reducible rfl
 rotate_left
 ·
  simp only [Act.put, List.setIfInBounds_toArray, List.set_cons_zero, List.set_cons_succ, i64_w, i32_w]
  rfl
 refine pure_ (i := 6) (N := some 41) (v := ?_) (a' := ?_) #[true, true, true, false, true, true, true, false, false, false, false, false, false, false, false, false] rfl rfl (by kernel_rfl) (fun _ _ _ h => h) (Or.inl ⟨by rfl, ?_⟩) ?_ ?_
 rotate_left
 ·
  intro w'
  go_simp
  with_reducible rfl
 rotate_left
 ·
  simp only [Act.put, List.setIfInBounds_toArray, List.set_cons_zero, List.set_cons_succ, i64_w, i32_w]
  rfl
 refine pure_ (i := 7) (N := some 42) (v := ?_) (a' := ?_) #[true, true, true, false, true, true, true, true, false, false, false, false, false, false, false, false] rfl rfl (by kernel_rfl) (fun _ _ _ h => h) (Or.inl ⟨by rfl, ?_⟩) ?_ ?_
 rotate_left
 ·
  intro w'
  go_simp
  with_reducible rfl
 rotate_left
 ·
  simp only [Act.put, List.setIfInBounds_toArray, List.set_cons_zero, List.set_cons_succ, i64_w, i32_w]
  rfl
 refine pure_ (i := 9) (N := some 44) (v := ?_) (a' := ?_) #[true, true, true, false, true, true, true, true, false, true, false, false, false, false, false, false] rfl rfl (by kernel_rfl) (fun _ _ _ h => h) (Or.inl ⟨by rfl, ?_⟩) ?_ ?_
 rotate_left
 ·
  intro w'
  go_simp
  with_reducible rfl
 rotate_left
 ·
  simp only [Act.put, List.setIfInBounds_toArray, List.set_cons_zero, List.set_cons_succ, i64_w, i32_w]
  rfl
 refine pure_ (i := 12) (N := some 47) (v := ?_) (a' := ?_) #[true, true, true, false, true, true, true, true, false, true, false, false, true, false, false, false] rfl rfl (by kernel_rfl) (fun _ _ _ h => h) (Or.inl ⟨by rfl, ?_⟩) ?_ ?_
 rotate_left
 ·
  intro w'
  go_simp
  with_reducible rfl
 rotate_left
 ·
  simp only [Act.put, List.setIfInBounds_toArray, List.set_cons_zero, List.set_cons_succ, i64_w, i32_w]
  rfl
 refine take_ (i := 3) (N := some 38) (v := ?_) (a' := ?_) #[true, true, true, true, true, true, true, true, false, true, false, false, true, false, false, false] rfl rfl (by kernel_rfl) (fun _ _ _ h => h) (Or.inl ⟨by rfl, ?_⟩) hHeld ?_ ?_
 rotate_left
 ·
  rintro w' ⟨s0, s1⟩
  go_simp
  with_reducible rfl
 rotate_left
 ·
  simp only [Act.put, List.setIfInBounds_toArray, List.set_cons_zero, List.set_cons_succ, i64_w, i32_w]
  rfl
 refine take_ (i := 8) (N := some 43) (v := ?_) (a' := ?_) #[true, true, true, true, true, true, true, true, true, true, false, false, true, false, false, false] rfl rfl (by kernel_rfl) (fun _ _ _ h => h) (Or.inl ⟨by rfl, ?_⟩) hHeld ?_ ?_
 rotate_left
 ·
  rintro w' ⟨s0, s1⟩
  go_simp
  with_reducible rfl
 rotate_left
 ·
  simp only [Act.put, List.setIfInBounds_toArray, List.set_cons_zero, List.set_cons_succ, i64_w, i32_w]
  rfl
 refine pure_ (i := 10) (N := some 45) (v := ?_) (a' := ?_) #[true, true, true, true, true, true, true, true, true, true, true, false, true, false, false, false] rfl rfl (by kernel_rfl) (fun _ _ _ h => h) (Or.inl ⟨by rfl, ?_⟩) ?_ ?_
 rotate_left
 ·
  intro w'
  go_simp
  with_reducible rfl
 rotate_left
 ·
  simp only [Act.put, List.setIfInBounds_toArray, List.set_cons_zero, List.set_cons_succ, i64_w, i32_w]
  rfl
 refine take_ (i := 11) (N := some 46) (v := ?_) (a' := ?_) #[true, true, true, true, true, true, true, true, true, true, true, true, true, false, false, false] rfl rfl (by kernel_rfl) (fun _ _ _ h => h) (Or.inl ⟨by rfl, ?_⟩) hHeld ?_ ?_
 rotate_left
 ·
  rintro w' ⟨s0, s1⟩
  go_simp
  with_reducible rfl
 rotate_left
 ·
  simp only [Act.put, List.setIfInBounds_toArray, List.set_cons_zero, List.set_cons_succ, i64_w, i32_w]
  rfl
 refine one_ (i := 13) (N := some 48) #[true, true, true, true, true, true, true, true, true, true, true, true, true, true, false, false] rfl rfl (by kernel_rfl) (by decide) (fun K hK => ?_)
 refine Kd.R_append_rows_step (Kd.int .u8) (w0 := w0) w0.heap.size (by rfl) (.tmp 46) (.tmp 47) 27 5 (.int .u8 0) 1 rfl Try.underlying27 info5 rfl (by decide) (by omega) _ ft q1 _ _ _ (fun k => oks k ∨ W2.heap.size ≤ k) (fun _ => False) rfl rfl (Kd.R_mono HSR.out (fun k hk => .inl hk)) ((Kd.R_reads' HR2.out).2.2) (fun _ _ h => h) (fun _ h => h.elim) (fun k hk => by first | exact .inr hk | (have := HS2.out.B.size; omega)) (HS2.out.B) (HS2.out.B.size) (by have := HLM.out; omega) ?_
 intro v3 w3 hr3 hb3 hg3 hat3
 obtain ⟨A3, c3, e3⟩ := Kd.R_slice hr3
 rw [List.length_append] at e3
 subst e3
 have HR3 := am hr3
 have HB3 := am hb3
 have HG3 := am hg3
 obtain ⟨hx1, hx2⟩ := ow_same (W := W2) (w1 := w3) (g := gs) (i := t.toNat) (hg3.block gs (blk_lt (HS2.out.typ.2.2).choose_spec) (ow_unlike (HS2.out.typ.2.2).choose_spec (Kd.R_typed HSR.out) (by decide)))
 rw [HSC.out.1] at hx1
 rw [HSC.out.2] at hx2
 have hx0 := ((ow_same (hg3.block gx (blk_lt HS2.out.x) (ow_unlike HS2.out.x (Kd.R_typed HSR.out) (by decide)))).1).trans hv3
 clear hr3 hb3 hg3 hat3
 refine hK.out _ _ ⟨hx0, hx1⟩ (fun hHeld => ?_)
 clear hK K
 refine norm_ (a' := ?_) ?_ ?_
 rotate_left
 ·
  show Act.put _ (some 48) _ = _
  simp only [Act.put, List.setIfInBounds_toArray, List.set_cons_zero, List.set_cons_succ, i64_w, i32_w]
  rfl
 refine pure_ (i := 14) (N := some 49) (v := ?_) (a' := ?_) #[true, true, true, true, true, true, true, true, true, true, true, true, true, true, true, false] rfl rfl (by kernel_rfl) (fun _ _ _ h => h) (Or.inl ⟨by rfl, ?_⟩) ?_ ?_
 rotate_left
 ·
  intro w'
  go_simp
  with_reducible rfl
 rotate_left
 ·
  simp only [Act.put, List.setIfInBounds_toArray, List.set_cons_zero, List.set_cons_succ, i64_w, i32_w]
  rfl
 refine last_ (i := 15) (N := none) #[true, true, true, true, true, true, true, true, true, true, true, true, true, true, true, true] rfl rfl (by kernel_rfl) (by decide) (fun K hK => ?_)
 refine skip_ (w1 := ?_) (by rfl) rfl ?_ ?_
 rotate_left
 ·
  go_simp
  rfl
 refine hK.out _ _ ?_
 clear hK K
 refine done_ (by kernel_rfl) ?_
 clear hHeld
 have HS4 := am (HS2.out.setS HSH.out HT.out.1 HT.out.2 HSN.out HG3.out HB3.out (by rw [HFT.out]; exact HSR.out) HR3.out)
 generalize w3.setCell ⟨gs, t.toNat, none⟩ (.slice A3 (ft.length + q1.length) c3) = w4 at HS4 ⊢
 clear HS2 HSH HSN HG3 HB3 HSR HR3 HSC HR2
 try go_wp2
 generalize hW4 : w4.drew = W4
 replace HS4 := am HS4.out.drew
 rw [hW4] at HS4
 obtain ⟨ok6, A6, c6, he1, he2, heR, heH, hne⟩ := ow_elem HS4.out.b t HT.out.1 HT.out.2
 rw [HBT.out] at he1
 obtain ⟨hv1, hv2, -, hv4, hv5⟩ := HS4.out.cells HT.out.1 HT.out.2
 have hn0 := HN0.out
 rw [hn0] at hv4
 have HW4 := am hW4
 clear hW4 hn0 heR heH hne he2
 refine start_ (n := 18) (S := fun w' => w'.cell? ⟨gx, 4, none⟩ = some (.slice (some ⟨gb, 0, none⟩) T cb) ∧ w'.cell? ⟨gx, 5, none⟩ = some (.slice (some ⟨gf, 0, none⟩) T cf) ∧ w'.cell? ⟨gf, t.toNat, none⟩ = some (.int .i64 n0) ∧ w'.cell? ⟨gb, t.toNat, none⟩ = some (.slice A6 bt.length c6)) (ds := [17]) #[false, false, false, false, false, false, false, false, false, false, false, false, false, false, false, false, false, false] (by kernel_rfl) rfl rfl (by rw [HW4.out]; exact ⟨hv1, hv2, hv4, he1⟩) (fun hHeld => ?_)
 rw [HW4.out] at hHeld ⊢
 clear HW4
 refine pure_ (i := 0) (N := some 50) (v := ?_) (a' := ?_) #[true, false, false, false, false, false, false, false, false, false, false, false, false, false, false, false, false, false] rfl rfl (by kernel_rfl) (fun _ _ _ h => h) (Or.inl ⟨by rfl, ?_⟩) ?_ ?_
 rotate_left
 ·
  intro w'
  go_simp
  with_reducible rfl
 rotate_left
 ·
  simp only [Act.put, List.setIfInBounds_toArray, List.set_cons_zero, List.set_cons_succ, i64_w, i32_w]
  rfl
 refine pure_ (i := 1) (N := some 51) (v := ?_) (a' := ?_) #[true, true, false, false, false, false, false, false, false, false, false, false, false, false, false, false, false, false] rfl rfl (by kernel_rfl) (fun _ _ _ h => h) (Or.inl ⟨by rfl, ?_⟩) ?_ ?_
 rotate_left
 ·
  intro w'
  go_simp
  with_reducible rfl
 rotate_left
 ·
  simp only [Act.put, List.setIfInBounds_toArray, List.set_cons_zero, List.set_cons_succ, i64_w, i32_w]
  rfl
 refine pure_ (i := 2) (N := some 52) (v := ?_) (a' := ?_) #[true, true, true, false, false, false, false, false, false, false, false, false, false, false, false, false, false, false] rfl rfl (by kernel_rfl) (fun _ _ _ h => h) (Or.inl ⟨by rfl, ?_⟩) ?_ ?_
 rotate_left
 ·
  intro w'
  go_simp
  with_reducible rfl
 rotate_left
 ·
  simp only [Act.put, List.setIfInBounds_toArray, List.set_cons_zero, List.set_cons_succ, i64_w, i32_w]
  rfl
 refine pure_ (i := 4) (N := some 54) (v := ?_) (a' := ?_) #[true, true, true, false, true, false, false, false, false, false, false, false, false, false, false, false, false, false] rfl rfl (by kernel_rfl) (fun _ _ _ h => h) (Or.inl ⟨by rfl, ?_⟩) ?_ ?_
 rotate_left
 ·
  intro w'
  go_simp
  with_reducible rfl
 rotate_left
 ·
  simp only [Act.put, List.setIfInBounds_toArray, List.set_cons_zero, List.set_cons_succ, i64_w, i32_w]
  rfl
 refine pure_ (i := 7) (N := some 57) (v := ?_) (a' := ?_) #[true, true, true, false, true, false, false, true, false, false, false, false, false, false, false, false, false, false] rfl rfl (by kernel_rfl) (fun _ _ _ h => h) (Or.inl ⟨by rfl, ?_⟩) ?_ ?_
 rotate_left
 ·
  intro w'
  go_simp
  with_reducible rfl
 rotate_left
 ·
  simp only [Act.put, List.setIfInBounds_toArray, List.set_cons_zero, List.set_cons_succ, i64_w, i32_w]
  rfl
 refine pure_ (i := 8) (N := some 58) (v := ?_) (a' := ?_) #[true, true, true, false, true, false, false, true, true, false, false, false, false, false, false, false, false, false] rfl rfl (by kernel_rfl) (fun _ _ _ h => h) (Or.inl ⟨by rfl, ?_⟩) ?_ ?_
 rotate_left
 ·
  intro w'
  go_simp
  with_reducible rfl
 rotate_left
 ·
  simp only [Act.put, List.setIfInBounds_toArray, List.set_cons_zero, List.set_cons_succ, i64_w, i32_w]
  rfl
 refine pure_ (i := 9) (N := some 59) (v := ?_) (a' := ?_) #[true, true, true, false, true, false, false, true, true, true, false, false, false, false, false, false, false, false] rfl rfl (by kernel_rfl) (fun _ _ _ h => h) (Or.inl ⟨by rfl, ?_⟩) ?_ ?_
 rotate_left
 ·
  intro w'
  go_simp
  with_reducible rfl
 rotate_left
 ·
  simp only [Act.put, List.setIfInBounds_toArray, List.set_cons_zero, List.set_cons_succ, i64_w, i32_w]
  rfl
 refine pure_ (i := 11) (N := some 61) (v := ?_) (a' := ?_) #[true, true, true, false, true, false, false, true, true, true, false, true, false, false, false, false, false, false] rfl rfl (by kernel_rfl) (fun _ _ _ h => h) (Or.inl ⟨by rfl, ?_⟩) ?_ ?_
 rotate_left
 ·
  intro w'
  go_simp
  with_reducible rfl
 rotate_left
 ·
  simp only [Act.put, List.setIfInBounds_toArray, List.set_cons_zero, List.set_cons_succ, i64_w, i32_w]
  rfl
 refine take_ (i := 3) (N := some 53) (v := ?_) (a' := ?_) #[true, true, true, true, true, false, false, true, true, true, false, true, false, false, false, false, false, false] rfl rfl (by kernel_rfl) (fun _ _ _ h => h) (Or.inl ⟨by rfl, ?_⟩) hHeld ?_ ?_
 rotate_left
 ·
  rintro w' ⟨s0, s1, s2, s3⟩
  go_simp
  with_reducible rfl
 rotate_left
 ·
  simp only [Act.put, List.setIfInBounds_toArray, List.set_cons_zero, List.set_cons_succ, i64_w, i32_w]
  rfl
 refine pure_ (i := 5) (N := some 55) (v := ?_) (a' := ?_) #[true, true, true, true, true, true, false, true, true, true, false, true, false, false, false, false, false, false] rfl rfl (by kernel_rfl) (fun _ _ _ h => h) (Or.inl ⟨by rfl, ?_⟩) ?_ ?_
 rotate_left
 ·
  intro w'
  go_simp
  with_reducible rfl
 rotate_left
 ·
  simp only [Act.put, List.setIfInBounds_toArray, List.set_cons_zero, List.set_cons_succ, i64_w, i32_w]
  rfl
 refine take_ (i := 6) (N := some 56) (v := ?_) (a' := ?_) #[true, true, true, true, true, true, true, true, true, true, false, true, false, false, false, false, false, false] rfl rfl (by kernel_rfl) (fun _ _ _ h => h) (Or.inl ⟨by rfl, ?_⟩) hHeld ?_ ?_
 rotate_left
 ·
  rintro w' ⟨s0, s1, s2, s3⟩
  go_simp
  with_reducible rfl
 rotate_left
 ·
  simp only [Act.put, List.setIfInBounds_toArray, List.set_cons_zero, List.set_cons_succ, i64_w, i32_w]
  rfl
 refine take_ (i := 10) (N := some 60) (v := ?_) (a' := ?_) #[true, true, true, true, true, true, true, true, true, true, true, true, false, false, false, false, false, false] rfl rfl (by kernel_rfl) (fun _ _ _ h => h) (Or.inl ⟨by rfl, ?_⟩) hHeld ?_ ?_
 rotate_left
 ·
  rintro w' ⟨s0, s1, s2, s3⟩
  go_simp
  with_reducible rfl
 rotate_left
 ·
  simp only [Act.put, List.setIfInBounds_toArray, List.set_cons_zero, List.set_cons_succ, i64_w, i32_w]
  rfl
 refine pure_ (i := 12) (N := some 62) (v := ?_) (a' := ?_) #[true, true, true, true, true, true, true, true, true, true, true, true, true, false, false, false, false, false] rfl rfl (by kernel_rfl) (fun _ _ _ h => h) (Or.inl ⟨by rfl, ?_⟩) ?_ ?_
 rotate_left
 ·
  intro w'
  go_simp
  with_reducible rfl
 rotate_left
 ·
  simp only [Act.put, List.setIfInBounds_toArray, List.set_cons_zero, List.set_cons_succ, i64_w, i32_w]
  rfl
 refine take_ (i := 13) (N := some 63) (v := ?_) (a' := ?_) #[true, true, true, true, true, true, true, true, true, true, true, true, true, true, false, false, false, false] rfl rfl (by kernel_rfl) (fun _ _ _ h => h) (Or.inl ⟨by rfl, ?_⟩) hHeld ?_ ?_
 rotate_left
 ·
  rintro w' ⟨s0, s1, s2, s3⟩
  go_simp
  with_reducible rfl
 rotate_left
 ·
  simp only [Act.put, List.setIfInBounds_toArray, List.set_cons_zero, List.set_cons_succ, i64_w, i32_w]
  rfl
 refine pure_ (i := 14) (N := some 64) (v := ?_) (a' := ?_) #[true, true, true, true, true, true, true, true, true, true, true, true, true, true, true, false, false, false] rfl rfl (by kernel_rfl) (fun _ _ _ h => h) (Or.inl ⟨by rfl, ?_⟩) ?_ ?_
 rotate_left
 ·
  intro w'
  go_simp
  with_reducible rfl
 rotate_left
 ·
  simp only [Act.put, List.setIfInBounds_toArray, List.set_cons_zero, List.set_cons_succ, i64_w, i32_w]
  rfl
 refine pure_ (i := 15) (N := some 65) (v := ?_) (a' := ?_) #[true, true, true, true, true, true, true, true, true, true, true, true, true, true, true, true, false, false] rfl rfl (by kernel_rfl) (fun _ _ _ h => h) (Or.inl ⟨by rfl, ?_⟩) ?_ ?_
 rotate_left
 ·
  intro w'
  go_simp
  with_reducible rfl
 rotate_left
 ·
  simp only [Act.put, List.setIfInBounds_toArray, List.set_cons_zero, List.set_cons_succ, i64_w, i32_w]
  rfl
 refine pure_ (i := 16) (N := some 66) (v := ?_) (a' := ?_) #[true, true, true, true, true, true, true, true, true, true, true, true, true, true, true, true, true, false] rfl rfl (by kernel_rfl) (fun _ _ _ h => h) (Or.inl ⟨by rfl, ?_⟩) ?_ ?_
 rotate_left
 ·
  intro w'
  go_simp
  with_reducible rfl
 rotate_left
 ·
  simp only [Act.put, List.setIfInBounds_toArray, List.set_cons_zero, List.set_cons_succ, i64_w, i32_w]
  rfl
 refine last_ (i := 17) (N := none) #[true, true, true, true, true, true, true, true, true, true, true, true, true, true, true, true, true, true] rfl rfl (by kernel_rfl) (by decide) (fun K hK => ?_)
 refine skip_ (w1 := ?_) (by rfl) rfl ?_ ?_
 rotate_left
 ·
  go_simp
  rfl
 refine hK.out _ _ ?_
 clear hK K
 refine done_ (by kernel_rfl) ?_
 clear hHeld
 have HS6 := am (HS4.out.setF t (wrap64 (n0 + (bt.length : Int))))
 generalize W4.setCell ⟨gf, t.toNat, none⟩ (.int .i64 (wrap64 (n0 + (bt.length : Int)))) = W6 at HS6 ⊢
 clear HS4 hv1 hv2 hv4 hv5 he1
 obtain ⟨ok7, A7, c7, he1, he2, heR, heH, hne⟩ := ow_elem HS6.out.b t HT.out.1 HT.out.2
 have HER := am heR
 have HEH := am heH
 have HNE := am hne
 obtain ⟨hv1, -, -, -, -⟩ := HS6.out.cells HT.out.1 HT.out.2
 clear heR heH hne
 go_wp2
 go_end0
 have hr := HH.out
 subst hr
 exact y39
set_option maxHeartbeats 4000000 in
set_option maxRecDepth 100000 in
theorem record_recorder.add (k : Nat) (e : S24) (seq cap : Int) (w0 W : World) (gx : Nat) (pb pc pd : Value) (T : Nat) (bufs : List (List S26)) (first : List Int) (files : List (List Int)) (gb cb gf cf gs cs : Nat) (r : List (List S26) × List Int × List (List Int)) (E5 E6 : Option Addr) (n5 n6 : Nat) (hS : record_recorder.St w0 gx (.int .i64 cap) pb pc pd T bufs first files gb cb gf cf gs cs W)
  (h5 : e.f5.length ≤ n5 ∧ Kd.C (Kd.int .i64) w0 E5 e.f5.length e.f5) (h6 : e.f6.length ≤ n6 ∧ Kd.C (Kd.int .i64) w0 E6 e.f6.length e.f6) (h : adF block_Encode.f k e seq cap bufs first files = some r) :
  Calls Try.prog 60 #[.pointer (some ⟨gx, 0, none⟩), .agg #[.int .i64 e.f0, .int .i64 e.f1, .int .i64 e.f2, .int .i64 e.f3, .int .i64 e.f4, .slice E5 e.f5.length n5, .slice E6 e.f6.length n6], .int .i64 seq] W fun e' W' => e' = .returned (.tuple #[]) ∧ record_recorder.St w0 gx (.int .i64 cap) pb pc pd T r.1 r.2.1 r.2.2 gb cb gf cf gs cs W' := by
 unfold adF at h
 by_cases ct : 0 ≤ e.f0 ∧ e.f0 < (bufs.length : Int) ∧ (bufs.getD e.f0.toNat []).length < 1466015503701
 rotate_left
 ·
  rw [if_neg ct] at h
  cases h
 rw [if_pos ct] at h
 obtain ⟨h0, h1, h2⟩ := ct
 rw [← hS.len.1] at h1
 obtain ⟨bt, hbt⟩ : ∃ bt, bufs.getD e.f0.toNat [] = bt := ⟨_, rfl⟩
 rw [hbt] at h h2
 have HS := am hS
 have HT := am (And.intro h0 h1)
 have HBT := am hbt
 have HLM := am h2
 have HE5 := am h5
 have HE6 := am h6
 have HH := am h
 have hm : Try.prog.follows .mixedOrders = true := by kernel_rfl
 have p1 := eq_true h0
 have p2 := eq_true h1
 clear hS h0 h1 h2 hbt h5 h6 h
 go_enter Try.func60, Try.ntmps60
 go_wp2_with (first | ((with_reducible refine gate_dst (N := 4) rfl ?_); refine zB 4 #[.int .i64 e.f0, .int .i64 e.f1, .int .i64 e.f2, .int .i64 e.f3, .int .i64 e.f4, .slice E5 e.f5.length n5, .slice E6 e.f6.length n6] 24 ?_; intro ge hg w1 hx hb; have HGE := am hx; have HS1 := am (HS.out.below hb); have hg0 := (blk_cell hx 0).trans rfl; clear hg hx hb))
 clear hg0
 generalize hW1 : w1.drew = W1
 replace HGE := am (show w1.drew.heap[ge]? = _ from HGE.out)
 replace HS1 := am HS1.out.drew
 rw [hW1] at HGE HS1
 obtain ⟨oki, A, c, he1, he2, heR, heH, hne⟩ := ow_elem HS1.out.b e.f0 HT.out.1 HT.out.2
 rw [HBT.out] at he1 heR heH
 obtain ⟨hv1, -, -, -, -⟩ := HS1.out.cells HT.out.1 HT.out.2
 have HV1 := am hv1
 have HER := am heR
 have HEH := am heH
 have HNE := am hne
 have HSC := am (And.intro he1 he2)
 have HW1 := am hW1
 clear heR heH hne he2 hW1
 obtain ⟨hg0, hg1, hg2, hg3, hg4, hg5, hg6⟩ := zc7 HGE
 refine start_ (n := 19) (S := fun w' => w'.cell? ⟨gx, 4, none⟩ = some (.slice (some ⟨gb, 0, none⟩) T cb) ∧ w'.cell? ⟨gb, e.f0.toNat, none⟩ = some (.slice A bt.length c) ∧ w'.cell? ⟨ge, 0, none⟩ = some (.int .i64 e.f0) ∧ w'.cell? ⟨ge, 1, none⟩ = some (.int .i64 e.f1) ∧ w'.cell? ⟨ge, 2, none⟩ = some (.int .i64 e.f2) ∧ w'.cell? ⟨ge, 3, none⟩ = some (.int .i64 e.f3) ∧ w'.cell? ⟨ge, 4, none⟩ = some (.int .i64 e.f4) ∧ w'.cell? ⟨ge, 5, none⟩ = some (.slice E5 e.f5.length n5) ∧ w'.cell? ⟨ge, 6, none⟩ = some (.slice E6 e.f6.length n6)) (ds := [18]) #[false, false, false, false, false, false, false, false, false, false, false, false, false, false, false, false, false, false, false] (by kernel_rfl) rfl rfl (by rw [HW1.out]; exact ⟨hv1, he1, hg0, hg1, hg2, hg3, hg4, hg5, hg6⟩) (fun hHeld => ?_)
 rw [HW1.out] at hHeld ⊢
 clear HW1
 refine pure_ (i := 0) (N := some 9) (v := ?_) (a' := ?_) #[true, false, false, false, false, false, false, false, false, false, false, false, false, false, false, false, false, false, false] rfl rfl (by kernel_rfl) (fun _ _ _ h => h) (Or.inl ⟨by rfl, ?_⟩) ?_ ?_
 rotate_left
 ·
  intro w'
  go_simp
  with_reducible rfl
 rotate_left
 ·
  simp only [Act.put, List.setIfInBounds_toArray, List.set_cons_zero, List.set_cons_succ, i64_w, i32_w]
  rfl
 refine pure_ (i := 1) (N := some 10) (v := ?_) (a' := ?_) #[true, true, false, false, false, false, false, false, false, false, false, false, false, false, false, false, false, false, false] rfl rfl (by kernel_rfl) (fun _ _ _ h => h) (Or.inl ⟨by rfl, ?_⟩) ?_ ?_
 rotate_left
 ·
  intro w'
  go_simp
  with_reducible rfl
 rotate_left
 ·
  simp only [Act.put, List.setIfInBounds_toArray, List.set_cons_zero, List.set_cons_succ, i64_w, i32_w]
  rfl
 refine pure_ (i := 2) (N := some 11) (v := ?_) (a' := ?_) #[true, true, true, false, false, false, false, false, false, false, false, false, false, false, false, false, false, false, false] rfl rfl (by kernel_rfl) (fun _ _ _ h => h) (Or.inl ⟨by rfl, ?_⟩) ?_ ?_
 rotate_left
 ·
  intro w'
  go_simp
  with_reducible rfl
 rotate_left
 ·
  simp only [Act.put, List.setIfInBounds_toArray, List.set_cons_zero, List.set_cons_succ, i64_w, i32_w]
  rfl
 refine pure_ (i := 4) (N := some 13) (v := ?_) (a' := ?_) #[true, true, true, false, true, false, false, false, false, false, false, false, false, false, false, false, false, false, false] rfl rfl (by kernel_rfl) (fun _ _ _ h => h) (Or.inl ⟨by rfl, ?_⟩) ?_ ?_
 rotate_left
 ·
  intro w'
  go_simp
  with_reducible rfl
 rotate_left
 ·
  simp only [Act.put, List.setIfInBounds_toArray, List.set_cons_zero, List.set_cons_succ, i64_w, i32_w]
  rfl
 refine pure_ (i := 5) (N := some 14) (v := ?_) (a' := ?_) #[true, true, true, false, true, true, false, false, false, false, false, false, false, false, false, false, false, false, false] rfl rfl (by kernel_rfl) (fun _ _ _ h => h) (Or.inl ⟨by rfl, ?_⟩) ?_ ?_
 rotate_left
 ·
  intro w'
  go_simp
  with_reducible rfl
 rotate_left
 ·
  simp only [Act.put, List.setIfInBounds_toArray, List.set_cons_zero, List.set_cons_succ, i64_w, i32_w]
  rfl
 refine pure_ (i := 6) (N := some 15) (v := ?_) (a' := ?_) #[true, true, true, false, true, true, true, false, false, false, false, false, false, false, false, false, false, false, false] rfl rfl (by kernel_rfl) (fun _ _ _ h => h) (Or.inl ⟨by rfl, ?_⟩) ?_ ?_
 rotate_left
 ·
  intro w'
  go_simp
  with_reducible rfl
 rotate_left
 ·
  simp only [Act.put, List.setIfInBounds_toArray, List.set_cons_zero, List.set_cons_succ, i64_w, i32_w]
  rfl
 refine pure_ (i := 7) (N := some 16) (v := ?_) (a' := ?_) #[true, true, true, false, true, true, true, true, false, false, false, false, false, false, false, false, false, false, false] rfl rfl (by kernel_rfl) (fun _ _ _ h => h) (Or.inl ⟨by rfl, ?_⟩) ?_ ?_
 rotate_left
 ·
  intro w'
  go_simp
  with_reducible rfl
 rotate_left
 ·
  simp only [Act.put, List.setIfInBounds_toArray, List.set_cons_zero, List.set_cons_succ, i64_w, i32_w]
  rfl
 refine pure_ (i := 9) (N := some 18) (v := ?_) (a' := ?_) #[true, true, true, false, true, true, true, true, false, true, false, false, false, false, false, false, false, false, false] rfl rfl (by kernel_rfl) (fun _ _ _ h => h) (Or.inl ⟨by rfl, ?_⟩) ?_ ?_
 rotate_left
 ·
  intro w'
  go_simp
  with_reducible rfl
 rotate_left
 ·
  simp only [Act.put, List.setIfInBounds_toArray, List.set_cons_zero, List.set_cons_succ, i64_w, i32_w]
  rfl
 refine pure_ (i := 12) (N := some 21) (v := ?_) (a' := ?_) #[true, true, true, false, true, true, true, true, false, true, false, false, true, false, false, false, false, false, false] rfl rfl (by kernel_rfl) (fun _ _ _ h => h) (Or.inl ⟨by rfl, ?_⟩) ?_ ?_
 rotate_left
 ·
  intro w'
  go_simp
  with_reducible rfl
 rotate_left
 ·
  simp only [Act.put, List.setIfInBounds_toArray, List.set_cons_zero, List.set_cons_succ, i64_w, i32_w]
  rfl
 refine take_ (i := 3) (N := some 12) (v := ?_) (a' := ?_) #[true, true, true, true, true, true, true, true, false, true, false, false, true, false, false, false, false, false, false] rfl rfl (by kernel_rfl) (fun _ _ _ h => h) (Or.inl ⟨by rfl, ?_⟩) hHeld ?_ ?_
 rotate_left
 ·
  rintro w' ⟨s0, s1, s2, s3, s4, s5, s6, s7, s8⟩
  go_simp
  with_reducible rfl
 rotate_left
 ·
  simp only [Act.put, List.setIfInBounds_toArray, List.set_cons_zero, List.set_cons_succ, i64_w, i32_w]
  rfl
 refine take_ (i := 8) (N := some 17) (v := ?_) (a' := ?_) #[true, true, true, true, true, true, true, true, true, true, false, false, true, false, false, false, false, false, false] rfl rfl (by kernel_rfl) (fun _ _ _ h => h) (Or.inl ⟨by rfl, ?_⟩) hHeld ?_ ?_
 rotate_left
 ·
  rintro w' ⟨s0, s1, s2, s3, s4, s5, s6, s7, s8⟩
  go_simp
  with_reducible rfl
 rotate_left
 ·
  simp only [Act.put, List.setIfInBounds_toArray, List.set_cons_zero, List.set_cons_succ, i64_w, i32_w]
  rfl
 refine pure_ (i := 10) (N := some 19) (v := ?_) (a' := ?_) #[true, true, true, true, true, true, true, true, true, true, true, false, true, false, false, false, false, false, false] rfl rfl (by kernel_rfl) (fun _ _ _ h => h) (Or.inl ⟨by rfl, ?_⟩) ?_ ?_
 rotate_left
 ·
  intro w'
  go_simp
  with_reducible rfl
 rotate_left
 ·
  simp only [Act.put, List.setIfInBounds_toArray, List.set_cons_zero, List.set_cons_succ, i64_w, i32_w]
  rfl
 refine take_ (i := 11) (N := some 20) (v := ?_) (a' := ?_) #[true, true, true, true, true, true, true, true, true, true, true, true, true, false, false, false, false, false, false] rfl rfl (by kernel_rfl) (fun _ _ _ h => h) (Or.inl ⟨by rfl, ?_⟩) hHeld ?_ ?_
 rotate_left
 ·
  rintro w' ⟨s0, s1, s2, s3, s4, s5, s6, s7, s8⟩
  go_simp
  with_reducible rfl
 rotate_left
 ·
  simp only [Act.put, List.setIfInBounds_toArray, List.set_cons_zero, List.set_cons_succ, i64_w, i32_w]
  rfl
 refine take_ (i := 13) (N := some 22) (v := ?_) (a' := ?_) #[true, true, true, true, true, true, true, true, true, true, true, true, true, true, false, false, false, false, false] rfl rfl (by kernel_rfl) (fun _ _ _ h => h) (Or.inl ⟨by rfl, ?_⟩) hHeld ?_ ?_
 rotate_left
 ·
  rintro w' ⟨s0, s1, s2, s3, s4, s5, s6, s7, s8⟩
  go_simp
  with_reducible rfl
 rotate_left
 ·
  simp only [Act.put, List.setIfInBounds_toArray, List.set_cons_zero, List.set_cons_succ, i64_w, i32_w]
  rfl
 refine pure_ (i := 14) (N := some 23) (v := ?_) (a' := ?_) #[true, true, true, true, true, true, true, true, true, true, true, true, true, true, true, false, false, false, false] rfl rfl (by kernel_rfl) (fun _ _ _ h => h) (Or.inl ⟨by rfl, ?_⟩) ?_ ?_
 rotate_left
 ·
  intro w'
  go_simp
  with_reducible rfl
 rotate_left
 ·
  simp only [Act.put, List.setIfInBounds_toArray, List.set_cons_zero, List.set_cons_succ, i64_w, i32_w]
  rfl
 refine one_ (i := 15) (N := some 24) #[true, true, true, true, true, true, true, true, true, true, true, true, true, true, true, true, false, false, false] rfl rfl (by kernel_rfl) (by decide) (fun K hK => ?_)
 refine value_ (w1 := ?_) (v := ?_) (by rfl) rfl ?_ ?_
 rotate_left 2
 ·
  go_simp
  constructor
  ·
   rfl
  ·
   rfl
 refine hK.out _ _ ⟨(ow_alc hv1 _), (ow_alc he1 _), (ow_alc hg0 _), (ow_alc hg1 _), (ow_alc hg2 _), (ow_alc hg3 _), (ow_alc hg4 _), (ow_alc hg5 _), (ow_alc hg6 _)⟩ (fun hHeld => ?_)
 clear hK K
 refine norm_ (a' := ?_) ?_ ?_
 rotate_left
 ·
  show Act.put _ (some 24) _ = _
  simp only [Act.put, List.setIfInBounds_toArray, List.set_cons_zero, List.set_cons_succ, i64_w, i32_w]
  rfl
 refine one_ (i := 16) (N := some 25) #[true, true, true, true, true, true, true, true, true, true, true, true, true, true, true, true, true, false, false] rfl rfl (by kernel_rfl) (by decide) (fun K hK => ?_)
 refine Kd.R_append_step (Kd.fixed k26 w0) (w0 := w0) w0.heap.size (by rfl) (.tmp 20) (.tmp 24) 40 26 (.agg #[(.int .i64 0), (.int .i64 0), (.int .i64 0), (.int .i64 0), (.int .i64 0), (.int .i64 0), (.slice none 0 0), (.slice none 0 0)]) 96 rfl Try.underlying40 info26 rfl (by show 0 < 8; decide) (by omega) _ bt ⟨seq, e⟩ [.int .i64 seq, .int .i64 e.f0, .int .i64 e.f1, .int .i64 e.f2, .int .i64 e.f3, .int .i64 e.f4, .slice E5 e.f5.length n5, .slice E6 e.f6.length n6] (fun k => oki k ∨ W1.heap.size ≤ k) (fun _ => False) rfl rfl (k26_mk w0 ⟨seq, e⟩ HE5.out.1 HE5.out.2 HE6.out.1 HE6.out.2) (fun _ h => h.elim) (fun k hk => .inr hk) (Kd.R_mono HER.out (fun k hk => .inl hk)) HS1.out.B HS1.out.B.size (by have := HLM.out; omega) ?_
 intro v3 w3 hr3 hb3 hg3 hat3
 obtain ⟨A3, c3, e3⟩ := Kd.R_slice hr3
 rw [List.length_append, List.length_singleton] at e3
 subst e3
 have HR3 := am hr3
 have HB3 := am hb3
 have HG3 := am hg3
 have hx0 := ((ow_same (hg3.block gx (blk_lt HS1.out.x) (ow_unlike HS1.out.x (Kd.R_typed HER.out) (by decide)))).1).trans HV1.out
 obtain ⟨hx1, hx2⟩ := ow_same (W := W1) (w1 := w3) (g := gb) (i := e.f0.toNat) (hg3.block gb (blk_lt (HS1.out.typ.1).choose_spec) (ow_unlike (HS1.out.typ.1).choose_spec (Kd.R_typed HER.out) (by decide)))
 rw [HSC.out.1] at hx1
 rw [HSC.out.2] at hx2
 have hy0 := ((ow_same (i := 0) (hg3.block ge (blk_lt HGE.out) (ow_unlike HGE.out (Kd.R_typed HER.out) (by decide)))).1).trans ((blk_cell HGE.out 0).trans rfl)
 have hy1 := ((ow_same (i := 1) (hg3.block ge (blk_lt HGE.out) (ow_unlike HGE.out (Kd.R_typed HER.out) (by decide)))).1).trans ((blk_cell HGE.out 1).trans rfl)
 have hy2 := ((ow_same (i := 2) (hg3.block ge (blk_lt HGE.out) (ow_unlike HGE.out (Kd.R_typed HER.out) (by decide)))).1).trans ((blk_cell HGE.out 2).trans rfl)
 have hy3 := ((ow_same (i := 3) (hg3.block ge (blk_lt HGE.out) (ow_unlike HGE.out (Kd.R_typed HER.out) (by decide)))).1).trans ((blk_cell HGE.out 3).trans rfl)
 have hy4 := ((ow_same (i := 4) (hg3.block ge (blk_lt HGE.out) (ow_unlike HGE.out (Kd.R_typed HER.out) (by decide)))).1).trans ((blk_cell HGE.out 4).trans rfl)
 have hy5 := ((ow_same (i := 5) (hg3.block ge (blk_lt HGE.out) (ow_unlike HGE.out (Kd.R_typed HER.out) (by decide)))).1).trans ((blk_cell HGE.out 5).trans rfl)
 have hy6 := ((ow_same (i := 6) (hg3.block ge (blk_lt HGE.out) (ow_unlike HGE.out (Kd.R_typed HER.out) (by decide)))).1).trans ((blk_cell HGE.out 6).trans rfl)
 clear hr3 hb3 hg3 hat3
 refine hK.out _ _ ⟨hx0, hx1, hy0, hy1, hy2, hy3, hy4, hy5, hy6⟩ (fun hHeld => ?_)
 clear hK K
 refine norm_ (a' := ?_) ?_ ?_
 rotate_left
 ·
  show Act.put _ (some 25) _ = _
  simp only [Act.put, List.setIfInBounds_toArray, List.set_cons_zero, List.set_cons_succ, i64_w, i32_w]
  rfl
 refine pure_ (i := 17) (N := some 26) (v := ?_) (a' := ?_) #[true, true, true, true, true, true, true, true, true, true, true, true, true, true, true, true, true, true, false] rfl rfl (by kernel_rfl) (fun _ _ _ h => h) (Or.inl ⟨by rfl, ?_⟩) ?_ ?_
 rotate_left
 ·
  intro w'
  go_simp
  with_reducible rfl
 rotate_left
 ·
  simp only [Act.put, List.setIfInBounds_toArray, List.set_cons_zero, List.set_cons_succ, i64_w, i32_w]
  rfl
 refine last_ (i := 18) (N := none) #[true, true, true, true, true, true, true, true, true, true, true, true, true, true, true, true, true, true, true] rfl rfl (by kernel_rfl) (by decide) (fun K hK => ?_)
 refine skip_ (w1 := ?_) (by rfl) rfl ?_ ?_
 rotate_left
 ·
  go_simp
  rfl
 refine hK.out _ _ ?_
 clear hK K
 refine done_ (by kernel_rfl) ?_
 clear hHeld
 have HS4 := am (HS1.out.setB HEH.out HT.out.1 HT.out.2 HNE.out HG3.out HB3.out (by rw [HBT.out]; exact HER.out) HR3.out)
 have HGE4 := am (blk_far (blk_grown HGE.out HG3.out (ow_unlike HGE.out (Kd.R_typed HER.out) (by decide))) (p := ⟨gb, e.f0.toNat, none⟩) (blk_ne HGE.out (HS1.out.typ.1).choose_spec (by decide)) (.slice A3 (bt.length + 1) c3))
 generalize w3.setCell ⟨gb, e.f0.toNat, none⟩ (.slice A3 (bt.length + 1) c3) = w4 at HS4 HGE4 ⊢
 obtain ⟨bn, hbn⟩ : ∃ bn, bt ++ [(⟨seq, e⟩ : S26)] = bn := ⟨_, rfl⟩
 have h := HH.out
 rw [hbn] at h HS4
 have HBN := am hbn
 clear HS1 HEH HNE HG3 HB3 HER HR3 HSC HV1 HH HGE hbn hv1 he1 hg0 hg1 hg2 hg3 hg4 hg5 hg6
 try go_wp2
 generalize hW4 : w4.drew = W4
 replace HGE4 := am (show w4.drew.heap[ge]? = _ from HGE4.out)
 replace HS4 := am HS4.out.drew
 rw [hW4] at HGE4 HS4
 obtain ⟨ok6, A6, c6, he1, -, -, -, -⟩ := ow_elem HS4.out.b e.f0 HT.out.1 HT.out.2
 have hse : (bufs.set e.f0.toNat bn).getD e.f0.toNat [] = bn := by
  have hl := HS4.out.len.1
  have ht := HT.out
  rw [List.length_set] at hl
  rw [List.getD_eq_getElem?_getD, List.getElem?_set_self (by omega)]
  rfl
 rw [hse] at he1
 obtain ⟨hv1, -, -, -, -⟩ := HS4.out.cells HT.out.1 HT.out.2
 have hcp : W4.cell? ⟨gx, 0, none⟩ = some (.int .i64 cap) := (blk_cell HS4.out.x 0).trans rfl
 have hg0 : W4.cell? ⟨ge, 0, none⟩ = some (.int .i64 e.f0) := (blk_cell HGE4.out 0).trans rfl
 have hg1 : W4.cell? ⟨ge, 1, none⟩ = some (.int .i64 e.f1) := (blk_cell HGE4.out 1).trans rfl
 have HW4 := am hW4
 clear hW4 hse
 have HC : Aside0 (((bn.length : Int) == cap) = true ∧ wrF block_Encode.f k e.f0 (bufs.set e.f0.toNat bn) first files = some r ∨ ((bn.length : Int) == cap) = false ∧ ((e.f1 == 2) = true ∧ wrF block_Encode.f k e.f0 (bufs.set e.f0.toNat bn) first files = some r ∨ (e.f1 == 2) = false ∧ (bufs.set e.f0.toNat bn, first, files) = r)) := ⟨by
  by_cases x1 : (bn.length : Int) = cap
  ·
   rw [if_pos (.inl x1)] at h
   exact .inl ⟨by simpa using x1, h⟩
  refine .inr ⟨by simpa using x1, ?_⟩
  by_cases x2 : e.f1 = 2
  ·
   rw [if_pos (.inr x2)] at h
   exact .inl ⟨by simpa using x2, h⟩
  rw [if_neg (by simp [x1, x2])] at h
  exact .inr ⟨by simpa using x2, Option.some.inj h⟩⟩
 clear h
 rcases HC.out with ⟨k1, h⟩ | ⟨k1, ⟨k2, h⟩ | ⟨k2, h⟩⟩
 ·
  have HH := am h
  clear h HC
  refine start_ (n := 19) (S := fun w' => w'.cell? ⟨gx, 4, none⟩ = some (.slice (some ⟨gb, 0, none⟩) T cb) ∧ w'.cell? ⟨gb, e.f0.toNat, none⟩ = some (.slice A6 bn.length c6) ∧ w'.cell? ⟨gx, 0, none⟩ = some (.int .i64 cap) ∧ w'.cell? ⟨ge, 0, none⟩ = some (.int .i64 e.f0) ∧ w'.cell? ⟨ge, 1, none⟩ = some (.int .i64 e.f1)) (ds := []) #[false, false, false, false, false, false, false, false, false, false, false, false, false, false, false, false, false, false, false] (by kernel_rfl) rfl rfl (by rw [HW4.out]; exact ⟨hv1, he1, hcp, hg0, hg1⟩) (fun hHeld => ?_)
  rw [HW4.out] at hHeld ⊢
  clear HW4
  refine pure_ (i := 0) (N := some 27) (v := ?_) (a' := ?_) #[true, false, false, false, false, false, false, false, false, false, false, false, false, false, false, false, false, false, false] rfl rfl (by kernel_rfl) (fun _ _ _ h => h) (Or.inl ⟨by rfl, ?_⟩) ?_ ?_
  rotate_left
  ·
   intro w'
   go_simp
   with_reducible rfl
  rotate_left
  ·
   simp only [Act.put, List.setIfInBounds_toArray, List.set_cons_zero, List.set_cons_succ, i64_w, i32_w]
   rfl
  refine pure_ (i := 1) (N := some 28) (v := ?_) (a' := ?_) #[true, true, false, false, false, false, false, false, false, false, false, false, false, false, false, false, false, false, false] rfl rfl (by kernel_rfl) (fun _ _ _ h => h) (Or.inl ⟨by rfl, ?_⟩) ?_ ?_
  rotate_left
  ·
   intro w'
   go_simp
   with_reducible rfl
  rotate_left
  ·
   simp only [Act.put, List.setIfInBounds_toArray, List.set_cons_zero, List.set_cons_succ, i64_w, i32_w]
   rfl
  refine pure_ (i := 2) (N := some 29) (v := ?_) (a' := ?_) #[true, true, true, false, false, false, false, false, false, false, false, false, false, false, false, false, false, false, false] rfl rfl (by kernel_rfl) (fun _ _ _ h => h) (Or.inl ⟨by rfl, ?_⟩) ?_ ?_
  rotate_left
  ·
   intro w'
   go_simp
   with_reducible rfl
  rotate_left
  ·
   simp only [Act.put, List.setIfInBounds_toArray, List.set_cons_zero, List.set_cons_succ, i64_w, i32_w]
   rfl
  refine pure_ (i := 4) (N := some 31) (v := ?_) (a' := ?_) #[true, true, true, false, true, false, false, false, false, false, false, false, false, false, false, false, false, false, false] rfl rfl (by kernel_rfl) (fun _ _ _ h => h) (Or.inl ⟨by rfl, ?_⟩) ?_ ?_
  rotate_left
  ·
   intro w'
   go_simp
   with_reducible rfl
  rotate_left
  ·
   simp only [Act.put, List.setIfInBounds_toArray, List.set_cons_zero, List.set_cons_succ, i64_w, i32_w]
   rfl
  refine pure_ (i := 8) (N := some 35) (v := ?_) (a' := ?_) #[true, true, true, false, true, false, false, false, true, false, false, false, false, false, false, false, false, false, false] rfl rfl (by kernel_rfl) (fun _ _ _ h => h) (Or.inl ⟨by rfl, ?_⟩) ?_ ?_
  rotate_left
  ·
   intro w'
   go_simp
   with_reducible rfl
  rotate_left
  ·
   simp only [Act.put, List.setIfInBounds_toArray, List.set_cons_zero, List.set_cons_succ, i64_w, i32_w]
   rfl
  refine pure_ (i := 9) (N := some 36) (v := ?_) (a' := ?_) #[true, true, true, false, true, false, false, false, true, true, false, false, false, false, false, false, false, false, false] rfl rfl (by kernel_rfl) (fun _ _ _ h => h) (Or.inl ⟨by rfl, ?_⟩) ?_ ?_
  rotate_left
  ·
   intro w'
   go_simp
   with_reducible rfl
  rotate_left
  ·
   simp only [Act.put, List.setIfInBounds_toArray, List.set_cons_zero, List.set_cons_succ, i64_w, i32_w]
   rfl
  refine pure_ (i := 10) (N := some 37) (v := ?_) (a' := ?_) #[true, true, true, false, true, false, false, false, true, true, true, false, false, false, false, false, false, false, false] rfl rfl (by kernel_rfl) (fun _ _ _ h => h) (Or.inl ⟨by rfl, ?_⟩) ?_ ?_
  rotate_left
  ·
   intro w'
   go_simp
   with_reducible rfl
  rotate_left
  ·
   simp only [Act.put, List.setIfInBounds_toArray, List.set_cons_zero, List.set_cons_succ, i64_w, i32_w]
   rfl
  refine pure_ (i := 11) (N := some 38) (v := ?_) (a' := ?_) #[true, true, true, false, true, false, false, false, true, true, true, true, false, false, false, false, false, false, false] rfl rfl (by kernel_rfl) (fun _ _ _ h => h) (Or.inl ⟨by rfl, ?_⟩) ?_ ?_
  rotate_left
  ·
   intro w'
   go_simp
   with_reducible rfl
  rotate_left
  ·
   simp only [Act.put, List.setIfInBounds_toArray, List.set_cons_zero, List.set_cons_succ, i64_w, i32_w]
   rfl
  refine take_ (i := 3) (N := some 30) (v := ?_) (a' := ?_) #[true, true, true, true, true, false, false, false, true, true, true, true, false, false, false, false, false, false, false] rfl rfl (by kernel_rfl) (fun _ _ _ h => h) (Or.inl ⟨by rfl, ?_⟩) hHeld ?_ ?_
  rotate_left
  ·
   rintro w' ⟨s0, s1, s2, s3, s4⟩
   go_simp
   with_reducible rfl
  rotate_left
  ·
   simp only [Act.put, List.setIfInBounds_toArray, List.set_cons_zero, List.set_cons_succ, i64_w, i32_w]
   rfl
  refine pure_ (i := 5) (N := some 32) (v := ?_) (a' := ?_) #[true, true, true, true, true, true, false, false, true, true, true, true, false, false, false, false, false, false, false] rfl rfl (by kernel_rfl) (fun _ _ _ h => h) (Or.inl ⟨by rfl, ?_⟩) ?_ ?_
  rotate_left
  ·
   intro w'
   go_simp
   with_reducible rfl
  rotate_left
  ·
   simp only [Act.put, List.setIfInBounds_toArray, List.set_cons_zero, List.set_cons_succ, i64_w, i32_w]
   rfl
  refine take_ (i := 6) (N := some 33) (v := ?_) (a' := ?_) #[true, true, true, true, true, true, true, false, true, true, true, true, false, false, false, false, false, false, false] rfl rfl (by kernel_rfl) (fun _ _ _ h => h) (Or.inl ⟨by rfl, ?_⟩) hHeld ?_ ?_
  rotate_left
  ·
   rintro w' ⟨s0, s1, s2, s3, s4⟩
   go_simp
   with_reducible rfl
  rotate_left
  ·
   simp only [Act.put, List.setIfInBounds_toArray, List.set_cons_zero, List.set_cons_succ, i64_w, i32_w]
   rfl
  refine pure_ (i := 7) (N := some 34) (v := ?_) (a' := ?_) #[true, true, true, true, true, true, true, true, true, true, true, true, false, false, false, false, false, false, false] rfl rfl (by kernel_rfl) (fun _ _ _ h => h) (Or.inl ⟨by rfl, ?_⟩) ?_ ?_
  rotate_left
  ·
   intro w'
   go_simp
   with_reducible rfl
  rotate_left
  ·
   simp only [Act.put, List.setIfInBounds_toArray, List.set_cons_zero, List.set_cons_succ, i64_w, i32_w]
   rfl
  refine take_ (i := 12) (N := some 39) (v := ?_) (a' := ?_) #[true, true, true, true, true, true, true, true, true, true, true, true, true, false, false, false, false, false, false] rfl rfl (by kernel_rfl) (fun _ _ _ h => h) (Or.inl ⟨by rfl, ?_⟩) hHeld ?_ ?_
  rotate_left
  ·
   rintro w' ⟨s0, s1, s2, s3, s4⟩
   go_simp
   with_reducible rfl
  rotate_left
  ·
   simp only [Act.put, List.setIfInBounds_toArray, List.set_cons_zero, List.set_cons_succ, i64_w, i32_w]
   rfl
  refine pure_ (i := 13) (N := some 40) (v := ?_) (a' := ?_) #[true, true, true, true, true, true, true, true, true, true, true, true, true, true, false, false, false, false, false] rfl rfl (by kernel_rfl) (fun _ _ _ h => h) (Or.inl ⟨by rfl, ?_⟩) ?_ ?_
  rotate_left
  ·
   intro w'
   go_simp
   with_reducible rfl
  rotate_left
  ·
   simp only [Act.put, List.setIfInBounds_toArray, List.set_cons_zero, List.set_cons_succ, i64_w, i32_w]
   rfl
  refine pure_ (i := 14) (N := some 41) (v := ?_) (a' := ?_) #[true, true, true, true, true, true, true, true, true, true, true, true, true, true, true, false, false, false, false] rfl rfl (by kernel_rfl) (fun _ _ _ h => h) (Or.inl ⟨by rfl, ?_⟩) ?_ ?_
  rotate_left
  ·
   intro w'
   go_simp
   with_reducible rfl
  rotate_left
  ·
   simp only [Act.put, List.setIfInBounds_toArray, List.set_cons_zero, List.set_cons_succ, i64_w, i32_w]
   rfl
  refine pure_ (i := 15) (N := some 42) (v := undef) (a' := ?_) #[true, true, true, true, true, true, true, true, true, true, true, true, true, true, true, true, false, false, false] rfl rfl (by kernel_rfl) (fun _ _ _ h => h) (Or.inr ⟨by rfl, rfl⟩) ?_ ?_
  rotate_left
  ·
   simp only [Act.put, List.setIfInBounds_toArray, List.set_cons_zero, List.set_cons_succ, i64_w, i32_w]
   rfl
  refine pure_ (i := 16) (N := some 43) (v := undef) (a' := ?_) #[true, true, true, true, true, true, true, true, true, true, true, true, true, true, true, true, true, false, false] rfl rfl (by kernel_rfl) (fun _ _ _ h => h) (Or.inr ⟨by rfl, rfl⟩) ?_ ?_
  rotate_left
  ·
   simp only [Act.put, List.setIfInBounds_toArray, List.set_cons_zero, List.set_cons_succ, i64_w, i32_w]
   rfl
  refine pure_ (i := 17) (N := some 44) (v := undef) (a' := ?_) #[true, true, true, true, true, true, true, true, true, true, true, true, true, true, true, true, true, true, false] rfl rfl (by kernel_rfl) (fun _ _ _ h => h) (Or.inr ⟨by rfl, rfl⟩) ?_ ?_
  rotate_left
  ·
   simp only [Act.put, List.setIfInBounds_toArray, List.set_cons_zero, List.set_cons_succ, i64_w, i32_w]
   rfl
  refine pure_ (i := 18) (N := some 45) (v := ?_) (a' := ?_) #[true, true, true, true, true, true, true, true, true, true, true, true, true, true, true, true, true, true, true] rfl rfl (by kernel_rfl) (fun _ _ _ h => h) (Or.inl ⟨by rfl, ?_⟩) ?_ ?_
  rotate_left
  ·
   intro w'
   go_simp
   with_reducible rfl
  rotate_left
  ·
   simp only [Act.put, List.setIfInBounds_toArray, List.set_cons_zero, List.set_cons_succ, i64_w, i32_w]
   rfl
  refine done_ (by kernel_rfl) ?_
  clear hHeld
  go_wp2_with (go_at_call 81; refine (record_recorder.write k e.f0 w0 _ gx (.int .i64 cap) pb pc pd T _ first files gb cb gf cf gs cs r HS4.out HT.out.1 HT.out.2 HH.out).mono ?_; rintro e' w' ⟨rfl, hS⟩)
  go_end0
  exact ⟨rfl, hS⟩
 all_goals
  have HH := am h
  clear h HC
  refine start_ (n := 19) (S := fun w' => w'.cell? ⟨gx, 4, none⟩ = some (.slice (some ⟨gb, 0, none⟩) T cb) ∧ w'.cell? ⟨gb, e.f0.toNat, none⟩ = some (.slice A6 bn.length c6) ∧ w'.cell? ⟨gx, 0, none⟩ = some (.int .i64 cap) ∧ w'.cell? ⟨ge, 0, none⟩ = some (.int .i64 e.f0) ∧ w'.cell? ⟨ge, 1, none⟩ = some (.int .i64 e.f1)) (ds := []) #[false, false, false, false, false, false, false, false, false, false, false, false, false, false, false, false, false, false, false] (by kernel_rfl) rfl rfl (by rw [HW4.out]; exact ⟨hv1, he1, hcp, hg0, hg1⟩) (fun hHeld => ?_)
  rw [HW4.out] at hHeld ⊢
  clear HW4
  refine pure_ (i := 0) (N := some 27) (v := ?_) (a' := ?_) #[true, false, false, false, false, false, false, false, false, false, false, false, false, false, false, false, false, false, false] rfl rfl (by kernel_rfl) (fun _ _ _ h => h) (Or.inl ⟨by rfl, ?_⟩) ?_ ?_
  rotate_left
  ·
   intro w'
   go_simp
   with_reducible rfl
  rotate_left
  ·
   simp only [Act.put, List.setIfInBounds_toArray, List.set_cons_zero, List.set_cons_succ, i64_w, i32_w]
   rfl
  refine pure_ (i := 1) (N := some 28) (v := ?_) (a' := ?_) #[true, true, false, false, false, false, false, false, false, false, false, false, false, false, false, false, false, false, false] rfl rfl (by kernel_rfl) (fun _ _ _ h => h) (Or.inl ⟨by rfl, ?_⟩) ?_ ?_
  rotate_left
  ·
   intro w'
   go_simp
   with_reducible rfl
  rotate_left
  ·
   simp only [Act.put, List.setIfInBounds_toArray, List.set_cons_zero, List.set_cons_succ, i64_w, i32_w]
   rfl
  refine pure_ (i := 2) (N := some 29) (v := ?_) (a' := ?_) #[true, true, true, false, false, false, false, false, false, false, false, false, false, false, false, false, false, false, false] rfl rfl (by kernel_rfl) (fun _ _ _ h => h) (Or.inl ⟨by rfl, ?_⟩) ?_ ?_
  rotate_left
  ·
   intro w'
   go_simp
   with_reducible rfl
  rotate_left
  ·
   simp only [Act.put, List.setIfInBounds_toArray, List.set_cons_zero, List.set_cons_succ, i64_w, i32_w]
   rfl
  refine pure_ (i := 4) (N := some 31) (v := ?_) (a' := ?_) #[true, true, true, false, true, false, false, false, false, false, false, false, false, false, false, false, false, false, false] rfl rfl (by kernel_rfl) (fun _ _ _ h => h) (Or.inl ⟨by rfl, ?_⟩) ?_ ?_
  rotate_left
  ·
   intro w'
   go_simp
   with_reducible rfl
  rotate_left
  ·
   simp only [Act.put, List.setIfInBounds_toArray, List.set_cons_zero, List.set_cons_succ, i64_w, i32_w]
   rfl
  refine pure_ (i := 8) (N := some 35) (v := ?_) (a' := ?_) #[true, true, true, false, true, false, false, false, true, false, false, false, false, false, false, false, false, false, false] rfl rfl (by kernel_rfl) (fun _ _ _ h => h) (Or.inl ⟨by rfl, ?_⟩) ?_ ?_
  rotate_left
  ·
   intro w'
   go_simp
   with_reducible rfl
  rotate_left
  ·
   simp only [Act.put, List.setIfInBounds_toArray, List.set_cons_zero, List.set_cons_succ, i64_w, i32_w]
   rfl
  refine pure_ (i := 9) (N := some 36) (v := ?_) (a' := ?_) #[true, true, true, false, true, false, false, false, true, true, false, false, false, false, false, false, false, false, false] rfl rfl (by kernel_rfl) (fun _ _ _ h => h) (Or.inl ⟨by rfl, ?_⟩) ?_ ?_
  rotate_left
  ·
   intro w'
   go_simp
   with_reducible rfl
  rotate_left
  ·
   simp only [Act.put, List.setIfInBounds_toArray, List.set_cons_zero, List.set_cons_succ, i64_w, i32_w]
   rfl
  refine pure_ (i := 10) (N := some 37) (v := ?_) (a' := ?_) #[true, true, true, false, true, false, false, false, true, true, true, false, false, false, false, false, false, false, false] rfl rfl (by kernel_rfl) (fun _ _ _ h => h) (Or.inl ⟨by rfl, ?_⟩) ?_ ?_
  rotate_left
  ·
   intro w'
   go_simp
   with_reducible rfl
  rotate_left
  ·
   simp only [Act.put, List.setIfInBounds_toArray, List.set_cons_zero, List.set_cons_succ, i64_w, i32_w]
   rfl
  refine pure_ (i := 11) (N := some 38) (v := ?_) (a' := ?_) #[true, true, true, false, true, false, false, false, true, true, true, true, false, false, false, false, false, false, false] rfl rfl (by kernel_rfl) (fun _ _ _ h => h) (Or.inl ⟨by rfl, ?_⟩) ?_ ?_
  rotate_left
  ·
   intro w'
   go_simp
   with_reducible rfl
  rotate_left
  ·
   simp only [Act.put, List.setIfInBounds_toArray, List.set_cons_zero, List.set_cons_succ, i64_w, i32_w]
   rfl
  refine take_ (i := 3) (N := some 30) (v := ?_) (a' := ?_) #[true, true, true, true, true, false, false, false, true, true, true, true, false, false, false, false, false, false, false] rfl rfl (by kernel_rfl) (fun _ _ _ h => h) (Or.inl ⟨by rfl, ?_⟩) hHeld ?_ ?_
  rotate_left
  ·
   rintro w' ⟨s0, s1, s2, s3, s4⟩
   go_simp
   with_reducible rfl
  rotate_left
  ·
   simp only [Act.put, List.setIfInBounds_toArray, List.set_cons_zero, List.set_cons_succ, i64_w, i32_w]
   rfl
  refine pure_ (i := 5) (N := some 32) (v := ?_) (a' := ?_) #[true, true, true, true, true, true, false, false, true, true, true, true, false, false, false, false, false, false, false] rfl rfl (by kernel_rfl) (fun _ _ _ h => h) (Or.inl ⟨by rfl, ?_⟩) ?_ ?_
  rotate_left
  ·
   intro w'
   go_simp
   with_reducible rfl
  rotate_left
  ·
   simp only [Act.put, List.setIfInBounds_toArray, List.set_cons_zero, List.set_cons_succ, i64_w, i32_w]
   rfl
  refine take_ (i := 6) (N := some 33) (v := ?_) (a' := ?_) #[true, true, true, true, true, true, true, false, true, true, true, true, false, false, false, false, false, false, false] rfl rfl (by kernel_rfl) (fun _ _ _ h => h) (Or.inl ⟨by rfl, ?_⟩) hHeld ?_ ?_
  rotate_left
  ·
   rintro w' ⟨s0, s1, s2, s3, s4⟩
   go_simp
   with_reducible rfl
  rotate_left
  ·
   simp only [Act.put, List.setIfInBounds_toArray, List.set_cons_zero, List.set_cons_succ, i64_w, i32_w]
   rfl
  refine pure_ (i := 7) (N := some 34) (v := ?_) (a' := ?_) #[true, true, true, true, true, true, true, true, true, true, true, true, false, false, false, false, false, false, false] rfl rfl (by kernel_rfl) (fun _ _ _ h => h) (Or.inl ⟨by rfl, ?_⟩) ?_ ?_
  rotate_left
  ·
   intro w'
   go_simp
   with_reducible rfl
  rotate_left
  ·
   simp only [Act.put, List.setIfInBounds_toArray, List.set_cons_zero, List.set_cons_succ, i64_w, i32_w]
   rfl
  refine take_ (i := 12) (N := some 39) (v := ?_) (a' := ?_) #[true, true, true, true, true, true, true, true, true, true, true, true, true, false, false, false, false, false, false] rfl rfl (by kernel_rfl) (fun _ _ _ h => h) (Or.inl ⟨by rfl, ?_⟩) hHeld ?_ ?_
  rotate_left
  ·
   rintro w' ⟨s0, s1, s2, s3, s4⟩
   go_simp
   with_reducible rfl
  rotate_left
  ·
   simp only [Act.put, List.setIfInBounds_toArray, List.set_cons_zero, List.set_cons_succ, i64_w, i32_w]
   rfl
  refine pure_ (i := 13) (N := some 40) (v := ?_) (a' := ?_) #[true, true, true, true, true, true, true, true, true, true, true, true, true, true, false, false, false, false, false] rfl rfl (by kernel_rfl) (fun _ _ _ h => h) (Or.inl ⟨by rfl, ?_⟩) ?_ ?_
  rotate_left
  ·
   intro w'
   go_simp
   with_reducible rfl
  rotate_left
  ·
   simp only [Act.put, List.setIfInBounds_toArray, List.set_cons_zero, List.set_cons_succ, i64_w, i32_w]
   rfl
  refine pure_ (i := 14) (N := some 41) (v := ?_) (a' := ?_) #[true, true, true, true, true, true, true, true, true, true, true, true, true, true, true, false, false, false, false] rfl rfl (by kernel_rfl) (fun _ _ _ h => h) (Or.inl ⟨by rfl, ?_⟩) ?_ ?_
  rotate_left
  ·
   intro w'
   go_simp
   with_reducible rfl
  rotate_left
  ·
   simp only [Act.put, List.setIfInBounds_toArray, List.set_cons_zero, List.set_cons_succ, i64_w, i32_w]
   rfl
  refine pure_ (i := 15) (N := some 42) (v := ?_) (a' := ?_) #[true, true, true, true, true, true, true, true, true, true, true, true, true, true, true, true, false, false, false] rfl rfl (by kernel_rfl) (fun _ _ _ h => h) (Or.inl ⟨by rfl, ?_⟩) ?_ ?_
  rotate_left
  ·
   intro w'
   go_simp
   with_reducible rfl
  rotate_left
  ·
   simp only [Act.put, List.setIfInBounds_toArray, List.set_cons_zero, List.set_cons_succ, i64_w, i32_w]
   rfl
  refine take_ (i := 16) (N := some 43) (v := ?_) (a' := ?_) #[true, true, true, true, true, true, true, true, true, true, true, true, true, true, true, true, true, false, false] rfl rfl (by kernel_rfl) (fun _ _ _ h => h) (Or.inl ⟨by rfl, ?_⟩) hHeld ?_ ?_
  rotate_left
  ·
   rintro w' ⟨s0, s1, s2, s3, s4⟩
   go_simp
   with_reducible rfl
  rotate_left
  ·
   simp only [Act.put, List.setIfInBounds_toArray, List.set_cons_zero, List.set_cons_succ, i64_w, i32_w]
   rfl
  refine pure_ (i := 17) (N := some 44) (v := ?_) (a' := ?_) #[true, true, true, true, true, true, true, true, true, true, true, true, true, true, true, true, true, true, false] rfl rfl (by kernel_rfl) (fun _ _ _ h => h) (Or.inl ⟨by rfl, ?_⟩) ?_ ?_
  rotate_left
  ·
   intro w'
   go_simp
   with_reducible rfl
  rotate_left
  ·
   simp only [Act.put, List.setIfInBounds_toArray, List.set_cons_zero, List.set_cons_succ, i64_w, i32_w]
   rfl
  refine pure_ (i := 18) (N := some 45) (v := ?_) (a' := ?_) #[true, true, true, true, true, true, true, true, true, true, true, true, true, true, true, true, true, true, true] rfl rfl (by kernel_rfl) (fun _ _ _ h => h) (Or.inl ⟨by rfl, ?_⟩) ?_ ?_
  rotate_left
  ·
   intro w'
   go_simp
   with_reducible rfl
  rotate_left
  ·
   simp only [Act.put, List.setIfInBounds_toArray, List.set_cons_zero, List.set_cons_succ, i64_w, i32_w]
   rfl
  refine done_ (by kernel_rfl) ?_
  clear hHeld
 ·
  go_wp2_with (go_at_call 81; refine (record_recorder.write k e.f0 w0 _ gx (.int .i64 cap) pb pc pd T _ first files gb cb gf cf gs cs r HS4.out HT.out.1 HT.out.2 HH.out).mono ?_; rintro e' w' ⟨rfl, hS⟩)
  go_end0
  exact ⟨rfl, hS⟩
 ·
  go_wp2
  go_end0
  have hr := HH.out
  subst hr
  exact ⟨rfl, HS4.out⟩
set_option maxHeartbeats 4000000 in
set_option maxRecDepth 100000 in
theorem record_recorder.flush (k : Nat) (n : Int) (w0 W : World) (gx : Nat) (pa pc pd : Value) (AF : Option Addr) (cF : Nat) (fl : List S57) (T : Nat) (bufs : List (List S26)) (first : List Int) (files : List (List Int)) (gb cb gf cf gs cs : Nat) (r : List (List S26) × List Int × List (List Int)) (hS : record_recorder.St w0 gx pa (.slice AF fl.length cF) pc pd T bufs first files gb cb gf cf gs cs W)
  (hF : Kd.C k57 w0 AF fl.length fl) (h : flF block_Encode.f k n fl bufs first files = some r) :
  Calls Try.prog 59 #[.pointer (some ⟨gx, 0, none⟩), .int .i64 n] W fun e' W' => e' = .returned (.tuple #[]) ∧ record_recorder.St w0 gx pa (.slice AF fl.length cF) pc pd T r.1 r.2.1 r.2.2 gb cb gf cf gs cs W' := by
 have HS := am hS
 have HF := am hF
 have HH := am h
 have hc : W.cell? ⟨gx, 1, none⟩ = some (.slice AF fl.length cF) := (blk_cell hS.x 1).trans rfl
 clear hS hF h
 go_enter Try.func59, Try.ntmps59
 go_wp2
 go_loopw [12] (fun v wr => ∃ (i : Nat) (b : List (List S26)) (z : List Int) (s : List (List Int)), v = .int .i64 (i : Int) ∧ i ≤ fl.length ∧ Aside0 (flF block_Encode.f k n (fl.drop i) b z s = some r) ∧ Aside0 (record_recorder.St w0 gx pa (.slice AF fl.length cF) pc pd T b z s gb cb gf cf gs cs wr)) (fun v _ => fl.length - (intOf v).toNat)
 case atStart => exact ⟨0, bufs, first, files, rfl, Nat.zero_le _, HH, HS⟩
 case round =>
  clear HH HS hc
  obtain ⟨i, b, z, s, rfl, hi, HH, HS⟩ := hrel
  by_cases hlt : i < fl.length
  rotate_left
  ·
   have hr := HH.out
   rw [List.drop_of_length_le (by omega)] at hr
   have hd : ((i : Int) < (fl.length : Int)) = False := eq_false (by omega)
   have hd2 : decide (i < fl.length) = false := decide_eq_false hlt
   have HR := am (Option.some.inj hr)
   clear hr hi hlt
   go_wp2
   go_end0
   have hr := HR.out
   subst hr
   exact ⟨rfl, HS.out⟩
  have hr := HH.out
  rw [List.drop_eq_getElem_cons hlt] at hr
  unfold flF at hr
  obtain ⟨f, hf⟩ : ∃ f, fl[i] = f := ⟨_, rfl⟩
  rw [hf] at hr
  obtain ⟨ad, rfl, hx0, hx1⟩ := at_T57 HF.out (i : Int) (by omega) (by omega)
  rw [show rd_T57 fl (i : Int) = f from by rw [← hf]; simp [rd_T57, List.getD_eq_getElem?_getD, List.getElem?_eq_getElem hlt]] at hx0 hx1
  have hz0 := (HS.out.B.cell (World.block_lt_of_cell? w0 _ hx0)).trans hx0
  have hz1 := (HS.out.B.cell (World.block_lt_of_cell? w0 _ hx1)).trans hx1
  rw [Int.toNat_natCast] at hz0 hz1
  have hd2 : decide (i < fl.length) = true := decide_eq_true hlt
  have hd3 : (i < fl.length) = True := eq_true hlt
  have HI := am hlt
  have hm9 : fl.length ≤ 9223372036854775807 := HF.out.2.1
  have HHr := am hr
  clear hx0 hx1 hf hi hr HH hd2 hd3
  have HC : Aside0 ((f.f0 == n) = false ∧ flF block_Encode.f k n (fl.drop (i + 1)) b z s = some r ∨ (f.f0 == n) = true ∧ 0 ≤ f.f1 ∧ f.f1 < (b.length : Int) ∧ ∃ q, wrF block_Encode.f k f.f1 b z s = some q ∧ flF block_Encode.f k n (fl.drop (i + 1)) q.1 q.2.1 q.2.2 = some r) := ⟨by
   have h := HHr.out
   by_cases x1 : f.f0 = n
   ·
    rw [if_pos x1] at h
    by_cases x2 : 0 ≤ f.f1 ∧ f.f1 < (b.length : Int)
    ·
     rw [if_pos x2] at h
     obtain ⟨q, hq, h⟩ := Option.bind_eq_some_iff.mp h
     exact .inr ⟨by simpa using x1, x2.1, x2.2, q, hq, h⟩
    ·
     rw [if_neg x2] at h
     cases h
   ·
    rw [if_neg x1] at h
    exact .inl ⟨by simpa using x1, h⟩⟩
  clear HHr
  rcases HC.out with ⟨k1, h⟩ | ⟨k1, h0, h1, q, hq, h⟩
  ·
   have HH := am h
   clear HC h
   go_wp2
   go_roundw
   case rel => exact ⟨i + 1, b, z, s, by simp, HI.out, HH, ⟨HS.out.below (below_alloc (Below.refl _ _) _)⟩⟩
   case measure => simp [intOf]; omega
  ·
   have HH := am h
   have HQ := am hq
   have HT := am (And.intro h0 (show f.f1 < (T : Int) by rw [HS.out.len.1]; exact h1))
   clear HC h hq h0 h1
   go_wp2_with (go_at_call 81; refine (record_recorder.write k f.f1 w0 _ gx pa (.slice (some ad) fl.length cF) pc pd T b z s gb cb gf cf gs cs q (HS.out.below (below_alloc (Below.refl _ _) _)) HT.out.1 HT.out.2 HQ.out).mono ?_; rintro e' w' ⟨rfl, hS⟩; have HS2 := am hS; clear hS)
   go_roundw
   case rel => exact ⟨i + 1, q.1, q.2.1, q.2.2, by simp, HI.out, HH, HS2⟩
   case measure => simp [intOf]; omega
def record_Files.cut (c n : Int) : Int := mx (wrap64 (n - c)) 0
def record_Files.f (k : Nat) (l : List S24) (a1 cap : Int) (fl : List S57) (stop : Int) (cuts : List Int) : Option (List (List Int) × Int) := flsF record_check.f block_Encode.f record_Files.cut k l a1 cap fl stop cuts
theorem record_Files.mono : ∀ a0 a1 a2 a3 a4 a5 k, LeO (record_Files.f k a0 a1 a2 a3 a4 a5) (record_Files.f (k + 1) a0 a1 a2 a3 a4 a5) := fun _ _ _ _ _ _ _ => flsF_mono (fun _ _ _ _ => block_Encode.mono _ _ _ _) (fun _ _ _ _ _ _ _ => record_check.mono _ _ _ _ _ _ _) _ _ _ _ _ _ _ _
attribute [local go_sem] max2_int min2_int max_two min_two
set_option maxHeartbeats 4000000 in
set_option maxRecDepth 100000 in
theorem record_Files.calls (k : Nat) (A0 : Option Addr) (c0 : Nat) (l0 : List (S24)) (a1 : Int) (cap : Int) (AF : Option Addr) (cF : Nat) (fl : List (S57)) (stop : Int) (AC : Option Addr) (cC : Nat) (cuts : List Int) (r1 : List (List Int)) (r2 : Int) (w : World) (hr0 : Kd.C k24 w A0 l0.length l0) (hc0 : l0.length ≤ c0) (hr2_1 : Kd.C k57 w AF fl.length fl) (hc2_1 : fl.length ≤ cF) (hr2_3 : Kd.C (Kd.int .i64) w AC cuts.length cuts) (hc2_3 : cuts.length ≤ cC) (h : record_Files.f k l0 a1 cap fl stop cuts = some (r1, r2)) :
  Calls Try.prog 25 #[.slice A0 l0.length c0, .int .i64 a1, .agg #[.int .i64 cap, .slice AF fl.length cF, .int .i64 stop, .slice AC cuts.length cC]] w fun e w' => ∃ v0_ : Value, e = .returned (.tuple #[v0_, .int .i64 r2]) ∧ Kd.S (Kd.slice 5 (Kd.int .u8)) 27 w' w.heap.size (fun _ => True) v0_ r1 ∧ Below w.heap.size w w' := by
 have HR0 := am hr0
 have HC0 := am hc0
 have HRF := am hr2_1
 have HCF := am hc2_1
 have HRC := am hr2_3
 have HCC := am hc2_3
 clear hr0 hc0 hr2_1 hc2_1 hr2_3 hc2_3
 unfold record_Files.f flsF at h
 obtain ⟨ev, hq, h⟩ := Option.bind_eq_some_iff.mp h
 have HQ := am hq
 have hm : Try.prog.follows .mixedOrders = true := by kernel_rfl
 clear hq
 by_cases ce : ev = 0
 rotate_left
 ·
  rw [if_neg ce] at h
  have HH := am (Option.some.inj h)
  have c1 : (ev != 0) = true := bne_iff_ne.mpr ce
  clear h ce
  go_enter Try.func25, Try.ntmps25
  go_wp2_with (first | ((with_reducible refine gate_dst (N := 5) rfl ?_); refine zB 5 #[.int .i64 cap, .slice AF fl.length cF, .int .i64 stop, .slice AC cuts.length cC] 49 ?_; intro gp hg w1 hx hb; have HP1 := am hx; have HB1 := am hb; have HGP := am (show w.heap.size ≤ gp by rw [hg]; exact Nat.le_refl _); have hp0 := (blk_cell hx 0).trans rfl; have hp1 := (blk_cell hx 1).trans rfl; have hp2 := (blk_cell hx 2).trans rfl; have hp3 := (blk_cell hx 3).trans rfl; clear hg hx hb) | (go_at_call 58; (with_reducible refine (record_check.calls k A0 c0 l0 _ cap AF cF fl stop AC cC cuts _ _ (Kd.C_below HR0.out HB1.out) HC0.out (Kd.C_below HRF.out HB1.out) HCF.out (Kd.C_below HRC.out HB1.out) HCC.out HQ.out).mono ?_); rintro e w2 ⟨rfl, hb⟩; have HP2 := am (blk_below HP1.out hb); have HB2 := am (below_step HB1.out hb); clear hb hp0 hp1 hp2 hp3))
  have hh := HH.out
  simp only [Prod.mk.injEq] at hh
  obtain ⟨rfl, rfl⟩ := hh
  go_ret2
  exact ⟨_, rfl, Kd.S_nil _ _ _ _ _, HB2.out⟩
 rw [if_pos ce] at h
 subst ce
 by_cases ct : 1 ≤ a1 ∧ a1 ≤ 4 ∧ 0 ≤ stop ∧ l0.length ≤ 400
 rotate_left
 ·
  rw [if_neg ct] at h
  cases h
 rw [if_pos ct] at h
 obtain ⟨t1, t2, t3, t4⟩ := ct
 have HL4 := am t4
 obtain ⟨T, rfl⟩ := Int.eq_ofNat_of_zero_le (Int.le_trans (by decide) t1)
 have HT4 := am (show 1 ≤ T ∧ T ≤ 4 by omega)
 rw [Int.toNat_natCast] at h
 obtain ⟨q1, hq1, h⟩ := Option.bind_eq_some_iff.mp h
 obtain ⟨q2, hq2, h⟩ := Option.bind_eq_some_iff.mp h
 obtain ⟨q3, hq3, h⟩ := Option.bind_eq_some_iff.mp h
 have HQ1 := am hq1
 have HQ2 := am hq2
 have HQ3 := am hq3
 have HST := am t3
 have HH := am (Option.some.inj h)
 clear h hq1 hq2 hq3 t1 t2 t3 t4
 have c1 : ((0 : Int) != 0) = false := rfl
 go_enter Try.func25, Try.ntmps25
 go_wp2_with (first | ((with_reducible refine gate_dst (N := 5) rfl ?_); refine zB 5 #[.int .i64 cap, .slice AF fl.length cF, .int .i64 stop, .slice AC cuts.length cC] 49 ?_; intro gp hg w1 hx hb; have HP1 := am hx; have HB1 := am hb; have HGP := am (show w.heap.size ≤ gp by rw [hg]; exact Nat.le_refl _); have hp0 := (blk_cell hx 0).trans rfl; have hp1 := (blk_cell hx 1).trans rfl; have hp2 := (blk_cell hx 2).trans rfl; have hp3 := (blk_cell hx 3).trans rfl; clear hg hx hb) | (go_at_call 58; (with_reducible refine (record_check.calls k A0 c0 l0 _ cap AF cF fl stop AC cC cuts _ _ (Kd.C_below HR0.out HB1.out) HC0.out (Kd.C_below HRF.out HB1.out) HCF.out (Kd.C_below HRC.out HB1.out) HCC.out HQ.out).mono ?_); rintro e w2 ⟨rfl, hb⟩; have HP2 := am (blk_below HP1.out hb); have HB2 := am (below_step HB1.out hb); clear hb hp0 hp1 hp2 hp3))
 clear c1
 try go_wp2
 generalize hW0 : w2.drew = W0
 replace HP2 := am (show w2.drew.heap[gp]? = _ from HP2.out)
 replace HB2 := am HB2.out.drew
 rw [hW0] at HP2 HB2
 have HW0 := am hW0
 obtain ⟨w0, hw0⟩ : ∃ w0, W0 = w0 := ⟨_, rfl⟩
 have HB_W0 := am (show Below w0.heap.size w0 W0 by rw [← hw0]; exact Below.refl _ _)
 have HD_W0 := am (Below.refl W0.heap.size W0)
 have HE0 := am hw0
 clear hW0 hw0
 obtain ⟨hp0, hp1, hp2, hp3⟩ := zc4 HP2
 refine start_ (n := 10) (S := fun w' => w'.cell? ⟨gp, 0, none⟩ = some (.int .i64 cap) ∧ w'.cell? ⟨gp, 1, none⟩ = some (.slice AF fl.length cF) ∧ w'.cell? ⟨gp, 2, none⟩ = some (.int .i64 stop) ∧ w'.cell? ⟨gp, 3, none⟩ = some (.slice AC cuts.length cC)) (ds := [8]) #[false, false, false, false, false, false, false, false, false, false] (by kernel_rfl) rfl rfl (by rw [HW0.out]; exact ⟨hp0, hp1, hp2, hp3⟩) (fun hHeld => ?_)
 rw [HW0.out] at hHeld ⊢
 clear HW0
 refine pure_ (i := 1) (N := some 21) (v := ?_) (a' := ?_) #[false, true, false, false, false, false, false, false, false, false] rfl rfl (by kernel_rfl) (fun _ _ _ h => h) (Or.inl ⟨by rfl, ?_⟩) ?_ ?_
 rotate_left
 ·
  intro w'
  go_simp
  with_reducible rfl
 rotate_left
 ·
  simp only [Act.put, List.setIfInBounds_toArray, List.set_cons_zero, List.set_cons_succ, i64_w, i32_w]
  rfl
 refine pure_ (i := 3) (N := some 23) (v := ?_) (a' := ?_) #[false, true, false, true, false, false, false, false, false, false] rfl rfl (by kernel_rfl) (fun _ _ _ h => h) (Or.inl ⟨by rfl, ?_⟩) ?_ ?_
 rotate_left
 ·
  intro w'
  go_simp
  with_reducible rfl
 rotate_left
 ·
  simp only [Act.put, List.setIfInBounds_toArray, List.set_cons_zero, List.set_cons_succ, i64_w, i32_w]
  rfl
 refine pure_ (i := 5) (N := some 25) (v := ?_) (a' := ?_) #[false, true, false, true, false, true, false, false, false, false] rfl rfl (by kernel_rfl) (fun _ _ _ h => h) (Or.inl ⟨by rfl, ?_⟩) ?_ ?_
 rotate_left
 ·
  intro w'
  go_simp
  with_reducible rfl
 rotate_left
 ·
  simp only [Act.put, List.setIfInBounds_toArray, List.set_cons_zero, List.set_cons_succ, i64_w, i32_w]
  rfl
 refine take_ (i := 0) (N := some 20) (v := ?_) (a' := ?_) #[true, true, false, true, false, true, false, false, false, false] rfl rfl (by kernel_rfl) (fun _ _ _ h => h) (Or.inl ⟨by rfl, ?_⟩) hHeld ?_ ?_
 rotate_left
 ·
  rintro w' ⟨s0, s1, s2, s3⟩
  go_simp
  with_reducible rfl
 rotate_left
 ·
  simp only [Act.put, List.setIfInBounds_toArray, List.set_cons_zero, List.set_cons_succ, i64_w, i32_w]
  rfl
 refine join_ (σ := Value × Value × Value) 3 #[true, true, true, true, true, true, true, false, false, false] (fun s_ => [(22, s_.1), (24, s_.2.1), (26, s_.2.2)]) (fun s_ w' => Kd.S (Kd.slice 26 (Kd.fixed k26 w0)) 40 w' w0.heap.size (fun _ => True) s_.1 (List.replicate T []) ∧ Kd.R (Kd.int .i64) 3 w' w0.heap.size (fun _ => True) s_.2.1 (List.replicate T 0) ∧ Kd.S (Kd.slice 5 (Kd.int .u8)) 27 w' w0.heap.size (fun _ => True) s_.2.2 (List.replicate T []) ∧ Below w0.heap.size w0 w' ∧ Below W0.heap.size W0 w') ?_ ?_
 rotate_left
 ·
  intro hCont
  refine three_ (i := 2) (j := 4) (k := 6) (Ni := some 22) (Nj := some 24) (Nk := some 26) #[true, true, true, true, false, true, false, false, false, false] #[true, true, false, true, true, true, false, false, false, false] #[true, true, false, true, false, true, true, false, false, false] rfl rfl rfl rfl rfl rfl (by kernel_rfl) (by decide) (by decide) (by decide) (fun K hK => ?_) (fun K hK => ?_) (fun K hK => ?_)
  ·
   skip
   refine Kd.S_make_step (Kd.slice 26 (Kd.fixed k26 w0)) (w0 := w0) w0.heap.size 40 (by rfl) rfl 105 (.tmp 21) (.tmp 21) rfl (T : Int) rfl rfl Try.underlying105 (.slice none 0 0) 24 ow_info40 rfl (by show 0 < 1; decide) (by omega) [] (ok := fun _ => True) (okp := fun _ => False) (⟨_, rfl, Kd.R_nil _ _ _ _ _⟩) (fun _ h => h.elim) trivial (Int.natCast_nonneg T) y15 HB_W0.out HB_W0.out.size ?_
   intro v0 x0 hr hb hg _
   rw [Int.toNat_natCast] at hr
   have HR0_x0 := am hr
   have HB_x0 := am hb
   have HD_x0 := am (HD_W0.out.grown hg HD_W0.out.size (fun k e => by cases e))
   clear hr hb hg
   refine hK.out _ _ ⟨((HD_x0.out.cell (World.block_lt_of_cell? W0 _ hp0)).trans hp0), ((HD_x0.out.cell (World.block_lt_of_cell? W0 _ hp1)).trans hp1), ((HD_x0.out.cell (World.block_lt_of_cell? W0 _ hp2)).trans hp2), ((HD_x0.out.cell (World.block_lt_of_cell? W0 _ hp3)).trans hp3)⟩ (fun hHeld => ?_)
   clear hK K
   refine norm_ (a' := ?_) ?_ ?_
   rotate_left
   ·
    show Act.put _ (some 22) _ = _
    simp only [Act.put, List.setIfInBounds_toArray, List.set_cons_zero, List.set_cons_succ, i64_w, i32_w]
    rfl
   refine two_ (i := 4) (j := 6) (Ni := some 24) (Nj := some 26) #[true, true, true, true, true, true, false, false, false, false] #[true, true, true, true, false, true, true, false, false, false] rfl rfl rfl rfl (by kernel_rfl) (by decide) (by decide) (fun K hK => ?_) (fun K hK => ?_)
   ·
    skip
    refine Kd.R_make_step (Kd.int .i64) (w0 := w0) w0.heap.size 3 (by rfl) rfl 22 (.tmp 23) (.tmp 23) rfl (T : Int) rfl rfl Try.underlying22 (.int .i64 0) 8 info3 rfl (by show 0 < 1; decide) (by omega) 0 (ok := fun _ => True) (okp := fun _ => False) (rfl) (fun _ h => h.elim) trivial (Int.natCast_nonneg T) y15 HB_x0.out HB_x0.out.size ?_
    intro v1 x01 hr hb hg _
    rw [Int.toNat_natCast] at hr
    have HR1_x01 := am hr
    have HB_x01 := am hb
    have HD_x01 := am (HD_x0.out.grown hg HD_x0.out.size (fun k e => by cases e))
    have HR0_x01 := am (Kd.S_grown HR0_x0.out hg (fun _ _ => by simp))
    clear hr hb hg
    refine hK.out _ _ ⟨((HD_x01.out.cell (World.block_lt_of_cell? W0 _ hp0)).trans hp0), ((HD_x01.out.cell (World.block_lt_of_cell? W0 _ hp1)).trans hp1), ((HD_x01.out.cell (World.block_lt_of_cell? W0 _ hp2)).trans hp2), ((HD_x01.out.cell (World.block_lt_of_cell? W0 _ hp3)).trans hp3)⟩ (fun hHeld => ?_)
    clear hK K
    refine norm_ (a' := ?_) ?_ ?_
    rotate_left
    ·
     show Act.put _ (some 24) _ = _
     simp only [Act.put, List.setIfInBounds_toArray, List.set_cons_zero, List.set_cons_succ, i64_w, i32_w]
     rfl
    refine one_ (i := 6) (N := some 26) #[true, true, true, true, true, true, true, false, false, false] rfl rfl (by kernel_rfl) (by decide) (fun K hK => ?_)
    refine Kd.S_make_step (Kd.slice 5 (Kd.int .u8)) (w0 := w0) w0.heap.size 27 (by rfl) rfl 51 (.tmp 25) (.tmp 25) rfl (T : Int) rfl rfl Try.underlying51 (.slice none 0 0) 24 ow_info27 rfl (by show 0 < 1; decide) (by omega) [] (ok := fun _ => True) (okp := fun _ => False) (⟨_, rfl, Kd.R_nil _ _ _ _ _⟩) (fun _ h => h.elim) trivial (Int.natCast_nonneg T) y15 HB_x01.out HB_x01.out.size ?_
    intro v2 x012 hr hb hg _
    rw [Int.toNat_natCast] at hr
    have HR2_x012 := am hr
    have HB_x012 := am hb
    have HD_x012 := am (HD_x01.out.grown hg HD_x01.out.size (fun k e => by cases e))
    have HR0_x012 := am (Kd.S_grown HR0_x01.out hg (fun _ _ => by simp))
    have HR1_x012 := am (Kd.R_grown HR1_x01.out hg (fun _ _ => by simp))
    clear hr hb hg
    refine hK.out _ _ ⟨((HD_x012.out.cell (World.block_lt_of_cell? W0 _ hp0)).trans hp0), ((HD_x012.out.cell (World.block_lt_of_cell? W0 _ hp1)).trans hp1), ((HD_x012.out.cell (World.block_lt_of_cell? W0 _ hp2)).trans hp2), ((HD_x012.out.cell (World.block_lt_of_cell? W0 _ hp3)).trans hp3)⟩ (fun hHeld => ?_)
    clear hK K
    refine norm_ (a' := ?_) ?_ ?_
    rotate_left
    ·
     show Act.put _ (some 26) _ = _
     simp only [Act.put, List.setIfInBounds_toArray, List.set_cons_zero, List.set_cons_succ, i64_w, i32_w]
     rfl
    exact norm_ y18 (hCont (v0, v1, v2) _ ⟨HR0_x012.out, HR1_x012.out, HR2_x012.out, HB_x012.out, HD_x012.out⟩)
   ·
    skip
    refine Kd.S_make_step (Kd.slice 5 (Kd.int .u8)) (w0 := w0) w0.heap.size 27 (by rfl) rfl 51 (.tmp 25) (.tmp 25) rfl (T : Int) rfl rfl Try.underlying51 (.slice none 0 0) 24 ow_info27 rfl (by show 0 < 1; decide) (by omega) [] (ok := fun _ => True) (okp := fun _ => False) (⟨_, rfl, Kd.R_nil _ _ _ _ _⟩) (fun _ h => h.elim) trivial (Int.natCast_nonneg T) y15 HB_x0.out HB_x0.out.size ?_
    intro v2 x02 hr hb hg _
    rw [Int.toNat_natCast] at hr
    have HR2_x02 := am hr
    have HB_x02 := am hb
    have HD_x02 := am (HD_x0.out.grown hg HD_x0.out.size (fun k e => by cases e))
    have HR0_x02 := am (Kd.S_grown HR0_x0.out hg (fun _ _ => by simp))
    clear hr hb hg
    refine hK.out _ _ ⟨((HD_x02.out.cell (World.block_lt_of_cell? W0 _ hp0)).trans hp0), ((HD_x02.out.cell (World.block_lt_of_cell? W0 _ hp1)).trans hp1), ((HD_x02.out.cell (World.block_lt_of_cell? W0 _ hp2)).trans hp2), ((HD_x02.out.cell (World.block_lt_of_cell? W0 _ hp3)).trans hp3)⟩ (fun hHeld => ?_)
    clear hK K
    refine norm_ (a' := ?_) ?_ ?_
    rotate_left
    ·
     show Act.put _ (some 26) _ = _
     simp only [Act.put, List.setIfInBounds_toArray, List.set_cons_zero, List.set_cons_succ, i64_w, i32_w]
     rfl
    refine one_ (i := 4) (N := some 24) #[true, true, true, true, true, true, true, false, false, false] rfl rfl (by kernel_rfl) (by decide) (fun K hK => ?_)
    refine Kd.R_make_step (Kd.int .i64) (w0 := w0) w0.heap.size 3 (by rfl) rfl 22 (.tmp 23) (.tmp 23) rfl (T : Int) rfl rfl Try.underlying22 (.int .i64 0) 8 info3 rfl (by show 0 < 1; decide) (by omega) 0 (ok := fun _ => True) (okp := fun _ => False) (rfl) (fun _ h => h.elim) trivial (Int.natCast_nonneg T) y15 HB_x02.out HB_x02.out.size ?_
    intro v1 x021 hr hb hg _
    rw [Int.toNat_natCast] at hr
    have HR1_x021 := am hr
    have HB_x021 := am hb
    have HD_x021 := am (HD_x02.out.grown hg HD_x02.out.size (fun k e => by cases e))
    have HR0_x021 := am (Kd.S_grown HR0_x02.out hg (fun _ _ => by simp))
    have HR2_x021 := am (Kd.S_grown HR2_x02.out hg (fun _ _ => by simp))
    clear hr hb hg
    refine hK.out _ _ ⟨((HD_x021.out.cell (World.block_lt_of_cell? W0 _ hp0)).trans hp0), ((HD_x021.out.cell (World.block_lt_of_cell? W0 _ hp1)).trans hp1), ((HD_x021.out.cell (World.block_lt_of_cell? W0 _ hp2)).trans hp2), ((HD_x021.out.cell (World.block_lt_of_cell? W0 _ hp3)).trans hp3)⟩ (fun hHeld => ?_)
    clear hK K
    refine norm_ (a' := ?_) ?_ ?_
    rotate_left
    ·
     show Act.put _ (some 24) _ = _
     simp only [Act.put, List.setIfInBounds_toArray, List.set_cons_zero, List.set_cons_succ, i64_w, i32_w]
     rfl
    exact norm_ y18 (hCont (v0, v1, v2) _ ⟨HR0_x021.out, HR1_x021.out, HR2_x021.out, HB_x021.out, HD_x021.out⟩)
  ·
   skip
   refine Kd.R_make_step (Kd.int .i64) (w0 := w0) w0.heap.size 3 (by rfl) rfl 22 (.tmp 23) (.tmp 23) rfl (T : Int) rfl rfl Try.underlying22 (.int .i64 0) 8 info3 rfl (by show 0 < 1; decide) (by omega) 0 (ok := fun _ => True) (okp := fun _ => False) (rfl) (fun _ h => h.elim) trivial (Int.natCast_nonneg T) y15 HB_W0.out HB_W0.out.size ?_
   intro v1 x1 hr hb hg _
   rw [Int.toNat_natCast] at hr
   have HR1_x1 := am hr
   have HB_x1 := am hb
   have HD_x1 := am (HD_W0.out.grown hg HD_W0.out.size (fun k e => by cases e))
   clear hr hb hg
   refine hK.out _ _ ⟨((HD_x1.out.cell (World.block_lt_of_cell? W0 _ hp0)).trans hp0), ((HD_x1.out.cell (World.block_lt_of_cell? W0 _ hp1)).trans hp1), ((HD_x1.out.cell (World.block_lt_of_cell? W0 _ hp2)).trans hp2), ((HD_x1.out.cell (World.block_lt_of_cell? W0 _ hp3)).trans hp3)⟩ (fun hHeld => ?_)
   clear hK K
   refine norm_ (a' := ?_) ?_ ?_
   rotate_left
   ·
    show Act.put _ (some 24) _ = _
    simp only [Act.put, List.setIfInBounds_toArray, List.set_cons_zero, List.set_cons_succ, i64_w, i32_w]
    rfl
   refine two_ (i := 2) (j := 6) (Ni := some 22) (Nj := some 26) #[true, true, true, true, true, true, false, false, false, false] #[true, true, false, true, true, true, true, false, false, false] rfl rfl rfl rfl (by kernel_rfl) (by decide) (by decide) (fun K hK => ?_) (fun K hK => ?_)
   ·
    skip
    refine Kd.S_make_step (Kd.slice 26 (Kd.fixed k26 w0)) (w0 := w0) w0.heap.size 40 (by rfl) rfl 105 (.tmp 21) (.tmp 21) rfl (T : Int) rfl rfl Try.underlying105 (.slice none 0 0) 24 ow_info40 rfl (by show 0 < 1; decide) (by omega) [] (ok := fun _ => True) (okp := fun _ => False) (⟨_, rfl, Kd.R_nil _ _ _ _ _⟩) (fun _ h => h.elim) trivial (Int.natCast_nonneg T) y15 HB_x1.out HB_x1.out.size ?_
    intro v0 x10 hr hb hg _
    rw [Int.toNat_natCast] at hr
    have HR0_x10 := am hr
    have HB_x10 := am hb
    have HD_x10 := am (HD_x1.out.grown hg HD_x1.out.size (fun k e => by cases e))
    have HR1_x10 := am (Kd.R_grown HR1_x1.out hg (fun _ _ => by simp))
    clear hr hb hg
    refine hK.out _ _ ⟨((HD_x10.out.cell (World.block_lt_of_cell? W0 _ hp0)).trans hp0), ((HD_x10.out.cell (World.block_lt_of_cell? W0 _ hp1)).trans hp1), ((HD_x10.out.cell (World.block_lt_of_cell? W0 _ hp2)).trans hp2), ((HD_x10.out.cell (World.block_lt_of_cell? W0 _ hp3)).trans hp3)⟩ (fun hHeld => ?_)
    clear hK K
    refine norm_ (a' := ?_) ?_ ?_
    rotate_left
    ·
     show Act.put _ (some 22) _ = _
     simp only [Act.put, List.setIfInBounds_toArray, List.set_cons_zero, List.set_cons_succ, i64_w, i32_w]
     rfl
    refine one_ (i := 6) (N := some 26) #[true, true, true, true, true, true, true, false, false, false] rfl rfl (by kernel_rfl) (by decide) (fun K hK => ?_)
    refine Kd.S_make_step (Kd.slice 5 (Kd.int .u8)) (w0 := w0) w0.heap.size 27 (by rfl) rfl 51 (.tmp 25) (.tmp 25) rfl (T : Int) rfl rfl Try.underlying51 (.slice none 0 0) 24 ow_info27 rfl (by show 0 < 1; decide) (by omega) [] (ok := fun _ => True) (okp := fun _ => False) (⟨_, rfl, Kd.R_nil _ _ _ _ _⟩) (fun _ h => h.elim) trivial (Int.natCast_nonneg T) y15 HB_x10.out HB_x10.out.size ?_
    intro v2 x102 hr hb hg _
    rw [Int.toNat_natCast] at hr
    have HR2_x102 := am hr
    have HB_x102 := am hb
    have HD_x102 := am (HD_x10.out.grown hg HD_x10.out.size (fun k e => by cases e))
    have HR1_x102 := am (Kd.R_grown HR1_x10.out hg (fun _ _ => by simp))
    have HR0_x102 := am (Kd.S_grown HR0_x10.out hg (fun _ _ => by simp))
    clear hr hb hg
    refine hK.out _ _ ⟨((HD_x102.out.cell (World.block_lt_of_cell? W0 _ hp0)).trans hp0), ((HD_x102.out.cell (World.block_lt_of_cell? W0 _ hp1)).trans hp1), ((HD_x102.out.cell (World.block_lt_of_cell? W0 _ hp2)).trans hp2), ((HD_x102.out.cell (World.block_lt_of_cell? W0 _ hp3)).trans hp3)⟩ (fun hHeld => ?_)
    clear hK K
    refine norm_ (a' := ?_) ?_ ?_
    rotate_left
    ·
     show Act.put _ (some 26) _ = _
     simp only [Act.put, List.setIfInBounds_toArray, List.set_cons_zero, List.set_cons_succ, i64_w, i32_w]
     rfl
    exact norm_ y18 (hCont (v0, v1, v2) _ ⟨HR0_x102.out, HR1_x102.out, HR2_x102.out, HB_x102.out, HD_x102.out⟩)
   ·
    skip
    refine Kd.S_make_step (Kd.slice 5 (Kd.int .u8)) (w0 := w0) w0.heap.size 27 (by rfl) rfl 51 (.tmp 25) (.tmp 25) rfl (T : Int) rfl rfl Try.underlying51 (.slice none 0 0) 24 ow_info27 rfl (by show 0 < 1; decide) (by omega) [] (ok := fun _ => True) (okp := fun _ => False) (⟨_, rfl, Kd.R_nil _ _ _ _ _⟩) (fun _ h => h.elim) trivial (Int.natCast_nonneg T) y15 HB_x1.out HB_x1.out.size ?_
    intro v2 x12 hr hb hg _
    rw [Int.toNat_natCast] at hr
    have HR2_x12 := am hr
    have HB_x12 := am hb
    have HD_x12 := am (HD_x1.out.grown hg HD_x1.out.size (fun k e => by cases e))
    have HR1_x12 := am (Kd.R_grown HR1_x1.out hg (fun _ _ => by simp))
    clear hr hb hg
    refine hK.out _ _ ⟨((HD_x12.out.cell (World.block_lt_of_cell? W0 _ hp0)).trans hp0), ((HD_x12.out.cell (World.block_lt_of_cell? W0 _ hp1)).trans hp1), ((HD_x12.out.cell (World.block_lt_of_cell? W0 _ hp2)).trans hp2), ((HD_x12.out.cell (World.block_lt_of_cell? W0 _ hp3)).trans hp3)⟩ (fun hHeld => ?_)
    clear hK K
    refine norm_ (a' := ?_) ?_ ?_
    rotate_left
    ·
     show Act.put _ (some 26) _ = _
     simp only [Act.put, List.setIfInBounds_toArray, List.set_cons_zero, List.set_cons_succ, i64_w, i32_w]
     rfl
    refine one_ (i := 2) (N := some 22) #[true, true, true, true, true, true, true, false, false, false] rfl rfl (by kernel_rfl) (by decide) (fun K hK => ?_)
    refine Kd.S_make_step (Kd.slice 26 (Kd.fixed k26 w0)) (w0 := w0) w0.heap.size 40 (by rfl) rfl 105 (.tmp 21) (.tmp 21) rfl (T : Int) rfl rfl Try.underlying105 (.slice none 0 0) 24 ow_info40 rfl (by show 0 < 1; decide) (by omega) [] (ok := fun _ => True) (okp := fun _ => False) (⟨_, rfl, Kd.R_nil _ _ _ _ _⟩) (fun _ h => h.elim) trivial (Int.natCast_nonneg T) y15 HB_x12.out HB_x12.out.size ?_
    intro v0 x120 hr hb hg _
    rw [Int.toNat_natCast] at hr
    have HR0_x120 := am hr
    have HB_x120 := am hb
    have HD_x120 := am (HD_x12.out.grown hg HD_x12.out.size (fun k e => by cases e))
    have HR1_x120 := am (Kd.R_grown HR1_x12.out hg (fun _ _ => by simp))
    have HR2_x120 := am (Kd.S_grown HR2_x12.out hg (fun _ _ => by simp))
    clear hr hb hg
    refine hK.out _ _ ⟨((HD_x120.out.cell (World.block_lt_of_cell? W0 _ hp0)).trans hp0), ((HD_x120.out.cell (World.block_lt_of_cell? W0 _ hp1)).trans hp1), ((HD_x120.out.cell (World.block_lt_of_cell? W0 _ hp2)).trans hp2), ((HD_x120.out.cell (World.block_lt_of_cell? W0 _ hp3)).trans hp3)⟩ (fun hHeld => ?_)
    clear hK K
    refine norm_ (a' := ?_) ?_ ?_
    rotate_left
    ·
     show Act.put _ (some 22) _ = _
     simp only [Act.put, List.setIfInBounds_toArray, List.set_cons_zero, List.set_cons_succ, i64_w, i32_w]
     rfl
    exact norm_ y18 (hCont (v0, v1, v2) _ ⟨HR0_x120.out, HR1_x120.out, HR2_x120.out, HB_x120.out, HD_x120.out⟩)
  ·
   skip
   refine Kd.S_make_step (Kd.slice 5 (Kd.int .u8)) (w0 := w0) w0.heap.size 27 (by rfl) rfl 51 (.tmp 25) (.tmp 25) rfl (T : Int) rfl rfl Try.underlying51 (.slice none 0 0) 24 ow_info27 rfl (by show 0 < 1; decide) (by omega) [] (ok := fun _ => True) (okp := fun _ => False) (⟨_, rfl, Kd.R_nil _ _ _ _ _⟩) (fun _ h => h.elim) trivial (Int.natCast_nonneg T) y15 HB_W0.out HB_W0.out.size ?_
   intro v2 x2 hr hb hg _
   rw [Int.toNat_natCast] at hr
   have HR2_x2 := am hr
   have HB_x2 := am hb
   have HD_x2 := am (HD_W0.out.grown hg HD_W0.out.size (fun k e => by cases e))
   clear hr hb hg
   refine hK.out _ _ ⟨((HD_x2.out.cell (World.block_lt_of_cell? W0 _ hp0)).trans hp0), ((HD_x2.out.cell (World.block_lt_of_cell? W0 _ hp1)).trans hp1), ((HD_x2.out.cell (World.block_lt_of_cell? W0 _ hp2)).trans hp2), ((HD_x2.out.cell (World.block_lt_of_cell? W0 _ hp3)).trans hp3)⟩ (fun hHeld => ?_)
   clear hK K
   refine norm_ (a' := ?_) ?_ ?_
   rotate_left
   ·
    show Act.put _ (some 26) _ = _
    simp only [Act.put, List.setIfInBounds_toArray, List.set_cons_zero, List.set_cons_succ, i64_w, i32_w]
    rfl
   refine two_ (i := 2) (j := 4) (Ni := some 22) (Nj := some 24) #[true, true, true, true, false, true, true, false, false, false] #[true, true, false, true, true, true, true, false, false, false] rfl rfl rfl rfl (by kernel_rfl) (by decide) (by decide) (fun K hK => ?_) (fun K hK => ?_)
   ·
    skip
    refine Kd.S_make_step (Kd.slice 26 (Kd.fixed k26 w0)) (w0 := w0) w0.heap.size 40 (by rfl) rfl 105 (.tmp 21) (.tmp 21) rfl (T : Int) rfl rfl Try.underlying105 (.slice none 0 0) 24 ow_info40 rfl (by show 0 < 1; decide) (by omega) [] (ok := fun _ => True) (okp := fun _ => False) (⟨_, rfl, Kd.R_nil _ _ _ _ _⟩) (fun _ h => h.elim) trivial (Int.natCast_nonneg T) y15 HB_x2.out HB_x2.out.size ?_
    intro v0 x20 hr hb hg _
    rw [Int.toNat_natCast] at hr
    have HR0_x20 := am hr
    have HB_x20 := am hb
    have HD_x20 := am (HD_x2.out.grown hg HD_x2.out.size (fun k e => by cases e))
    have HR2_x20 := am (Kd.S_grown HR2_x2.out hg (fun _ _ => by simp))
    clear hr hb hg
    refine hK.out _ _ ⟨((HD_x20.out.cell (World.block_lt_of_cell? W0 _ hp0)).trans hp0), ((HD_x20.out.cell (World.block_lt_of_cell? W0 _ hp1)).trans hp1), ((HD_x20.out.cell (World.block_lt_of_cell? W0 _ hp2)).trans hp2), ((HD_x20.out.cell (World.block_lt_of_cell? W0 _ hp3)).trans hp3)⟩ (fun hHeld => ?_)
    clear hK K
    refine norm_ (a' := ?_) ?_ ?_
    rotate_left
    ·
     show Act.put _ (some 22) _ = _
     simp only [Act.put, List.setIfInBounds_toArray, List.set_cons_zero, List.set_cons_succ, i64_w, i32_w]
     rfl
    refine one_ (i := 4) (N := some 24) #[true, true, true, true, true, true, true, false, false, false] rfl rfl (by kernel_rfl) (by decide) (fun K hK => ?_)
    refine Kd.R_make_step (Kd.int .i64) (w0 := w0) w0.heap.size 3 (by rfl) rfl 22 (.tmp 23) (.tmp 23) rfl (T : Int) rfl rfl Try.underlying22 (.int .i64 0) 8 info3 rfl (by show 0 < 1; decide) (by omega) 0 (ok := fun _ => True) (okp := fun _ => False) (rfl) (fun _ h => h.elim) trivial (Int.natCast_nonneg T) y15 HB_x20.out HB_x20.out.size ?_
    intro v1 x201 hr hb hg _
    rw [Int.toNat_natCast] at hr
    have HR1_x201 := am hr
    have HB_x201 := am hb
    have HD_x201 := am (HD_x20.out.grown hg HD_x20.out.size (fun k e => by cases e))
    have HR2_x201 := am (Kd.S_grown HR2_x20.out hg (fun _ _ => by simp))
    have HR0_x201 := am (Kd.S_grown HR0_x20.out hg (fun _ _ => by simp))
    clear hr hb hg
    refine hK.out _ _ ⟨((HD_x201.out.cell (World.block_lt_of_cell? W0 _ hp0)).trans hp0), ((HD_x201.out.cell (World.block_lt_of_cell? W0 _ hp1)).trans hp1), ((HD_x201.out.cell (World.block_lt_of_cell? W0 _ hp2)).trans hp2), ((HD_x201.out.cell (World.block_lt_of_cell? W0 _ hp3)).trans hp3)⟩ (fun hHeld => ?_)
    clear hK K
    refine norm_ (a' := ?_) ?_ ?_
    rotate_left
    ·
     show Act.put _ (some 24) _ = _
     simp only [Act.put, List.setIfInBounds_toArray, List.set_cons_zero, List.set_cons_succ, i64_w, i32_w]
     rfl
    exact norm_ y18 (hCont (v0, v1, v2) _ ⟨HR0_x201.out, HR1_x201.out, HR2_x201.out, HB_x201.out, HD_x201.out⟩)
   ·
    skip
    refine Kd.R_make_step (Kd.int .i64) (w0 := w0) w0.heap.size 3 (by rfl) rfl 22 (.tmp 23) (.tmp 23) rfl (T : Int) rfl rfl Try.underlying22 (.int .i64 0) 8 info3 rfl (by show 0 < 1; decide) (by omega) 0 (ok := fun _ => True) (okp := fun _ => False) (rfl) (fun _ h => h.elim) trivial (Int.natCast_nonneg T) y15 HB_x2.out HB_x2.out.size ?_
    intro v1 x21 hr hb hg _
    rw [Int.toNat_natCast] at hr
    have HR1_x21 := am hr
    have HB_x21 := am hb
    have HD_x21 := am (HD_x2.out.grown hg HD_x2.out.size (fun k e => by cases e))
    have HR2_x21 := am (Kd.S_grown HR2_x2.out hg (fun _ _ => by simp))
    clear hr hb hg
    refine hK.out _ _ ⟨((HD_x21.out.cell (World.block_lt_of_cell? W0 _ hp0)).trans hp0), ((HD_x21.out.cell (World.block_lt_of_cell? W0 _ hp1)).trans hp1), ((HD_x21.out.cell (World.block_lt_of_cell? W0 _ hp2)).trans hp2), ((HD_x21.out.cell (World.block_lt_of_cell? W0 _ hp3)).trans hp3)⟩ (fun hHeld => ?_)
    clear hK K
    refine norm_ (a' := ?_) ?_ ?_
    rotate_left
    ·
     show Act.put _ (some 24) _ = _
     simp only [Act.put, List.setIfInBounds_toArray, List.set_cons_zero, List.set_cons_succ, i64_w, i32_w]
     rfl
    refine one_ (i := 2) (N := some 22) #[true, true, true, true, true, true, true, false, false, false] rfl rfl (by kernel_rfl) (by decide) (fun K hK => ?_)
    refine Kd.S_make_step (Kd.slice 26 (Kd.fixed k26 w0)) (w0 := w0) w0.heap.size 40 (by rfl) rfl 105 (.tmp 21) (.tmp 21) rfl (T : Int) rfl rfl Try.underlying105 (.slice none 0 0) 24 ow_info40 rfl (by show 0 < 1; decide) (by omega) [] (ok := fun _ => True) (okp := fun _ => False) (⟨_, rfl, Kd.R_nil _ _ _ _ _⟩) (fun _ h => h.elim) trivial (Int.natCast_nonneg T) y15 HB_x21.out HB_x21.out.size ?_
    intro v0 x210 hr hb hg _
    rw [Int.toNat_natCast] at hr
    have HR0_x210 := am hr
    have HB_x210 := am hb
    have HD_x210 := am (HD_x21.out.grown hg HD_x21.out.size (fun k e => by cases e))
    have HR2_x210 := am (Kd.S_grown HR2_x21.out hg (fun _ _ => by simp))
    have HR1_x210 := am (Kd.R_grown HR1_x21.out hg (fun _ _ => by simp))
    clear hr hb hg
    refine hK.out _ _ ⟨((HD_x210.out.cell (World.block_lt_of_cell? W0 _ hp0)).trans hp0), ((HD_x210.out.cell (World.block_lt_of_cell? W0 _ hp1)).trans hp1), ((HD_x210.out.cell (World.block_lt_of_cell? W0 _ hp2)).trans hp2), ((HD_x210.out.cell (World.block_lt_of_cell? W0 _ hp3)).trans hp3)⟩ (fun hHeld => ?_)
    clear hK K
    refine norm_ (a' := ?_) ?_ ?_
    rotate_left
    ·
     show Act.put _ (some 22) _ = _
     simp only [Act.put, List.setIfInBounds_toArray, List.set_cons_zero, List.set_cons_succ, i64_w, i32_w]
     rfl
    exact norm_ y18 (hCont (v0, v1, v2) _ ⟨HR0_x210.out, HR1_x210.out, HR2_x210.out, HB_x210.out, HD_x210.out⟩)
 rintro ⟨v0, v1, v2⟩ W3 ⟨hr0, hr1, hr2, hb, hd⟩
 dsimp only at hr0 hr1 hr2
 obtain ⟨gb, cb, e0, -⟩ := Kd.S_form hr0 (by rw [List.length_replicate]; exact HT4.out.1)
 obtain ⟨gf, cf, e1, -⟩ := Kd.R_form hr1 (by rw [List.length_replicate]; exact HT4.out.1)
 obtain ⟨gs, cs, e2, -⟩ := Kd.S_form hr2 (by rw [List.length_replicate]; exact HT4.out.1)
 rw [List.length_replicate] at e0 e1 e2
 subst e0 e1 e2
 have HR0_ := am hr0
 have HR1_ := am hr1
 have HR2_ := am hr2
 have HB3 := am hb
 have HD3 := am hd
 have hHeld : W3.cell? ⟨gp, 0, none⟩ = some (.int .i64 cap) ∧ W3.cell? ⟨gp, 1, none⟩ = some (.slice AF fl.length cF) ∧ W3.cell? ⟨gp, 2, none⟩ = some (.int .i64 stop) ∧ W3.cell? ⟨gp, 3, none⟩ = some (.slice AC cuts.length cC) := ⟨(hd.cell (World.block_lt_of_cell? W0 _ hp0)).trans hp0, (hd.cell (World.block_lt_of_cell? W0 _ hp1)).trans hp1, (hd.cell (World.block_lt_of_cell? W0 _ hp2)).trans hp2, (hd.cell (World.block_lt_of_cell? W0 _ hp3)).trans hp3⟩
 clear hr0 hr1 hr2 hb hd
 refine norm_ (a' := ?_) ?_ ?_
 rotate_left
 ·
  simp only [putAll, Act.put, List.setIfInBounds_toArray, List.set_cons_zero, List.set_cons_succ]
  rfl
 refine pure_ (i := 7) (N := some 27) (v := ?_) (a' := ?_) #[true, true, true, true, true, true, true, true, false, false] rfl rfl (by kernel_rfl) (fun _ _ _ h => h) (Or.inl ⟨by rfl, ?_⟩) ?_ ?_
 rotate_left
 ·
  intro w'
  go_simp
  with_reducible rfl
 rotate_left
 ·
  simp only [Act.put, List.setIfInBounds_toArray, List.set_cons_zero, List.set_cons_succ, i64_w, i32_w]
  rfl
 refine last_ (i := 8) (N := some 28) #[true, true, true, true, true, true, true, true, true, false] rfl rfl (by kernel_rfl) (by decide) (fun K hK => ?_)
 refine value_ (w1 := ?_) (v := ?_) (by rfl) rfl ?_ ?_
 rotate_left 2
 ·
  go_simp
  constructor
  ·
   rfl
  ·
   rfl
 refine hK.out _ _ ?_
 clear hK K
 refine norm_ (a' := ?_) ?_ ?_
 rotate_left
 ·
  show Act.put _ (some 28) _ = _
  simp only [Act.put, List.setIfInBounds_toArray, List.set_cons_zero, List.set_cons_succ, i64_w, i32_w]
  rfl
 refine pure_ (i := 9) (N := some 9) (v := ?_) (a' := ?_) #[true, true, true, true, true, true, true, true, true, true] rfl rfl (by kernel_rfl) (fun _ _ _ h => h) (Or.inl ⟨by rfl, ?_⟩) ?_ ?_
 rotate_left
 ·
  intro w'
  go_simp
  with_reducible rfl
 rotate_left
 ·
  simp only [Act.put, List.setIfInBounds_toArray, List.set_cons_zero, List.set_cons_succ, i64_w, i32_w]
  rfl
 refine done_ (by kernel_rfl) ?_
 have HS := am (show record_recorder.St w0 W3.heap.size (.int .i64 cap) (.slice AF fl.length cF) (.int .i64 stop) (.slice AC cuts.length cC) T (List.replicate T []) (List.replicate T 0) (List.replicate T []) gb cb gf cf gs cs (W3.alloc (.cells #[.int .i64 cap, .slice AF fl.length cF, .int .i64 stop, .slice AC cuts.length cC, .slice (some ⟨gb, 0, none⟩) T cb, .slice (some ⟨gf, 0, none⟩) T cf, .slice (some ⟨gs, 0, none⟩) T cs] 107)) from
  ⟨blk_new W3 _, Kd.S_alloc HR0_.out _, Kd.R_alloc HR1_.out _, Kd.S_alloc HR2_.out _, below_alloc HB3.out _, HB3.out.size⟩)
 clear hHeld HR0_ HR1_ HR2_ HD3
 generalize W3.alloc (.cells #[.int .i64 cap, .slice AF fl.length cF, .int .i64 stop, .slice AC cuts.length cC, .slice (some ⟨gb, 0, none⟩) T cb, .slice (some ⟨gf, 0, none⟩) T cf, .slice (some ⟨gs, 0, none⟩) T cs] 107) = W4 at HS ⊢
 obtain ⟨gx, hgx⟩ : ∃ gx, W3.heap.size = gx := ⟨_, rfl⟩
 rw [hgx] at HS ⊢
 have HRF0 := am (show Kd.C k57 w0 AF fl.length fl by rw [← HE0.out]; exact Kd.C_below HRF.out HB2.out)
 have HRE0 := am (show Kd.C k24 w0 A0 l0.length l0 by rw [← HE0.out]; exact Kd.C_below HR0.out HB2.out)
 have HRC0 := am (show Kd.C (Kd.int .i64) w0 AC cuts.length cuts by rw [← HE0.out]; exact Kd.C_below HRC.out HB2.out)
 have HBW := am (show Below w.heap.size w w0 by rw [← HE0.out]; exact HB2.out)
 have HP0 := am (show w0.cell? ⟨gp, 2, none⟩ = some (.int .i64 stop) ∧ w0.cell? ⟨gp, 3, none⟩ = some (.slice AC cuts.length cC) by rw [← HE0.out]; exact ⟨hp2, hp3⟩)
 clear hgx HE0 hp0 hp1 hp2 hp3 HB3 HB2 HP2 HD_W0 HB_W0 HRF HR0 HRC HQ
 go_wp2_with (go_at_call 59; refine (record_recorder.flush k 0 w0 _ gx (.int .i64 cap) (.int .i64 stop) (.slice AC cuts.length cC) AF cF fl T _ _ _ gb cb gf cf gs cs q1 HS.out HRF0.out HQ1.out).mono ?_; rintro e' w5 ⟨rfl, hS⟩; have HS5 := am hS; clear hS HS)
 obtain ⟨M, hM⟩ : ∃ M : Nat, (mn stop (l0.length : Int)).toNat = M := ⟨_, rfl⟩
 have hmn : (if (l0.length : Int) < stop then (l0.length : Int) else stop) = (M : Int) := by
  have h9 := HST.out
  rw [← hM]
  unfold mn
  split <;> omega
 have HML := am (show M ≤ l0.length by rw [← hM]; unfold mn; split <;> omega)
 have HQ2' := HQ2.out
 rw [hM] at HQ2'
 have HQ2 := am HQ2'
 clear hM HQ2'
 go_loopw [10] (fun v wr => ∃ (j : Nat) (b : List (List S26)) (z : List Int) (s : List (List Int)), v = .int .i64 ((j : Int) + 1) ∧ j ≤ M ∧ Aside0 (rnF block_Encode.f k l0 cap fl (M - j) ((j : Int) + 1) b z s = some q2) ∧ Aside0 (record_recorder.St w0 gx (.int .i64 cap) (.slice AF fl.length cF) (.int .i64 stop) (.slice AC cuts.length cC) T b z s gb cb gf cf gs cs wr)) (fun v _ => M + 1 - (intOf v).toNat)
 case atStart => exact ⟨0, _, _, _, by simp, Nat.zero_le _, HQ2, HS5⟩
 case round =>
  clear HQ2 HS5 HQ1 w5
  obtain ⟨j, b, z, s, rfl, hj, HR, HS⟩ := hrel
  have hs2 := (HS.out.B.cell (World.block_lt_of_cell? w0 _ HP0.out.1)).trans HP0.out.1
  by_cases hlt : j < M
  ·
   have hr := HR.out
   obtain ⟨d, hd⟩ : ∃ d, M - j = d + 1 := ⟨M - j - 1, by omega⟩
   rw [hd] at hr
   unfold rnF at hr
   rw [show (j : Int) + 1 - 1 = (j : Int) by omega] at hr
   obtain ⟨qa, hqa, hr⟩ := Option.bind_eq_some_iff.mp hr
   obtain ⟨qb, hqb, hr⟩ := Option.bind_eq_some_iff.mp hr
   have hml := HML.out
   obtain ⟨ad, E5, n5, E6, n6, rfl, hx0, hx1, hx2, hx3, hx4, hx5, hx6, hl5, hi5, hl6, hi6⟩ := at_T24 HRE0.out (j : Int) (by omega) (by omega)
   replace hx0 := (HS.out.B.cell (World.block_lt_of_cell? w0 _ hx0)).trans hx0
   replace hx1 := (HS.out.B.cell (World.block_lt_of_cell? w0 _ hx1)).trans hx1
   replace hx2 := (HS.out.B.cell (World.block_lt_of_cell? w0 _ hx2)).trans hx2
   replace hx3 := (HS.out.B.cell (World.block_lt_of_cell? w0 _ hx3)).trans hx3
   replace hx4 := (HS.out.B.cell (World.block_lt_of_cell? w0 _ hx4)).trans hx4
   replace hx5 := (HS.out.B.cell (World.block_lt_of_cell? w0 _ hx5)).trans hx5
   replace hx6 := (HS.out.B.cell (World.block_lt_of_cell? w0 _ hx6)).trans hx6
   rw [Int.toNat_natCast] at hx0 hx1 hx2 hx3 hx4 hx5 hx6
   have HQA := am hqa
   have HQB := am hqb
   have HRR := am (show rnF block_Encode.f k l0 cap fl (M - (j + 1)) (((j + 1 : Nat) : Int) + 1) qb.1 qb.2.1 qb.2.2 = some q2 by rw [show M - (j + 1) = d by omega]; exact hr)
   have HL5 := am (And.intro hl5 hi5)
   have HL6 := am (And.intro hl6 hi6)
   have hm9 : M ≤ 400 := Nat.le_trans HML.out HL4.out
   have hjl : j < l0.length := by omega
   clear hr hqa hqb hl5 hi5 hl6 hi6 HR hd hml
   go_wp2_with (first | (go_at_call 60; refine (record_recorder.add k (rd_T24 l0 (j : Int)) (j : Int) cap w0 _ gx (.slice AF fl.length cF) (.int .i64 stop) (.slice AC cuts.length cC) T b z s gb cb gf cf gs cs qa E5 E6 n5 n6 HS.out HL5.out HL6.out HQA.out).mono ?_; rintro e' w6 ⟨rfl, hS⟩; have HS6 := am hS; clear hS) | (go_at_call 59; refine (record_recorder.flush k ((j : Int) + 1) w0 _ gx (.int .i64 cap) (.int .i64 stop) (.slice AC cuts.length cC) AF cF fl T _ _ _ gb cb gf cf gs cs qb HS6.out HRF0.out HQB.out).mono ?_; rintro e' w7 ⟨rfl, hS⟩; have HS7 := am hS; clear hS))
   exact ⟨⟨j + 1, qb.1, qb.2.1, qb.2.2, by simp, hlt, HRR, HS7⟩, by simp [intOf]; omega⟩
  obtain rfl : j = M := by omega
  have hr := HR.out
  rw [Nat.sub_self] at hr
  unfold rnF at hr
  have HE2 := am (Option.some.inj hr)
  have hs3 := (HS.out.B.cell (World.block_lt_of_cell? w0 _ HP0.out.2)).trans HP0.out.2
  have hm9 : j ≤ 400 := Nat.le_trans HML.out HL4.out
  clear hr HR hlt hj
  go_wp2
  go_loopw [55] (fun v wr => ∃ (t : Nat) (b : List (List S26)) (z : List Int) (s : List (List Int)), v = .int .i64 (t : Int) ∧ t ≤ cuts.length ∧ Aside0 (ctF record_Files.cut (cuts.drop t) t s = some q3) ∧ Aside0 (record_recorder.St w0 gx (.int .i64 cap) (.slice AF fl.length cF) (.int .i64 stop) (.slice AC cuts.length cC) T b z s gb cb gf cf gs cs wr)) (fun v _ => cuts.length - (intOf v).toNat)
  case atStart => exact ⟨0, b, z, s, rfl, Nat.zero_le _, by rw [show s = q2.2.2 from by rw [← HE2.out]]; exact HQ3, HS⟩
  case round =>
   clear HS HE2 HQ3 hs2 hs3 b z s
   obtain ⟨t, b, z, s, rfl, ht, HR, HS⟩ := hrel
   by_cases hlt : t < cuts.length
   rotate_left
   ·
    have hr := HR.out
    rw [List.drop_of_length_le (by omega)] at hr
    unfold ctF at hr
    have HE3 := am (Option.some.inj hr)
    have hx := (blk_cell HS.out.x 6).trans rfl
    clear hr
    go_wp2
    have hh := HH.out
    simp only [Prod.mk.injEq] at hh
    obtain ⟨rfl, rfl⟩ := hh
    go_ret2
    refine ⟨_, rfl, ?_, below_step HBW.out HS.out.B⟩
    rw [← HE3.out]
    exact Kd.S_lower HS.out.s HBW.out.size
   have hr := HR.out
   rw [List.drop_eq_getElem_cons hlt] at hr
   unfold ctF at hr
   obtain ⟨cc, hcc⟩ : ∃ cc, cuts[t] = cc := ⟨_, rfl⟩
   obtain ⟨ft, hft⟩ : ∃ ft, s.getD t [] = ft := ⟨_, rfl⟩
   rw [hcc, hft] at hr
   by_cases cg : t < s.length ∧ 0 ≤ record_Files.cut cc (ft.length : Int) ∧ record_Files.cut cc (ft.length : Int) ≤ (ft.length : Int)
   rotate_left
   ·
    rw [if_neg cg] at hr
    cases hr
   rw [if_pos cg] at hr
   obtain ⟨mv, hmv⟩ : ∃ mv, record_Files.cut cc (ft.length : Int) = mv := ⟨_, rfl⟩
   rw [hmv] at hr cg
   obtain ⟨g1, g2, g3⟩ := cg
   rw [← HS.out.len.2.2] at g1
   have hmx : (if wrap64 ((ft.length : Int) - cc) < 0 then 0 else wrap64 ((ft.length : Int) - cc)) = mv := hmv
   obtain ⟨oks, As, cs2, hs1, hs2, hsR, hsH, hsn⟩ := ow_elem HS.out.s (t : Int) (by omega) (by omega)
   rw [Int.toNat_natCast] at hs1 hs2 hsR hsH
   rw [hft] at hs1 hsR hsH
   obtain ⟨i0, hi0, _, hsz, _⟩ := info_parts info5
   obtain ⟨hcut, -, -⟩ := print_take_of (P := Try.prog) (Value.int .u8) 0 27 5 .i64 Try.underlying27 hi0 hsz As cs2 ft mv g2 g3 (Kd.R_reads' hsR).2.1
   obtain ⟨yt, hyt⟩ : ∃ yt, ft.take mv.toNat = yt := ⟨_, rfl⟩
   rw [hyt] at hcut hr
   have HYR := am (show (Kd.int .u8).R 5 wr w0.heap.size oks (.slice As yt.length cs2) yt by
    have h1 := Kd.R_take hsR (m := mv.toNat) (by omega)
    rw [hyt] at h1
    have h2 : yt.length = mv.toNat := by rw [← hyt, List.length_take]; omega
    rw [h2]
    exact h1)
   obtain ⟨ad, rfl, hx⟩ := Kd.at_int HRC0.out (t : Int) (by omega) (by omega)
   rw [show rd cuts (t : Int) = cc from by rw [← hcc]; simp [rd, List.getD_eq_getElem?_getD, List.getElem?_eq_getElem hlt]] at hx
   replace hx := (HS.out.B.cell (World.block_lt_of_cell? w0 _ hx)).trans hx
   rw [Int.toNat_natCast] at hx
   have HSR := am hsR
   have HSH := am hsH
   have HSN := am hsn
   have HG := am (And.intro g2 g3)
   have HFT := am hft
   have HRR := am hr
   have HTT := am (show (0 : Int) ≤ (t : Int) ∧ (t : Int) < (T : Int) by omega)
   have hc9 : cuts.length ≤ 9223372036854775807 := HRC0.out.2.1
   obtain ⟨-, -, hv3, -, -⟩ := HS.out.cells HTT.out.1 HTT.out.2
   clear hr hcc hft hmv g2 g3 hsR hsH hsn hi0 hsz HR hyt
   go_wp2
   refine start_ (n := 26) (S := fun w' => w'.cell? ⟨gx, 6, none⟩ = some (.slice (some ⟨gs, 0, none⟩) T cs) ∧ w'.cell? ⟨gs, t, none⟩ = some (.slice As ft.length cs2)) (ds := [25]) #[false, false, false, false, false, false, false, false, false, false, false, false, false, false, false, false, false, false, false, false, false, false, false, false, false, false] (by kernel_rfl) rfl rfl (⟨hv3, hs1⟩) (fun hHeld => ?_)
   refine pure_ (i := 0) (N := some 60) (v := ?_) (a' := ?_) #[true, false, false, false, false, false, false, false, false, false, false, false, false, false, false, false, false, false, false, false, false, false, false, false, false, false] rfl rfl (by kernel_rfl) (fun _ _ _ h => h) (Or.inl ⟨by rfl, ?_⟩) ?_ ?_
   rotate_left
   ·
    intro w'
    go_simp
    with_reducible rfl
   rotate_left
   ·
    simp only [Act.put, List.setIfInBounds_toArray, List.set_cons_zero, List.set_cons_succ, i64_w, i32_w]
    rfl
   refine pure_ (i := 1) (N := some 61) (v := ?_) (a' := ?_) #[true, true, false, false, false, false, false, false, false, false, false, false, false, false, false, false, false, false, false, false, false, false, false, false, false, false] rfl rfl (by kernel_rfl) (fun _ _ _ h => h) (Or.inl ⟨by rfl, ?_⟩) ?_ ?_
   rotate_left
   ·
    intro w'
    go_simp
    with_reducible rfl
   rotate_left
   ·
    simp only [Act.put, List.setIfInBounds_toArray, List.set_cons_zero, List.set_cons_succ, i64_w, i32_w]
    rfl
   refine pure_ (i := 2) (N := some 62) (v := ?_) (a' := ?_) #[true, true, true, false, false, false, false, false, false, false, false, false, false, false, false, false, false, false, false, false, false, false, false, false, false, false] rfl rfl (by kernel_rfl) (fun _ _ _ h => h) (Or.inl ⟨by rfl, ?_⟩) ?_ ?_
   rotate_left
   ·
    intro w'
    go_simp
    with_reducible rfl
   rotate_left
   ·
    simp only [Act.put, List.setIfInBounds_toArray, List.set_cons_zero, List.set_cons_succ, i64_w, i32_w]
    rfl
   refine pure_ (i := 4) (N := some 64) (v := ?_) (a' := ?_) #[true, true, true, false, true, false, false, false, false, false, false, false, false, false, false, false, false, false, false, false, false, false, false, false, false, false] rfl rfl (by kernel_rfl) (fun _ _ _ h => h) (Or.inl ⟨by rfl, ?_⟩) ?_ ?_
   rotate_left
   ·
    intro w'
    go_simp
    with_reducible rfl
   rotate_left
   ·
    simp only [Act.put, List.setIfInBounds_toArray, List.set_cons_zero, List.set_cons_succ, i64_w, i32_w]
    rfl
   refine pure_ (i := 5) (N := some 65) (v := ?_) (a' := ?_) #[true, true, true, false, true, true, false, false, false, false, false, false, false, false, false, false, false, false, false, false, false, false, false, false, false, false] rfl rfl (by kernel_rfl) (fun _ _ _ h => h) (Or.inl ⟨by rfl, ?_⟩) ?_ ?_
   rotate_left
   ·
    intro w'
    go_simp
    with_reducible rfl
   rotate_left
   ·
    simp only [Act.put, List.setIfInBounds_toArray, List.set_cons_zero, List.set_cons_succ, i64_w, i32_w]
    rfl
   refine pure_ (i := 6) (N := some 66) (v := ?_) (a' := ?_) #[true, true, true, false, true, true, true, false, false, false, false, false, false, false, false, false, false, false, false, false, false, false, false, false, false, false] rfl rfl (by kernel_rfl) (fun _ _ _ h => h) (Or.inl ⟨by rfl, ?_⟩) ?_ ?_
   rotate_left
   ·
    intro w'
    go_simp
    with_reducible rfl
   rotate_left
   ·
    simp only [Act.put, List.setIfInBounds_toArray, List.set_cons_zero, List.set_cons_succ, i64_w, i32_w]
    rfl
   refine pure_ (i := 7) (N := some 67) (v := ?_) (a' := ?_) #[true, true, true, false, true, true, true, true, false, false, false, false, false, false, false, false, false, false, false, false, false, false, false, false, false, false] rfl rfl (by kernel_rfl) (fun _ _ _ h => h) (Or.inl ⟨by rfl, ?_⟩) ?_ ?_
   rotate_left
   ·
    intro w'
    go_simp
    with_reducible rfl
   rotate_left
   ·
    simp only [Act.put, List.setIfInBounds_toArray, List.set_cons_zero, List.set_cons_succ, i64_w, i32_w]
    rfl
   refine pure_ (i := 9) (N := some 69) (v := ?_) (a' := ?_) #[true, true, true, false, true, true, true, true, false, true, false, false, false, false, false, false, false, false, false, false, false, false, false, false, false, false] rfl rfl (by kernel_rfl) (fun _ _ _ h => h) (Or.inl ⟨by rfl, ?_⟩) ?_ ?_
   rotate_left
   ·
    intro w'
    go_simp
    with_reducible rfl
   rotate_left
   ·
    simp only [Act.put, List.setIfInBounds_toArray, List.set_cons_zero, List.set_cons_succ, i64_w, i32_w]
    rfl
   refine pure_ (i := 12) (N := some 72) (v := ?_) (a' := ?_) #[true, true, true, false, true, true, true, true, false, true, false, false, true, false, false, false, false, false, false, false, false, false, false, false, false, false] rfl rfl (by kernel_rfl) (fun _ _ _ h => h) (Or.inl ⟨by rfl, ?_⟩) ?_ ?_
   rotate_left
   ·
    intro w'
    go_simp
    with_reducible rfl
   rotate_left
   ·
    simp only [Act.put, List.setIfInBounds_toArray, List.set_cons_zero, List.set_cons_succ, i64_w, i32_w]
    rfl
   refine pure_ (i := 13) (N := some 73) (v := ?_) (a' := ?_) #[true, true, true, false, true, true, true, true, false, true, false, false, true, true, false, false, false, false, false, false, false, false, false, false, false, false] rfl rfl (by kernel_rfl) (fun _ _ _ h => h) (Or.inl ⟨by rfl, ?_⟩) ?_ ?_
   rotate_left
   ·
    intro w'
    go_simp
    with_reducible rfl
   rotate_left
   ·
    simp only [Act.put, List.setIfInBounds_toArray, List.set_cons_zero, List.set_cons_succ, i64_w, i32_w]
    rfl
   refine pure_ (i := 14) (N := some 74) (v := ?_) (a' := ?_) #[true, true, true, false, true, true, true, true, false, true, false, false, true, true, true, false, false, false, false, false, false, false, false, false, false, false] rfl rfl (by kernel_rfl) (fun _ _ _ h => h) (Or.inl ⟨by rfl, ?_⟩) ?_ ?_
   rotate_left
   ·
    intro w'
    go_simp
    with_reducible rfl
   rotate_left
   ·
    simp only [Act.put, List.setIfInBounds_toArray, List.set_cons_zero, List.set_cons_succ, i64_w, i32_w]
    rfl
   refine pure_ (i := 16) (N := some 76) (v := ?_) (a' := ?_) #[true, true, true, false, true, true, true, true, false, true, false, false, true, true, true, false, true, false, false, false, false, false, false, false, false, false] rfl rfl (by kernel_rfl) (fun _ _ _ h => h) (Or.inl ⟨by rfl, ?_⟩) ?_ ?_
   rotate_left
   ·
    intro w'
    go_simp
    with_reducible rfl
   rotate_left
   ·
    simp only [Act.put, List.setIfInBounds_toArray, List.set_cons_zero, List.set_cons_succ, i64_w, i32_w]
    rfl
   refine pure_ (i := 20) (N := some 80) (v := ?_) (a' := ?_) #[true, true, true, false, true, true, true, true, false, true, false, false, true, true, true, false, true, false, false, false, true, false, false, false, false, false] rfl rfl (by kernel_rfl) (fun _ _ _ h => h) (Or.inl ⟨by rfl, ?_⟩) ?_ ?_
   rotate_left
   ·
    intro w'
    go_simp
    with_reducible rfl
   rotate_left
   ·
    simp only [Act.put, List.setIfInBounds_toArray, List.set_cons_zero, List.set_cons_succ, i64_w, i32_w]
    rfl
   refine take_ (i := 3) (N := some 63) (v := ?_) (a' := ?_) #[true, true, true, true, true, true, true, true, false, true, false, false, true, true, true, false, true, false, false, false, true, false, false, false, false, false] rfl rfl (by kernel_rfl) (fun _ _ _ h => h) (Or.inl ⟨by rfl, ?_⟩) hHeld ?_ ?_
   rotate_left
   ·
    rintro w' ⟨s0, s1⟩
    go_simp
    with_reducible rfl
   rotate_left
   ·
    simp only [Act.put, List.setIfInBounds_toArray, List.set_cons_zero, List.set_cons_succ, i64_w, i32_w]
    rfl
   refine take_ (i := 8) (N := some 68) (v := ?_) (a' := ?_) #[true, true, true, true, true, true, true, true, true, true, false, false, true, true, true, false, true, false, false, false, true, false, false, false, false, false] rfl rfl (by kernel_rfl) (fun _ _ _ h => h) (Or.inl ⟨by rfl, ?_⟩) hHeld ?_ ?_
   rotate_left
   ·
    rintro w' ⟨s0, s1⟩
    go_simp
    with_reducible rfl
   rotate_left
   ·
    simp only [Act.put, List.setIfInBounds_toArray, List.set_cons_zero, List.set_cons_succ, i64_w, i32_w]
    rfl
   refine pure_ (i := 10) (N := some 70) (v := ?_) (a' := ?_) #[true, true, true, true, true, true, true, true, true, true, true, false, true, true, true, false, true, false, false, false, true, false, false, false, false, false] rfl rfl (by kernel_rfl) (fun _ _ _ h => h) (Or.inl ⟨by rfl, ?_⟩) ?_ ?_
   rotate_left
   ·
    intro w'
    go_simp
    with_reducible rfl
   rotate_left
   ·
    simp only [Act.put, List.setIfInBounds_toArray, List.set_cons_zero, List.set_cons_succ, i64_w, i32_w]
    rfl
   refine take_ (i := 11) (N := some 71) (v := ?_) (a' := ?_) #[true, true, true, true, true, true, true, true, true, true, true, true, true, true, true, false, true, false, false, false, true, false, false, false, false, false] rfl rfl (by kernel_rfl) (fun _ _ _ h => h) (Or.inl ⟨by rfl, ?_⟩) hHeld ?_ ?_
   rotate_left
   ·
    rintro w' ⟨s0, s1⟩
    go_simp
    with_reducible rfl
   rotate_left
   ·
    simp only [Act.put, List.setIfInBounds_toArray, List.set_cons_zero, List.set_cons_succ, i64_w, i32_w]
    rfl
   refine take_ (i := 15) (N := some 75) (v := ?_) (a' := ?_) #[true, true, true, true, true, true, true, true, true, true, true, true, true, true, true, true, true, false, false, false, true, false, false, false, false, false] rfl rfl (by kernel_rfl) (fun _ _ _ h => h) (Or.inl ⟨by rfl, ?_⟩) hHeld ?_ ?_
   rotate_left
   ·
    rintro w' ⟨s0, s1⟩
    go_simp
    with_reducible rfl
   rotate_left
   ·
    simp only [Act.put, List.setIfInBounds_toArray, List.set_cons_zero, List.set_cons_succ, i64_w, i32_w]
    rfl
   refine pure_ (i := 17) (N := some 77) (v := ?_) (a' := ?_) #[true, true, true, true, true, true, true, true, true, true, true, true, true, true, true, true, true, true, false, false, true, false, false, false, false, false] rfl rfl (by kernel_rfl) (fun _ _ _ h => h) (Or.inl ⟨by rfl, ?_⟩) ?_ ?_
   rotate_left
   ·
    intro w'
    go_simp
    with_reducible rfl
   rotate_left
   ·
    simp only [Act.put, List.setIfInBounds_toArray, List.set_cons_zero, List.set_cons_succ, i64_w, i32_w]
    rfl
   refine take_ (i := 18) (N := some 78) (v := ?_) (a' := ?_) #[true, true, true, true, true, true, true, true, true, true, true, true, true, true, true, true, true, true, true, false, true, false, false, false, false, false] rfl rfl (by kernel_rfl) (fun _ _ _ h => h) (Or.inl ⟨by rfl, ?_⟩) hHeld ?_ ?_
   rotate_left
   ·
    rintro w' ⟨s0, s1⟩
    go_simp
    with_reducible rfl
   rotate_left
   ·
    simp only [Act.put, List.setIfInBounds_toArray, List.set_cons_zero, List.set_cons_succ, i64_w, i32_w]
    rfl
   refine pure_ (i := 19) (N := some 79) (v := ?_) (a' := ?_) #[true, true, true, true, true, true, true, true, true, true, true, true, true, true, true, true, true, true, true, true, true, false, false, false, false, false] rfl rfl (by kernel_rfl) (fun _ _ _ h => h) (Or.inl ⟨by rfl, ?_⟩) ?_ ?_
   rotate_left
   ·
    intro w'
    go_simp
    with_reducible rfl
   rotate_left
   ·
    simp only [Act.put, List.setIfInBounds_toArray, List.set_cons_zero, List.set_cons_succ, i64_w, i32_w]
    rfl
   refine pure_ (i := 21) (N := some 81) (v := ?_) (a' := ?_) #[true, true, true, true, true, true, true, true, true, true, true, true, true, true, true, true, true, true, true, true, true, true, false, false, false, false] rfl rfl (by kernel_rfl) (fun _ _ _ h => h) (Or.inl ⟨by rfl, ?_⟩) ?_ ?_
   rotate_left
   ·
    intro w'
    go_simp
    with_reducible rfl
   rotate_left
   ·
    simp only [Act.put, List.setIfInBounds_toArray, List.set_cons_zero, List.set_cons_succ, i64_w, i32_w]
    rfl
   refine pure_ (i := 22) (N := some 82) (v := ?_) (a' := ?_) #[true, true, true, true, true, true, true, true, true, true, true, true, true, true, true, true, true, true, true, true, true, true, true, false, false, false] rfl rfl (by kernel_rfl) (fun _ _ _ h => h) (Or.inl ⟨by rfl, ?_⟩) ?_ ?_
   rotate_left
   ·
    intro w'
    go_simp
    with_reducible rfl
   rotate_left
   ·
    simp only [Act.put, List.setIfInBounds_toArray, List.set_cons_zero, List.set_cons_succ, i64_w, i32_w]
    rfl
   refine pure_ (i := 23) (N := some 83) (v := ?_) (a' := ?_) #[true, true, true, true, true, true, true, true, true, true, true, true, true, true, true, true, true, true, true, true, true, true, true, true, false, false] rfl rfl (by kernel_rfl) (fun _ _ _ h => h) (Or.inl ⟨by rfl, ?_⟩) ?_ ?_
   rotate_left
   ·
    intro w'
    go_simp
    with_reducible rfl
   rotate_left
   ·
    simp only [Act.put, List.setIfInBounds_toArray, List.set_cons_zero, List.set_cons_succ, i64_w, i32_w]
    rfl
   refine pure_ (i := 24) (N := some 84) (v := ?_) (a' := ?_) #[true, true, true, true, true, true, true, true, true, true, true, true, true, true, true, true, true, true, true, true, true, true, true, true, true, false] rfl rfl (by kernel_rfl) (fun _ _ _ h => h) (Or.inl ⟨by rfl, ?_⟩) ?_ ?_
   rotate_left
   ·
    intro w'
    go_simp
    with_reducible rfl
   rotate_left
   ·
    simp only [Act.put, List.setIfInBounds_toArray, List.set_cons_zero, List.set_cons_succ, i64_w, i32_w]
    rfl
   refine last_ (i := 25) (N := none) #[true, true, true, true, true, true, true, true, true, true, true, true, true, true, true, true, true, true, true, true, true, true, true, true, true, true] rfl rfl (by kernel_rfl) (by decide) (fun K hK => ?_)
   refine skip_ (w1 := ?_) (by rfl) rfl ?_ ?_
   rotate_left
   ·
    go_simp
    rfl
   refine hK.out _ _ ?_
   clear hK K
   refine done_ (by kernel_rfl) ?_
   clear hHeld
   have HS9 := am (HS.out.setS HSH.out HTT.out.1 HTT.out.2 HSN.out (World.grownBy.refl _ _) HS.out.B (by rw [Int.toNat_natCast, HFT.out]; exact HSR.out) (Kd.R_mono HYR.out (fun k hk => .inl hk))).drew
   rw [Int.toNat_natCast] at HS9
   generalize (wr.setCell ⟨gs, t, none⟩ (.slice As yt.length cs2)).drew = w9 at HS9 ⊢
   go_wp2
   go_roundw
   case rel => exact ⟨t + 1, b, z, _, by simp, hlt, HRR, HS9⟩
   case measure => simp [intOf]; omega
end Go.Proofs.Ytnmmkgagbfniiaa.A
end
