/- MRecordErrors8: texts of this session and of the kit's printer on the road to the statement RecordErrors, laid into one and rid of what it doesn't need. No condition beyond what each fact names. -/
import Derived.Test.YtnmmkgagbfniiaaMRecordErrors3
import Derived.Test.YtnmmkgagbfniiaaMRecordErrors2
import Derived.Test.YtnmmkgagbfniiaaMRecordErrors7
section
namespace Go.Proofs.Ytnmmkgagbfniiaa.A
open Go.RowKit Go.Proofs.YtnmmkgagbfniiaaW.PrintWords Go.Proofs.YtnmmkgagbfniiaaW.PrintLast Go.Proofs.YtnmmkgagbfniiaaW.PrintMore
attribute [local go_sem] max2_int min2_int max_two min_two max_three min_three max_four min_four
set_option linter.unusedVariables false
set_option linter.unusedSimpArgs false
theorem ow_fixedC {α : Type} {d : Kd α} {w0 W : World} {e base n c : Nat} {ok : Nat → Prop} {A : Option Addr} {xs : List α} (h : (Kd.fixed d w0).R e W base ok (.slice A n c) xs) (hb : Below w0.heap.size w0 W) : n = xs.length ∧ n ≤ c ∧ d.C W A xs.length xs := by
 obtain ⟨h1, h2, h3⟩ := Kd.R_reads' h
 exact ⟨h1, h2, ReadsRow.imp_ h3 (Below.refl _ _) (fun _ _ hp => d.K_below hb hp)⟩
theorem ow_elem {α : Type} {d : Kd α} {e eb g n cap base : Nat} {W : World} {xs : List (List α)} (h : Kd.S (Kd.slice e d) eb W base (fun _ => True) (.slice (some ⟨g, 0, none⟩) n cap) xs) (i : Int) (h0 : 0 ≤ i) (h1 : i < n) :
  ∃ oki A c, W.cell? ⟨g, i.toNat, none⟩ = some (.slice A (xs.getD i.toNat []).length c) ∧ W.frozen? ⟨g, i.toNat, none⟩ = false ∧ d.R e W base oki (.slice A (xs.getD i.toNat []).length c) (xs.getD i.toNat []) ∧ Kd.H (Kd.slice e d) eb W base (fun _ => True) (.slice (some ⟨g, 0, none⟩) n cap) xs i oki [.slice A (xs.getD i.toNat []).length c] ∧ (∀ k, oki k → k ≠ g) := by
 obtain ⟨oki, c, _, hM, hc, hf, ho, hH⟩ := Kd.S_elem h ([] : List α) i h0 h1
 obtain ⟨v, rfl, hR⟩ := hM
 obtain ⟨A, c, rfl⟩ := Kd.R_slice hR
 have hc0 := hc 0 _ rfl
 have hf0 := hf 0
 rw [show (Kd.slice e d).sz = 1 from rfl, Nat.mul_one, Nat.add_zero] at hc0 hf0
 exact ⟨oki, A, c, hc0, hf0, hR, hH, fun k hk => (ho k hk).2⟩
theorem ow_put {α : Type} {d : Kd α} {e eb g n cap base : Nat} {W w1 : World} {xs : List (List α)} {oki : Nat → Prop} {vi v1 : Value} {ys : List α} {i : Int} (hH : Kd.H (Kd.slice e d) eb W base (fun _ => True) (.slice (some ⟨g, 0, none⟩) n cap) xs i oki [vi]) (h0 : 0 ≤ i) (h1 : i < n) (hne : ∀ k, oki k → k ≠ g) (hgl : g < W.heap.size)
  (hg : W.grownBy w1 vi.ownBlock) (hown : ∀ k, vi.ownBlock = some k → oki k) (hR : d.R e w1 base (fun k => oki k ∨ W.heap.size ≤ k) v1 ys) : Kd.S (Kd.slice e d) eb (w1.setCell ⟨g, i.toNat, none⟩ v1) base (fun _ => True) (.slice (some ⟨g, 0, none⟩) n cap) (xs.set i.toNat ys) := by
 have H2 := Kd.H_grown (Kd.H_widen hH) hg (fun k hk => Or.inl (hown k hk))
 obtain ⟨A, c, rfl⟩ := Kd.R_slice hR
 have H3 := (Kd.H_seg H2 h0 h1 (seg := [.slice A ys.length c]) (j := 0) (by show 0 + 1 ≤ 1; omega) (by intro q hq; rw [List.mem_singleton.1 hq]; rfl)).1
 rw [show (Kd.slice e d).sz = 1 from rfl, Nat.mul_one, Nat.add_zero] at H3
 refine Kd.H_back (okp := fun k => oki k ∨ W.heap.size ≤ k) H3 ⟨_, rfl, ?_⟩ (fun k hk => hk.imp id (fun h => ⟨trivial, h⟩))
 exact Kd.R_far hR (p := ⟨g, i.toNat, none⟩) (fun k hk => hk.elim (hne k) (fun h => by show k ≠ g; omega)) _
def wrF (enc : Nat → Int → Int → List S26 → Option (List Int × Int)) (k : Nat) (t : Int) (bufs : List (List S26)) (first : List Int) (files : List (List Int)) : Option (List (List S26) × List Int × List (List Int)) :=
 if (bufs.getD t.toNat []).length = 0 then some (bufs, first, files) else (enc k t (rd first t) (bufs.getD t.toNat [])).bind fun q => if (files.getD t.toNat []).length + q.1.length < 140737488355328 then some (bufs.set t.toNat [], first.set t.toNat (wrap64 (rd first t + ((bufs.getD t.toNat []).length : Int))), files.set t.toNat (files.getD t.toNat [] ++ q.1)) else none
theorem ow_same {W w1 : World} {g i : Nat} (h : w1.heap[g]? = W.heap[g]?) : w1.cell? ⟨g, i, none⟩ = W.cell? ⟨g, i, none⟩ ∧ w1.frozen? ⟨g, i, none⟩ = W.frozen? ⟨g, i, none⟩ := by
 simp only [World.cell?, World.frozen?, h, and_self]
theorem ow_widen {W w1 : World} (h : W.grownBy w1 none) (row : Option Nat) : W.grownBy w1 row := ⟨h.os, h.tape, h.output, h.size, fun k hk _ => h.block k hk (by simp)⟩
theorem ow_fresh {W w1 w2 : World} {r1 r2 : Option Nat} (h : W.grownBy w1 r1) (h1 : ∀ k, r1 = some k → W.heap.size ≤ k) (g : w1.grownBy w2 r2) (h2 : ∀ k, r2 = some k → W.heap.size ≤ k) : W.grownBy w2 none :=
 ⟨g.os.trans h.os, g.tape.trans h.tape, g.output.trans h.output, Nat.le_trans h.size g.size, fun k hk _ => (g.block k (Nat.lt_of_lt_of_le hk h.size) (fun e => Nat.lt_irrefl _ (Nat.lt_of_lt_of_le hk (h2 k e.symm)))).trans (h.block k hk (fun e => Nat.lt_irrefl _ (Nat.lt_of_lt_of_le hk (h1 k e.symm))))⟩
theorem ow_unlike {W : World} {g ty e : Nat} {c : Array Value} {v : Value} (h : W.heap[g]? = some (.cells c ty (0, 0))) (hty : ∀ k, v.ownBlock = some k → ∃ c', W.heap[k]? = some (.cells c' e (0, 0))) (hn : ty ≠ e) : some g ≠ v.ownBlock := fun he => by obtain ⟨c', hc⟩ := hty _ he.symm; exact blk_ne h hc hn rfl
def adF (enc : Nat → Int → Int → List S26 → Option (List Int × Int)) (k : Nat) (e : S24) (seq cap : Int) (bufs : List (List S26)) (first : List Int) (files : List (List Int)) : Option (List (List S26) × List Int × List (List Int)) :=
 if 0 ≤ e.f0 ∧ e.f0 < (bufs.length : Int) ∧ (bufs.getD e.f0.toNat []).length < 1466015503701 then (if ((bufs.getD e.f0.toNat [] ++ [(⟨seq, e⟩ : S26)]).length : Int) = cap ∨ e.f1 = 2 then wrF enc k e.f0 (bufs.set e.f0.toNat (bufs.getD e.f0.toNat [] ++ [(⟨seq, e⟩ : S26)])) first files else some (bufs.set e.f0.toNat (bufs.getD e.f0.toNat [] ++ [(⟨seq, e⟩ : S26)]), first, files)) else none
theorem ow_alc {W : World} {p : Addr} {v : Value} (h : W.cell? p = some v) (o : Obj) : (W.alloc o).cell? p = some v := ((below_alloc (Below.refl _ _) o).cell (World.block_lt_of_cell? W _ h)).trans h
def flF (enc : Nat → Int → Int → List S26 → Option (List Int × Int)) (k : Nat) (n : Int) : List S57 → List (List S26) → List Int → List (List Int) → Option (List (List S26) × List Int × List (List Int))
 | [], b, i, s => some (b, i, s)
 | f :: fs, b, i, s => if f.f0 = n then (if 0 ≤ f.f1 ∧ f.f1 < (b.length : Int) then (wrF enc k f.f1 b i s).bind fun q => flF enc k n fs q.1 q.2.1 q.2.2 else none) else flF enc k n fs b i s
def rnF (enc : Nat → Int → Int → List S26 → Option (List Int × Int)) (k : Nat) (l : List S24) (cap : Int) (fl : List S57) : Nat → Int → List (List S26) → List Int → List (List Int) → Option (List (List S26) × List Int × List (List Int))
 | 0, _, b, z, s => some (b, z, s)
 | d + 1, n, b, z, s => (adF enc k (rd_T24 l (n - 1)) (n - 1) cap b z s).bind fun q => (flF enc k n fl q.1 q.2.1 q.2.2).bind fun q => rnF enc k l cap fl d (n + 1) q.1 q.2.1 q.2.2
def ctF (g : Int → Int → Int) : List Int → Nat → List (List Int) → Option (List (List Int))
 | [], _, s => some s
 | c :: cs, t, s => if t < s.length ∧ 0 ≤ g c ((s.getD t []).length : Int) ∧ g c ((s.getD t []).length : Int) ≤ ((s.getD t []).length : Int) then ctF g cs (t + 1) (s.set t ((s.getD t []).take (g c ((s.getD t []).length : Int)).toNat)) else none
def flsF (chk : Nat → List S24 → Int → Int → List S57 → Int → List Int → Option Int) (enc : Nat → Int → Int → List S26 → Option (List Int × Int)) (g : Int → Int → Int) (k : Nat) (l : List S24) (a1 cap : Int) (fl : List S57) (stop : Int) (cuts : List Int) : Option (List (List Int) × Int) :=
 (chk k l a1 cap fl stop cuts).bind fun e => if e = 0 then (if 1 ≤ a1 ∧ a1 ≤ 4 ∧ 0 ≤ stop ∧ l.length ≤ 400 then (flF enc k 0 fl (List.replicate a1.toNat []) (List.replicate a1.toNat 0) (List.replicate a1.toNat [])).bind fun q => (rnF enc k l cap fl (mn stop (l.length : Int)).toNat 1 q.1 q.2.1 q.2.2).bind fun q => (ctF g cuts 0 q.2.2).bind fun s => some (s, 0) else none) else some ([], e)
section
variable {enc : Nat → Int → Int → List S26 → Option (List Int × Int)}
theorem wrF_mono (he : ∀ k a b c, LeO (enc k a b c) (enc (k + 1) a b c)) (k : Nat) (t : Int) (b : List (List S26)) (z : List Int) (s : List (List Int)) : LeO (wrF enc k t b z s) (wrF enc (k + 1) t b z s) := by
 unfold wrF
 exact LeO.ite (LeO.refl _) (LeO.bind (he _ _ _ _) fun _ => LeO.refl _)
theorem adF_mono (he : ∀ k a b c, LeO (enc k a b c) (enc (k + 1) a b c)) (k : Nat) (e : S24) (q c : Int) (b : List (List S26)) (z : List Int) (s : List (List Int)) : LeO (adF enc k e q c b z s) (adF enc (k + 1) e q c b z s) := by
 unfold adF
 exact LeO.ite (LeO.ite (wrF_mono he _ _ _ _ _) (LeO.refl _)) (LeO.none _)
theorem flF_mono (he : ∀ k a b c, LeO (enc k a b c) (enc (k + 1) a b c)) (k : Nat) (n : Int) : ∀ (fl : List S57) (b : List (List S26)) (z : List Int) (s : List (List Int)), LeO (flF enc k n fl b z s) (flF enc (k + 1) n fl b z s)
 | [], _, _, _ => LeO.refl _
 | f :: fs, b, z, s => by
  unfold flF
  exact LeO.ite (LeO.ite (LeO.bind (wrF_mono he _ _ _ _ _) fun _ => flF_mono he k n fs _ _ _) (LeO.none _)) (flF_mono he k n fs _ _ _)
theorem rnF_mono (he : ∀ k a b c, LeO (enc k a b c) (enc (k + 1) a b c)) (k : Nat) (l : List S24) (c : Int) (fl : List S57) : ∀ (d : Nat) (n : Int) (b : List (List S26)) (z : List Int) (s : List (List Int)), LeO (rnF enc k l c fl d n b z s) (rnF enc (k + 1) l c fl d n b z s)
 | 0, _, _, _, _ => LeO.refl _
 | d + 1, n, b, z, s => by
  unfold rnF
  exact LeO.bind (adF_mono he _ _ _ _ _ _ _) fun _ => LeO.bind (flF_mono he _ _ _ _ _ _) fun _ => rnF_mono he k l c fl d _ _ _ _
theorem flsF_mono (he : ∀ k a b c, LeO (enc k a b c) (enc (k + 1) a b c)) {chk : Nat → List S24 → Int → Int → List S57 → Int → List Int → Option Int} (hc : ∀ k l a b c d f, LeO (chk k l a b c d f) (chk (k + 1) l a b c d f)) (g : Int → Int → Int) (k : Nat) (l : List S24) (a1 cap : Int) (fl : List S57) (stop : Int) (cuts : List Int) : LeO (flsF chk enc g k l a1 cap fl stop cuts) (flsF chk enc g (k + 1) l a1 cap fl stop cuts) := by
 unfold flsF
 exact LeO.bind (hc _ _ _ _ _ _ _) fun _ => LeO.ite (LeO.ite (LeO.bind (flF_mono he _ _ _ _ _ _) fun _ => LeO.bind (rnF_mono he _ _ _ _ _ _ _ _ _) fun _ => LeO.refl _) (LeO.none _)) (LeO.refl _)
end
theorem ow_info40 : (Try.prog.info? 40).map (fun i => (i.zero, i.size, i.bytes)) = some (some (.slice none 0 0), 1, 24) := by kernel_rfl
theorem ow_info27 : (Try.prog.info? 27).map (fun i => (i.zero, i.size, i.bytes)) = some (some (.slice none 0 0), 1, 24) := by kernel_rfl
structure j14_writer.St (w0 : World) (gx : Nat) (T : Nat) (bufs : List (List S26)) (first : List Int) (files : List (List Int)) (gb cb gf cf gs cs : Nat) (W : World) : Prop where
 x : W.heap[gx]? = some (.cells #[.slice (some ⟨gb, 0, none⟩) T cb, .slice (some ⟨gf, 0, none⟩) T cf, .slice (some ⟨gs, 0, none⟩) T cs] 112 (0, 0))
 b : Kd.S (Kd.slice 26 (Kd.fixed k26 w0)) 40 W w0.heap.size (fun _ => True) (.slice (some ⟨gb, 0, none⟩) T cb) bufs
 f : Kd.R (Kd.int .i64) 3 W w0.heap.size (fun _ => True) (.slice (some ⟨gf, 0, none⟩) T cf) first
 s : Kd.S (Kd.slice 5 (Kd.int .u8)) 27 W w0.heap.size (fun _ => True) (.slice (some ⟨gs, 0, none⟩) T cs) files
 B : Below w0.heap.size w0 W
 g : w0.heap.size ≤ gx
section
variable {w0 W w1 : World} {gx T gb cb gf cf gs cs : Nat} {bufs : List (List S26)} {first : List Int} {files : List (List Int)}
theorem j14_writer.St.below (h : j14_writer.St w0 gx T bufs first files gb cb gf cf gs cs W) (hb : Below W.heap.size W w1) : j14_writer.St w0 gx T bufs first files gb cb gf cf gs cs w1 :=
 ⟨blk_below h.x hb, Kd.S_below h.b hb, Kd.R_below h.f hb, Kd.S_below h.s hb, below_step h.B hb, h.g⟩
theorem j14_writer.St.drew (h : j14_writer.St w0 gx T bufs first files gb cb gf cf gs cs W) : j14_writer.St w0 gx T bufs first files gb cb gf cf gs cs W.drew := h.below (below_drew (Below.refl _ _))
theorem j14_writer.St.len (h : j14_writer.St w0 gx T bufs first files gb cb gf cf gs cs W) : T = bufs.length ∧ T = first.length ∧ T = files.length := ⟨(Kd.S_reads' h.b).1, (Kd.R_reads' h.f).1, (Kd.S_reads' h.s).1⟩
theorem j14_writer.St.typ (h : j14_writer.St w0 gx T bufs first files gb cb gf cf gs cs W) : (∃ c, W.heap[gb]? = some (.cells c 40 (0, 0))) ∧ (∃ c, W.heap[gf]? = some (.cells c 3 (0, 0))) ∧ (∃ c, W.heap[gs]? = some (.cells c 27 (0, 0))) := ⟨Kd.S_typed h.b gb rfl, Kd.R_typed h.f gf rfl, Kd.S_typed h.s gs rfl⟩
theorem j14_writer.St.ge (h : j14_writer.St w0 gx T bufs first files gb cb gf cf gs cs W) : w0.heap.size ≤ gb ∧ w0.heap.size ≤ gf ∧ w0.heap.size ≤ gs := ⟨Kd.S_base h.b gb rfl, Kd.R_base h.f gf rfl, Kd.S_base h.s gs rfl⟩
theorem j14_writer.St.cells (h : j14_writer.St w0 gx T bufs first files gb cb gf cf gs cs W) {t : Int} (h0 : 0 ≤ t) (h1 : t < (T : Int)) :
  W.cell? ⟨gx, 0, none⟩ = some (.slice (some ⟨gb, 0, none⟩) T cb) ∧ W.cell? ⟨gx, 1, none⟩ = some (.slice (some ⟨gf, 0, none⟩) T cf) ∧ W.cell? ⟨gx, 2, none⟩ = some (.slice (some ⟨gs, 0, none⟩) T cs) ∧ W.cell? ⟨gf, t.toNat, none⟩ = some (.int .i64 (rd first t)) ∧ W.frozen? ⟨gf, t.toNat, none⟩ = false := by
 obtain ⟨hl1, hl2, hl3⟩ := h.len
 have hf := h.f
 rw [hl2] at hf
 obtain ⟨h2, h3⟩ := Kd.R_cell (0 : Int) hf t h0 (by omega)
 exact ⟨(blk_cell h.x 0).trans rfl, (blk_cell h.x 1).trans rfl, (blk_cell h.x 2).trans rfl, h2, h3⟩
theorem j14_writer.St.setF (h : j14_writer.St w0 gx T bufs first files gb cb gf cf gs cs W) (t : Int) (x : Int) : j14_writer.St w0 gx T bufs (first.set t.toNat x) files gb cb gf cf gs cs (W.setCell ⟨gf, t.toNat, none⟩ (.int .i64 x)) := by
 obtain ⟨hl1, hl2, hl3⟩ := h.len
 obtain ⟨⟨c1, t1⟩, ⟨c2, t2⟩, ⟨c3, t3⟩⟩ := h.typ
 have hf := h.f
 rw [hl2] at hf
 have hf2 := (Kd.R_put hf t x).1
 rw [← hl2] at hf2
 exact y29
theorem j14_writer.St.setB (h : j14_writer.St w0 gx T bufs first files gb cb gf cf gs cs W) {t : Int} {oki : Nat → Prop} {vi v1 : Value} {ys : List S26} (hH : Kd.H (Kd.slice 26 (Kd.fixed k26 w0)) 40 W w0.heap.size (fun _ => True) (.slice (some ⟨gb, 0, none⟩) T cb) bufs t oki [vi]) (h0 : 0 ≤ t) (h1 : t < (T : Int)) (hne : ∀ k, oki k → k ≠ gb)
  (hg : W.grownBy w1 vi.ownBlock) (hB : Below w0.heap.size w0 w1) (hR0 : (Kd.fixed k26 w0).R 26 W w0.heap.size oki vi (bufs.getD t.toNat [])) (hR : (Kd.fixed k26 w0).R 26 w1 w0.heap.size (fun k => oki k ∨ W.heap.size ≤ k) v1 ys) : j14_writer.St w0 gx T (bufs.set t.toNat ys) first files gb cb gf cf gs cs (w1.setCell ⟨gb, t.toNat, none⟩ v1) := by
 obtain ⟨⟨c1, t1⟩, ⟨c2, t2⟩, ⟨c3, t3⟩⟩ := h.typ
 have hty := Kd.R_typed hR0
 have ne : ∀ {g ty : Nat} {c : Array Value}, W.heap[g]? = some (.cells c ty (0, 0)) → ty ≠ 26 → some g ≠ vi.ownBlock := fun hb hn he => by obtain ⟨c', hc⟩ := hty _ he.symm; exact blk_ne hb hc hn rfl
 have t1' := blk_grown t1 hg (ne t1 (by decide))
 have t3' := blk_grown t3 hg (ne t3 (by decide))
 have x' := blk_grown h.x hg (ne h.x (by decide))
 exact y24
theorem j14_writer.St.setS (h : j14_writer.St w0 gx T bufs first files gb cb gf cf gs cs W) {t : Int} {oki : Nat → Prop} {vi v1 : Value} {ys : List Int} (hH : Kd.H (Kd.slice 5 (Kd.int .u8)) 27 W w0.heap.size (fun _ => True) (.slice (some ⟨gs, 0, none⟩) T cs) files t oki [vi]) (h0 : 0 ≤ t) (h1 : t < (T : Int)) (hne : ∀ k, oki k → k ≠ gs)
  (hg : W.grownBy w1 vi.ownBlock) (hB : Below w0.heap.size w0 w1) (hR0 : (Kd.int .u8).R 5 W w0.heap.size oki vi (files.getD t.toNat [])) (hR : (Kd.int .u8).R 5 w1 w0.heap.size (fun k => oki k ∨ W.heap.size ≤ k) v1 ys) : j14_writer.St w0 gx T bufs first (files.set t.toNat ys) gb cb gf cf gs cs (w1.setCell ⟨gs, t.toNat, none⟩ v1) := by
 obtain ⟨⟨c1, t1⟩, ⟨c2, t2⟩, ⟨c3, t3⟩⟩ := h.typ
 have hty := Kd.R_typed hR0
 have ne : ∀ {g ty : Nat} {c : Array Value}, W.heap[g]? = some (.cells c ty (0, 0)) → ty ≠ 5 → some g ≠ vi.ownBlock := fun hb hn he => by obtain ⟨c', hc⟩ := hty _ he.symm; exact blk_ne hb hc hn rfl
 have t3' := blk_grown t3 hg (ne t3 (by decide))
 have x' := blk_grown h.x hg (ne h.x (by decide))
 exact y17
end
set_option maxHeartbeats 4000000 in
set_option maxRecDepth 100000 in
theorem j14_writer.write (k : Nat) (t : Int) (w0 W : World) (gx : Nat) (T : Nat) (bufs : List (List S26)) (first : List Int) (files : List (List Int)) (gb cb gf cf gs cs : Nat) (r : List (List S26) × List Int × List (List Int)) (hS : j14_writer.St w0 gx T bufs first files gb cb gf cf gs cs W) (h0 : 0 ≤ t) (h1 : t < (T : Int))
  (h : wrF j11_Encode.f k t bufs first files = some r) :
  Calls Try.prog 62 #[.pointer (some ⟨gx, 0, none⟩), .int .i64 t] W fun e W' => e = .returned (.tuple #[]) ∧ j14_writer.St w0 gx T r.1 r.2.1 r.2.2 gb cb gf cf gs cs W' := by
 have HS := am hS
 have HT := am (And.intro h0 h1)
 obtain ⟨oki, A, c, he1, he2, heR, heH, hne⟩ := ow_elem hS.b t h0 h1
 unfold wrF at h
 obtain ⟨bt, hbt⟩ : ∃ bt, bufs.getD t.toNat [] = bt := ⟨_, rfl⟩
 obtain ⟨ft, hft⟩ : ∃ ft, files.getD t.toNat [] = ft := ⟨_, rfl⟩
 obtain ⟨n0, hn0⟩ : ∃ n0, rd first t = n0 := ⟨_, rfl⟩
 obtain ⟨hv1, hv2, hv3, hv4, hv5⟩ := hS.cells h0 h1
 have HBT := am hbt
 have HFT := am hft
 have HN0 := am hn0
 rw [hbt] at h he1 heR heH
 rw [hft, hn0] at h
 rw [hn0] at hv4
 have HER := am heR
 have HEH := am heH
 have HNE := am hne
 have HF5 := am hv5
 have hm : Try.prog.follows .mixedOrders = true := by kernel_rfl
 have p1 := eq_true h0
 have p2 := eq_true h1
 clear hS heR heH hne hbt hft hn0 hv5 he2 h0 h1
 by_cases cz : bt.length = 0
 ·
  rw [if_pos cz] at h
  obtain rfl := Option.some.inj h
  have c0 : ((bt.length : Int) == 0) = true := by simp [cz]
  clear h cz
  go_enter Try.func62, Try.ntmps62
  go_wp2
  refine bodyPost_ret (results_none rfl _ _ _) rfl ?_
  exact ⟨rfl, HS.out⟩
 rw [if_neg cz] at h
 have c0 : ((bt.length : Int) == 0) = false := by simp; exact fun h => cz (by rw [h]; rfl)
 obtain ⟨⟨q1, q2⟩, hq, h⟩ := Option.bind_eq_some_iff.mp h
 dsimp only at h
 have HQ := am hq
 by_cases cl : ft.length + q1.length < 140737488355328
 rotate_left
 ·
  rw [if_neg cl] at h
  cases h
 rw [if_pos cl] at h
 have HLM := am cl
 have HH := am (Option.some.inj h)
 obtain ⟨hx1, hx2, hx3⟩ := ow_fixedC HER.out HS.out.B
 have HEC := am hx3
 have HEL := am hx2
 clear cz hq h cl hx1 hx2 hx3
 go_enter Try.func62, Try.ntmps62
 go_wp2
 refine start_ (n := 22) (S := fun w' => w'.cell? ⟨gx, 0, none⟩ = some (.slice (some ⟨gb, 0, none⟩) T cb) ∧ w'.cell? ⟨gx, 1, none⟩ = some (.slice (some ⟨gf, 0, none⟩) T cf) ∧ w'.cell? ⟨gf, t.toNat, none⟩ = some (.int .i64 n0) ∧ w'.cell? ⟨gb, t.toNat, none⟩ = some (.slice A bt.length c)) (ds := [16]) #[false, false, false, false, false, false, false, false, false, false, false, false, false, false, false, false, false, false, false, false, false, false] (by kernel_rfl) rfl rfl ⟨hv1, hv2, hv4, he1⟩ (fun hHeld => ?_)
 have HS1 := am HS.out.drew
 replace HEC := am (Kd.C_below HEC.out (below_drew (Below.refl _ _)))
 clear HS HER HEH HNE he1 hv1 hv2 hv3 hv4 HF5
 generalize W.drew = W1 at HS1 HEC hHeld ⊢
 refine pure_ (i := 0) (N := some 16) (v := ?_) (a' := ?_) #[true, false, false, false, false, false, false, false, false, false, false, false, false, false, false, false, false, false, false, false, false, false] rfl rfl (by kernel_rfl) (fun _ _ _ h => h) (Or.inl ⟨by rfl, ?_⟩) ?_ ?_
 rotate_left
 ·
  intro w'
  go_simp
  with_reducible rfl
 rotate_left
 ·
  simp only [Act.put, List.setIfInBounds_toArray, List.set_cons_zero, List.set_cons_succ, i64_w, i32_w]
  rfl
 refine pure_ (i := 1) (N := some 17) (v := ?_) (a' := ?_) #[true, true, false, false, false, false, false, false, false, false, false, false, false, false, false, false, false, false, false, false, false, false] rfl rfl (by kernel_rfl) (fun _ _ _ h => h) (Or.inl ⟨by rfl, ?_⟩) ?_ ?_
 rotate_left
 ·
  intro w'
  go_simp
  with_reducible rfl
 rotate_left
 ·
  simp only [Act.put, List.setIfInBounds_toArray, List.set_cons_zero, List.set_cons_succ, i64_w, i32_w]
  rfl
 refine pure_ (i := 2) (N := some 18) (v := ?_) (a' := ?_) #[true, true, true, false, false, false, false, false, false, false, false, false, false, false, false, false, false, false, false, false, false, false] rfl rfl (by kernel_rfl) (fun _ _ _ h => h) (Or.inl ⟨by rfl, ?_⟩) ?_ ?_
 rotate_left
 ·
  intro w'
  go_simp
  with_reducible rfl
 rotate_left
 ·
  simp only [Act.put, List.setIfInBounds_toArray, List.set_cons_zero, List.set_cons_succ, i64_w, i32_w]
  rfl
 refine pure_ (i := 3) (N := some 19) (v := ?_) (a' := ?_) #[true, true, true, true, false, false, false, false, false, false, false, false, false, false, false, false, false, false, false, false, false, false] rfl rfl (by kernel_rfl) (fun _ _ _ h => h) (Or.inl ⟨by rfl, ?_⟩) ?_ ?_
 rotate_left
 ·
  intro w'
  go_simp
  with_reducible rfl
 rotate_left
 ·
  simp only [Act.put, List.setIfInBounds_toArray, List.set_cons_zero, List.set_cons_succ, i64_w, i32_w]
  rfl
 refine pure_ (i := 5) (N := some 21) (v := ?_) (a' := ?_) #[true, true, true, true, false, true, false, false, false, false, false, false, false, false, false, false, false, false, false, false, false, false] rfl rfl (by kernel_rfl) (fun _ _ _ h => h) (Or.inl ⟨by rfl, ?_⟩) ?_ ?_
 rotate_left
 ·
  intro w'
  go_simp
  with_reducible rfl
 rotate_left
 ·
  simp only [Act.put, List.setIfInBounds_toArray, List.set_cons_zero, List.set_cons_succ, i64_w, i32_w]
  rfl
 refine pure_ (i := 8) (N := some 24) (v := ?_) (a' := ?_) #[true, true, true, true, false, true, false, false, true, false, false, false, false, false, false, false, false, false, false, false, false, false] rfl rfl (by kernel_rfl) (fun _ _ _ h => h) (Or.inl ⟨by rfl, ?_⟩) ?_ ?_
 rotate_left
 ·
  intro w'
  go_simp
  with_reducible rfl
 rotate_left
 ·
  simp only [Act.put, List.setIfInBounds_toArray, List.set_cons_zero, List.set_cons_succ, i64_w, i32_w]
  rfl
 refine pure_ (i := 9) (N := some 25) (v := ?_) (a' := ?_) #[true, true, true, true, false, true, false, false, true, true, false, false, false, false, false, false, false, false, false, false, false, false] rfl rfl (by kernel_rfl) (fun _ _ _ h => h) (Or.inl ⟨by rfl, ?_⟩) ?_ ?_
 rotate_left
 ·
  intro w'
  go_simp
  with_reducible rfl
 rotate_left
 ·
  simp only [Act.put, List.setIfInBounds_toArray, List.set_cons_zero, List.set_cons_succ, i64_w, i32_w]
  rfl
 refine pure_ (i := 10) (N := some 26) (v := ?_) (a' := ?_) #[true, true, true, true, false, true, false, false, true, true, true, false, false, false, false, false, false, false, false, false, false, false] rfl rfl (by kernel_rfl) (fun _ _ _ h => h) (Or.inl ⟨by rfl, ?_⟩) ?_ ?_
 rotate_left
 ·
  intro w'
  go_simp
  with_reducible rfl
 rotate_left
 ·
  simp only [Act.put, List.setIfInBounds_toArray, List.set_cons_zero, List.set_cons_succ, i64_w, i32_w]
  rfl
 refine pure_ (i := 12) (N := some 28) (v := ?_) (a' := ?_) #[true, true, true, true, false, true, false, false, true, true, true, false, true, false, false, false, false, false, false, false, false, false] rfl rfl (by kernel_rfl) (fun _ _ _ h => h) (Or.inl ⟨by rfl, ?_⟩) ?_ ?_
 rotate_left
 ·
  intro w'
  go_simp
  with_reducible rfl
 rotate_left
 ·
  simp only [Act.put, List.setIfInBounds_toArray, List.set_cons_zero, List.set_cons_succ, i64_w, i32_w]
  rfl
 refine take_ (i := 4) (N := some 20) (v := ?_) (a' := ?_) #[true, true, true, true, true, true, false, false, true, true, true, false, true, false, false, false, false, false, false, false, false, false] rfl rfl (by kernel_rfl) (fun _ _ _ h => h) (Or.inl ⟨by rfl, ?_⟩) hHeld ?_ ?_
 rotate_left
 ·
  rintro w' ⟨s0, s1, s2, s3⟩
  go_simp
  with_reducible rfl
 rotate_left
 ·
  simp only [Act.put, List.setIfInBounds_toArray, List.set_cons_zero, List.set_cons_succ, i64_w, i32_w]
  rfl
 refine pure_ (i := 6) (N := some 22) (v := ?_) (a' := ?_) #[true, true, true, true, true, true, true, false, true, true, true, false, true, false, false, false, false, false, false, false, false, false] rfl rfl (by kernel_rfl) (fun _ _ _ h => h) (Or.inl ⟨by rfl, ?_⟩) ?_ ?_
 rotate_left
 ·
  intro w'
  go_simp
  with_reducible rfl
 rotate_left
 ·
  simp only [Act.put, List.setIfInBounds_toArray, List.set_cons_zero, List.set_cons_succ, i64_w, i32_w]
  rfl
 refine take_ (i := 7) (N := some 23) (v := ?_) (a' := ?_) #[true, true, true, true, true, true, true, true, true, true, true, false, true, false, false, false, false, false, false, false, false, false] rfl rfl (by kernel_rfl) (fun _ _ _ h => h) (Or.inl ⟨by rfl, ?_⟩) hHeld ?_ ?_
 rotate_left
 ·
  rintro w' ⟨s0, s1, s2, s3⟩
  go_simp
  with_reducible rfl
 rotate_left
 ·
  simp only [Act.put, List.setIfInBounds_toArray, List.set_cons_zero, List.set_cons_succ, i64_w, i32_w]
  rfl
 refine take_ (i := 11) (N := some 27) (v := ?_) (a' := ?_) #[true, true, true, true, true, true, true, true, true, true, true, true, true, false, false, false, false, false, false, false, false, false] rfl rfl (by kernel_rfl) (fun _ _ _ h => h) (Or.inl ⟨by rfl, ?_⟩) hHeld ?_ ?_
 rotate_left
 ·
  rintro w' ⟨s0, s1, s2, s3⟩
  go_simp
  with_reducible rfl
 rotate_left
 ·
  simp only [Act.put, List.setIfInBounds_toArray, List.set_cons_zero, List.set_cons_succ, i64_w, i32_w]
  rfl
 refine pure_ (i := 13) (N := some 29) (v := ?_) (a' := ?_) #[true, true, true, true, true, true, true, true, true, true, true, true, true, true, false, false, false, false, false, false, false, false] rfl rfl (by kernel_rfl) (fun _ _ _ h => h) (Or.inl ⟨by rfl, ?_⟩) ?_ ?_
 rotate_left
 ·
  intro w'
  go_simp
  with_reducible rfl
 rotate_left
 ·
  simp only [Act.put, List.setIfInBounds_toArray, List.set_cons_zero, List.set_cons_succ, i64_w, i32_w]
  rfl
 refine take_ (i := 14) (N := some 30) (v := ?_) (a' := ?_) #[true, true, true, true, true, true, true, true, true, true, true, true, true, true, true, false, false, false, false, false, false, false] rfl rfl (by kernel_rfl) (fun _ _ _ h => h) (Or.inl ⟨by rfl, ?_⟩) hHeld ?_ ?_
 rotate_left
 ·
  rintro w' ⟨s0, s1, s2, s3⟩
  go_simp
  with_reducible rfl
 rotate_left
 ·
  simp only [Act.put, List.setIfInBounds_toArray, List.set_cons_zero, List.set_cons_succ, i64_w, i32_w]
  rfl
 refine pure_ (i := 15) (N := some 31) (v := ?_) (a' := ?_) #[true, true, true, true, true, true, true, true, true, true, true, true, true, true, true, true, false, false, false, false, false, false] rfl rfl (by kernel_rfl) (fun _ _ _ h => h) (Or.inl ⟨by rfl, ?_⟩) ?_ ?_
 rotate_left
 ·
  intro w'
  go_simp
  with_reducible rfl
 rotate_left
 ·
  simp only [Act.put, List.setIfInBounds_toArray, List.set_cons_zero, List.set_cons_succ, i64_w, i32_w]
  rfl
 refine last_ (i := 16) (N := some 32) #[true, true, true, true, true, true, true, true, true, true, true, true, true, true, true, true, true, false, false, false, false, false] rfl rfl (by kernel_rfl) (by decide) (fun K hK => ?_)
 refine goes_ Try.func22 (by kernel_rfl) rfl #[.agg #[.int .i64 t, .int .i64 n0, .slice A bt.length c]] (by rfl) rfl rfl (by simp only [List.map_toArray, List.map_cons, List.map_nil]; rfl) ?_
 with_reducible refine (j11_Encode.calls k t n0 A c bt q1 q2 _ (HEC.out) HEL.out HQ.out).mono ?_
 rintro e w2 ⟨v2, rfl, hr2, hb2⟩
 refine ⟨_, rfl, ?_⟩
 obtain ⟨A2, c2, e2⟩ := Kd.R_slice hr2
 subst e2
 have HR2 := am (Kd.R_lower hr2 HS1.out.B.size)
 have HS2 := am (HS1.out.below hb2)
 clear hr2 hb2
 refine hK.out _ _ ?_
 clear hK K
 refine norm_ (a' := ?_) ?_ ?_
 rotate_left
 ·
  show Act.put _ (some 32) _ = _
  simp only [Act.put, List.setIfInBounds_toArray, List.set_cons_zero, List.set_cons_succ, i64_w, i32_w]
  rfl
 refine pure_ (i := 17) (N := some 15) (v := ?_) (a' := ?_) #[true, true, true, true, true, true, true, true, true, true, true, true, true, true, true, true, true, true, false, false, false, false] rfl rfl (by kernel_rfl) (fun _ _ _ h => h) (Or.inl ⟨by rfl, ?_⟩) ?_ ?_
 rotate_left
 ·
  intro w'
  go_simp
  with_reducible rfl
 rotate_left
 ·
  simp only [Act.put, List.setIfInBounds_toArray, List.set_cons_zero, List.set_cons_succ, i64_w, i32_w]
  rfl
 refine pure_ (i := 18) (N := some 33) (v := ?_) (a' := ?_) #[true, true, true, true, true, true, true, true, true, true, true, true, true, true, true, true, true, true, true, false, false, false] rfl rfl (by kernel_rfl) (fun _ _ _ h => h) (Or.inl ⟨by rfl, ?_⟩) ?_ ?_
 rotate_left
 ·
  intro w'
  go_simp
  with_reducible rfl
 rotate_left
 ·
  simp only [Act.put, List.setIfInBounds_toArray, List.set_cons_zero, List.set_cons_succ, i64_w, i32_w]
  rfl
 refine pure_ (i := 19) (N := some 34) (v := ?_) (a' := ?_) #[true, true, true, true, true, true, true, true, true, true, true, true, true, true, true, true, true, true, true, true, false, false] rfl rfl (by kernel_rfl) (fun _ _ _ h => h) (Or.inl ⟨by rfl, ?_⟩) ?_ ?_
 rotate_left
 ·
  intro w'
  go_simp
  with_reducible rfl
 rotate_left
 ·
  simp only [Act.put, List.setIfInBounds_toArray, List.set_cons_zero, List.set_cons_succ, i64_w, i32_w]
  rfl
 refine pure_ (i := 20) (N := some 4) (v := ?_) (a' := ?_) #[true, true, true, true, true, true, true, true, true, true, true, true, true, true, true, true, true, true, true, true, true, false] rfl rfl (by kernel_rfl) (fun _ _ _ h => h) (Or.inl ⟨by rfl, ?_⟩) ?_ ?_
 rotate_left
 ·
  intro w'
  go_simp
  with_reducible rfl
 rotate_left
 ·
  simp only [Act.put, List.setIfInBounds_toArray, List.set_cons_zero, List.set_cons_succ, i64_w, i32_w]
  rfl
 refine pure_ (i := 21) (N := some 5) (v := ?_) (a' := ?_) #[true, true, true, true, true, true, true, true, true, true, true, true, true, true, true, true, true, true, true, true, true, true] rfl rfl (by kernel_rfl) (fun _ _ _ h => h) (Or.inl ⟨by rfl, ?_⟩) ?_ ?_
 rotate_left
 ·
  intro w'
  go_simp
  with_reducible rfl
 rotate_left
 ·
  simp only [Act.put, List.setIfInBounds_toArray, List.set_cons_zero, List.set_cons_succ, i64_w, i32_w]
  rfl
 refine done_ (by kernel_rfl) ?_
 clear HEC HEL HQ HS1 hHeld
 replace HR2 := am (Kd.R_drew HR2.out)
 replace HS2 := am HS2.out.drew
 try go_wp2
 generalize hW2 : w2.drew = W2 at HR2 HS2
 obtain ⟨oks, As, cs2, hs1, hs2, hsR, hsH, hsn⟩ := ow_elem HS2.out.s t HT.out.1 HT.out.2
 rw [HFT.out] at hs1 hsR hsH
 have HSR := am hsR
 have HSH := am hsH
 have HSN := am hsn
 have HSC := am (And.intro hs1 hs2)
 obtain ⟨-, -, hv3, -, -⟩ := HS2.out.cells HT.out.1 HT.out.2
 clear hsR hsH hsn hs2
 have HW2 := am hW2
 clear hW2
 refine start_ (n := 18) (S := fun w' => w'.cell? ⟨gx, 2, none⟩ = some (.slice (some ⟨gs, 0, none⟩) T cs) ∧ w'.cell? ⟨gs, t.toNat, none⟩ = some (.slice As ft.length cs2)) (ds := [17]) #[false, false, false, false, false, false, false, false, false, false, false, false, false, false, false, false, false, false] (by kernel_rfl) rfl rfl (by rw [HW2.out]; exact ⟨hv3, hs1⟩) (fun hHeld => ?_)
 rw [HW2.out] at hHeld ⊢
 clear HW2
 refine pure_ (i := 0) (N := some 35) (v := ?_) (a' := ?_) #[true, false, false, false, false, false, false, false, false, false, false, false, false, false, false, false, false, false] rfl rfl (by kernel_rfl) (fun _ _ _ h => h) (Or.inl ⟨by rfl, ?_⟩) ?_ ?_
 rotate_left
 ·
  intro w'
  go_simp
  with_reducible rfl
 rotate_left
 ·
  simp only [Act.put, List.setIfInBounds_toArray, List.set_cons_zero, List.set_cons_succ, i64_w, i32_w]
  rfl
 refine pure_ (i := 1) (N := some 36) (v := ?_) (a' := ?_) #[true, true, false, false, false, false, false, false, false, false, false, false, false, false, false, false, false, false] rfl rfl (by kernel_rfl) (fun _ _ _ h => h) (Or.inl ⟨by rfl, ?_⟩) ?_ ?_
 rotate_left
 ·
  intro w'
  go_simp
  with_reducible rfl
 rotate_left
 ·
  simp only [Act.put, List.setIfInBounds_toArray, List.set_cons_zero, List.set_cons_succ, i64_w, i32_w]
  rfl
 refine pure_ (i := 2) (N := some 37) (v := ?_) (a' := ?_) #[true, true, true, false, false, false, false, false, false, false, false, false, false, false, false, false, false, false] rfl rfl (by kernel_rfl) (fun _ _ _ h => h) (Or.inl ⟨by rfl, ?_⟩) ?_ ?_
 rotate_left
 ·
  intro w'
  go_simp
  with_reducible rfl
 rotate_left
 ·
  simp only [Act.put, List.setIfInBounds_toArray, List.set_cons_zero, List.set_cons_succ, i64_w, i32_w]
  rfl
 refine pure_ (i := 4) (N := some 39) (v := ?_) (a' := ?_) #[true, true, true, false, true, false, false, false, false, false, false, false, false, false, false, false, false, false] rfl rfl (by kernel_rfl) (fun _ _ _ h => h) (Or.inl ⟨by rfl, ?_⟩) ?_ ?_
 rotate_left
 ·
  intro w'
  go_simp
  with_reducible rfl
 rotate_left
 ·
  simp only [Act.put, List.setIfInBounds_toArray, List.set_cons_zero, List.set_cons_succ, i64_w, i32_w]
  rfl
 refine pure_ (i := 6) (N := some 41) (v := ?_) (a' := ?_) #[true, true, true, false, true, false, true, false, false, false, false, false, false, false, false, false, false, false] rfl rfl (by kernel_rfl) (fun _ _ _ h => h) (Or.inl ⟨by rfl, ?_⟩) ?_ ?_
 rotate_left
 ·
  intro w'
  go_simp
  with_reducible rfl
 rotate_left
 ·
  simp only [Act.put, List.setIfInBounds_toArray, List.set_cons_zero, List.set_cons_succ, i64_w, i32_w]
  rfl
 refine pure_ (i := 7) (N := some 42) (v := ?_) (a' := ?_) #[true, true, true, false, true, false, true, true, false, false, false, false, false, false, false, false, false, false] rfl rfl (by kernel_rfl) (fun _ _ _ h => h) (Or.inl ⟨by rfl, ?_⟩) ?_ ?_
 rotate_left
 ·
  intro w'
  go_simp
  with_reducible rfl
 rotate_left
 ·
  simp only [Act.put, List.setIfInBounds_toArray, List.set_cons_zero, List.set_cons_succ, i64_w, i32_w]
  rfl
 refine pure_ (i := 8) (N := some 43) (v := ?_) (a' := ?_) #[true, true, true, false, true, false, true, true, true, false, false, false, false, false, false, false, false, false] rfl rfl (by kernel_rfl) (fun _ _ _ h => h) (Or.inl ⟨by rfl, ?_⟩) ?_ ?_
 rotate_left
 ·
  intro w'
  go_simp
  with_reducible rfl
 rotate_left
 ·
  simp only [Act.put, List.setIfInBounds_toArray, List.set_cons_zero, List.set_cons_succ, i64_w, i32_w]
  rfl
 refine pure_ (i := 10) (N := some 45) (v := ?_) (a' := ?_) #[true, true, true, false, true, false, true, true, true, false, true, false, false, false, false, false, false, false] rfl rfl (by kernel_rfl) (fun _ _ _ h => h) (Or.inl ⟨by rfl, ?_⟩) ?_ ?_
 rotate_left
 ·
  intro w'
  go_simp
  with_reducible rfl
 rotate_left
 ·
  simp only [Act.put, List.setIfInBounds_toArray, List.set_cons_zero, List.set_cons_succ, i64_w, i32_w]
  rfl
 refine pure_ (i := 14) (N := some 49) (v := ?_) (a' := ?_) #[true, true, true, false, true, false, true, true, true, false, true, false, false, false, true, false, false, false] rfl rfl (by kernel_rfl) (fun _ _ _ h => h) (Or.inl ⟨by rfl, ?_⟩) ?_ ?_
 rotate_left
 ·
  intro w'
  go_simp
  with_reducible rfl
 rotate_left
 ·
  simp only [Act.put, List.setIfInBounds_toArray, List.set_cons_zero, List.set_cons_succ, i64_w, i32_w]
  rfl
 refine take_ (i := 3) (N := some 38) (v := ?_) (a' := ?_) #[true, true, true, true, true, false, true, true, true, false, true, false, false, false, true, false, false, false] rfl rfl (by kernel_rfl) (fun _ _ _ h => h) (Or.inl ⟨by rfl, ?_⟩) hHeld ?_ ?_
 rotate_left
 ·
  rintro w' ⟨s0, s1⟩
  go_simp
  with_reducible rfl
 rotate_left
 ·
  simp only [Act.put, List.setIfInBounds_toArray, List.set_cons_zero, List.set_cons_succ, i64_w, i32_w]
  rfl
 refine take_ (i := 9) (N := some 44) (v := ?_) (a' := ?_) #[true, true, true, true, true, false, true, true, true, true, true, false, false, false, true, false, false, false] rfl rfl (by kernel_rfl) (fun _ _ _ h => h) (Or.inl ⟨by rfl, ?_⟩) hHeld ?_ ?_
 rotate_left
 ·
  rintro w' ⟨s0, s1⟩
  go_simp
  with_reducible rfl
 rotate_left
 ·
  simp only [Act.put, List.setIfInBounds_toArray, List.set_cons_zero, List.set_cons_succ, i64_w, i32_w]
  rfl
 refine pure_ (i := 11) (N := some 46) (v := ?_) (a' := ?_) #[true, true, true, true, true, false, true, true, true, true, true, true, false, false, true, false, false, false] rfl rfl (by kernel_rfl) (fun _ _ _ h => h) (Or.inl ⟨by rfl, ?_⟩) ?_ ?_
 rotate_left
 ·
  intro w'
  go_simp
  with_reducible rfl
 rotate_left
 ·
  simp only [Act.put, List.setIfInBounds_toArray, List.set_cons_zero, List.set_cons_succ, i64_w, i32_w]
  rfl
 refine take_ (i := 12) (N := some 47) (v := ?_) (a' := ?_) #[true, true, true, true, true, false, true, true, true, true, true, true, true, false, true, false, false, false] rfl rfl (by kernel_rfl) (fun _ _ _ h => h) (Or.inl ⟨by rfl, ?_⟩) hHeld ?_ ?_
 rotate_left
 ·
  rintro w' ⟨s0, s1⟩
  go_simp
  with_reducible rfl
 rotate_left
 ·
  simp only [Act.put, List.setIfInBounds_toArray, List.set_cons_zero, List.set_cons_succ, i64_w, i32_w]
  rfl
 refine one_ (i := 5) (N := some 40) #[true, true, true, true, true, true, true, true, true, true, true, true, true, false, true, false, false, false] rfl rfl (by kernel_rfl) (by decide) (fun K hK => ?_)
 refine Kd.R_lit_step (Kd.int .u8) (w0 := w0) w0.heap.size 5 (by rfl) rfl (xs := []) (inner := []) (ok := fun k => W2.heap.size ≤ k) (okp := fun _ => False) y6 ⟨rfl, fun j p hj => by simp at hj⟩ (fun _ h => h.elim) (Nat.le_refl _) HS2.out.B HS2.out.B.size (by simp) ?_
 intro v4 w4 hr4 hb4 hg4 hat4
 obtain ⟨A4, c4, e4⟩ := Kd.R_slice hr4
 subst e4
 have HR4 := am hr4
 have HB4 := am hb4
 have HG4 := am hg4
 have hu0 := ((ow_same (hg4.block gx (blk_lt HS2.out.x) (by simp))).1).trans hv3
 have hu1 := ((ow_same (hg4.block gs (blk_lt (HS2.out.typ.2.2).choose_spec) (by simp))).1).trans hs1
 clear hr4 hb4 hg4 hat4
 refine hK.out _ _ ⟨hu0, hu1⟩ (fun hHeld => ?_)
 clear hK K
 refine norm_ (a' := ?_) ?_ ?_
 rotate_left
 ·
  show Act.put _ (some 40) _ = _
  simp only [Act.put, List.setIfInBounds_toArray, List.set_cons_zero, List.set_cons_succ, i64_w, i32_w]
  rfl
 refine one_ (i := 13) (N := some 48) #[true, true, true, true, true, true, true, true, true, true, true, true, true, true, true, false, false, false] rfl rfl (by kernel_rfl) (by decide) (fun K hK => ?_)
 refine Kd.R_append_rows_step (Kd.int .u8) (w0 := w0) w0.heap.size (by rfl) (.tmp 40) (.tmp 47) 27 5 (.int .u8 0) 1 rfl Try.underlying27 info5 rfl (by decide) (by omega) _ [] ft _ _ _ (fun k => W2.heap.size ≤ k) (fun _ => False) rfl rfl (HR4.out) ((Kd.R_reads' (Kd.R_grown HSR.out HG4.out (fun _ _ h => by cases h))).2.2) (fun _ _ h => h) (fun _ h => h.elim) (fun k hk => Nat.le_trans HG4.out.size hk) (HB4.out) (HB4.out.size) (by have := HLM.out; simp; omega) ?_
 intro v5 w5 hr5 hb5 hg5 hat5
 rw [List.nil_append] at hr5
 obtain ⟨A5, c5, e5⟩ := Kd.R_slice hr5
 subst e5
 have HR5 := am hr5
 have HB5 := am hb5
 have HG5 := am (World.grownBy.trans (ow_widen HG4.out _) hg5)
 have HN5 := am (show ∀ k, (Value.slice A4 ([] : List Int).length c4).ownBlock = some k → W2.heap.size ≤ k from HR4.out.1)
 have hy0 := ((ow_same (HG5.out.block gx (blk_lt HS2.out.x) (fun h => by have := HN5.out gx h.symm; have := blk_lt HS2.out.x; omega))).1).trans hv3
 have hy1 := ((ow_same (HG5.out.block gs (blk_lt (HS2.out.typ.2.2).choose_spec) (fun h => by have := HN5.out gs h.symm; have := blk_lt (HS2.out.typ.2.2).choose_spec; omega))).1).trans hs1
 clear hr5 hb5 hg5 hat5
 refine hK.out _ _ ⟨hy0, hy1⟩ (fun hHeld => ?_)
 clear hK K
 refine norm_ (a' := ?_) ?_ ?_
 rotate_left
 ·
  show Act.put _ (some 48) _ = _
  simp only [Act.put, List.setIfInBounds_toArray, List.set_cons_zero, List.set_cons_succ, i64_w, i32_w]
  rfl
 refine one_ (i := 15) (N := some 50) #[true, true, true, true, true, true, true, true, true, true, true, true, true, true, true, true, false, false] rfl rfl (by kernel_rfl) (by decide) (fun K hK => ?_)
 refine Kd.R_append_rows_step (Kd.int .u8) (w0 := w0) w0.heap.size (by rfl) (.tmp 48) (.tmp 49) 27 5 (.int .u8 0) 1 rfl Try.underlying27 info5 rfl (by decide) (by omega) _ ft q1 _ _ _ (fun k => W2.heap.size ≤ k) (fun _ => False) rfl rfl (HR5.out) ((Kd.R_reads' (Kd.R_grown (Kd.R_bound HR2.out) HG5.out (fun k hk h => by have := HN5.out k h.symm; have := hk.2.2.1; omega))).2.2) (fun _ _ h => h) (fun _ h => h.elim) (fun k hk => Nat.le_trans HG5.out.size hk) (HB5.out) (HB5.out.size) (by have := HLM.out; omega) ?_
 intro v3 w3 hr3 hb3 hg3 hat3
 obtain ⟨A3, c3, e3⟩ := Kd.R_slice hr3
 rw [List.length_append] at e3
 subst e3
 have hN0 := ow_fresh HG5.out HN5.out hg3 HR5.out.1
 have HR3 := am (Kd.R_mono hr3 (ok' := fun k => oks k ∨ W2.heap.size ≤ k) (fun k hk => .inr hk))
 have HB3 := am hb3
 have HG3 := am (ow_widen hN0 (Value.slice As ft.length cs2).ownBlock)
 have hw0 := ((ow_same (hN0.block gx (blk_lt HS2.out.x) (by simp))).1).trans hv3
 obtain ⟨hw1, hw2⟩ := ow_same (i := t.toNat) (hN0.block gs (blk_lt (HS2.out.typ.2.2).choose_spec) (by simp))
 rw [HSC.out.1] at hw1
 rw [HSC.out.2] at hw2
 clear hr3 hb3 hg3 hat3 hN0
 refine hK.out _ _ ⟨hw0, hw1⟩ (fun hHeld => ?_)
 clear hK K
 refine norm_ (a' := ?_) ?_ ?_
 rotate_left
 ·
  show Act.put _ (some 50) _ = _
  simp only [Act.put, List.setIfInBounds_toArray, List.set_cons_zero, List.set_cons_succ, i64_w, i32_w]
  rfl
 refine pure_ (i := 16) (N := some 51) (v := ?_) (a' := ?_) #[true, true, true, true, true, true, true, true, true, true, true, true, true, true, true, true, true, false] rfl rfl (by kernel_rfl) (fun _ _ _ h => h) (Or.inl ⟨by rfl, ?_⟩) ?_ ?_
 rotate_left
 ·
  intro w'
  go_simp
  with_reducible rfl
 rotate_left
 ·
  simp only [Act.put, List.setIfInBounds_toArray, List.set_cons_zero, List.set_cons_succ, i64_w, i32_w]
  rfl
 refine last_ (i := 17) (N := none) #[true, true, true, true, true, true, true, true, true, true, true, true, true, true, true, true, true, true] rfl rfl (by kernel_rfl) (by decide) (fun K hK => ?_)
 refine skip_ (w1 := ?_) (by rfl) rfl ?_ ?_
 rotate_left
 ·
  go_simp
  rfl
 refine hK.out _ _ ?_
 clear hK K
 refine done_ (by kernel_rfl) ?_
 clear hHeld
 have HS4 := am (HS2.out.setS HSH.out HT.out.1 HT.out.2 HSN.out HG3.out HB3.out (by rw [HFT.out]; exact HSR.out) HR3.out)
 generalize w3.setCell ⟨gs, t.toNat, none⟩ (.slice A3 (ft.length + q1.length) c3) = w4 at HS4 ⊢
 clear HS2 HSH HSN HG3 HB3 HSR HR3 HSC HR2
 try go_wp2
 generalize hW4 : w4.drew = W4
 replace HS4 := am HS4.out.drew
 rw [hW4] at HS4
 obtain ⟨ok6, A6, c6, he1, he2, heR, heH, hne⟩ := ow_elem HS4.out.b t HT.out.1 HT.out.2
 rw [HBT.out] at he1
 obtain ⟨hv1, hv2, -, hv4, hv5⟩ := HS4.out.cells HT.out.1 HT.out.2
 have hn0 := HN0.out
 rw [hn0] at hv4
 have HW4 := am hW4
 clear hW4 hn0 heR heH hne he2
 refine start_ (n := 23) (S := fun w' => w'.cell? ⟨gx, 0, none⟩ = some (.slice (some ⟨gb, 0, none⟩) T cb) ∧ w'.cell? ⟨gx, 1, none⟩ = some (.slice (some ⟨gf, 0, none⟩) T cf) ∧ w'.cell? ⟨gf, t.toNat, none⟩ = some (.int .i64 n0) ∧ w'.cell? ⟨gb, t.toNat, none⟩ = some (.slice A6 bt.length c6)) (ds := [22]) #[false, false, false, false, false, false, false, false, false, false, false, false, false, false, false, false, false, false, false, false, false, false, false] (by kernel_rfl) rfl rfl (by rw [HW4.out]; exact ⟨hv1, hv2, hv4, he1⟩) (fun hHeld => ?_)
 rw [HW4.out] at hHeld ⊢
 clear HW4
 refine pure_ (i := 0) (N := some 52) (v := ?_) (a' := ?_) #[true, false, false, false, false, false, false, false, false, false, false, false, false, false, false, false, false, false, false, false, false, false, false] rfl rfl (by kernel_rfl) (fun _ _ _ h => h) (Or.inl ⟨by rfl, ?_⟩) ?_ ?_
 rotate_left
 ·
  intro w'
  go_simp
  with_reducible rfl
 rotate_left
 ·
  simp only [Act.put, List.setIfInBounds_toArray, List.set_cons_zero, List.set_cons_succ, i64_w, i32_w]
  rfl
 refine pure_ (i := 1) (N := some 53) (v := ?_) (a' := ?_) #[true, true, false, false, false, false, false, false, false, false, false, false, false, false, false, false, false, false, false, false, false, false, false] rfl rfl (by kernel_rfl) (fun _ _ _ h => h) (Or.inl ⟨by rfl, ?_⟩) ?_ ?_
 rotate_left
 ·
  intro w'
  go_simp
  with_reducible rfl
 rotate_left
 ·
  simp only [Act.put, List.setIfInBounds_toArray, List.set_cons_zero, List.set_cons_succ, i64_w, i32_w]
  rfl
 refine pure_ (i := 2) (N := some 54) (v := ?_) (a' := ?_) #[true, true, true, false, false, false, false, false, false, false, false, false, false, false, false, false, false, false, false, false, false, false, false] rfl rfl (by kernel_rfl) (fun _ _ _ h => h) (Or.inl ⟨by rfl, ?_⟩) ?_ ?_
 rotate_left
 ·
  intro w'
  go_simp
  with_reducible rfl
 rotate_left
 ·
  simp only [Act.put, List.setIfInBounds_toArray, List.set_cons_zero, List.set_cons_succ, i64_w, i32_w]
  rfl
 refine pure_ (i := 4) (N := some 56) (v := ?_) (a' := ?_) #[true, true, true, false, true, false, false, false, false, false, false, false, false, false, false, false, false, false, false, false, false, false, false] rfl rfl (by kernel_rfl) (fun _ _ _ h => h) (Or.inl ⟨by rfl, ?_⟩) ?_ ?_
 rotate_left
 ·
  intro w'
  go_simp
  with_reducible rfl
 rotate_left
 ·
  simp only [Act.put, List.setIfInBounds_toArray, List.set_cons_zero, List.set_cons_succ, i64_w, i32_w]
  rfl
 refine pure_ (i := 5) (N := some 57) (v := ?_) (a' := ?_) #[true, true, true, false, true, true, false, false, false, false, false, false, false, false, false, false, false, false, false, false, false, false, false] rfl rfl (by kernel_rfl) (fun _ _ _ h => h) (Or.inl ⟨by rfl, ?_⟩) ?_ ?_
 rotate_left
 ·
  intro w'
  go_simp
  with_reducible rfl
 rotate_left
 ·
  simp only [Act.put, List.setIfInBounds_toArray, List.set_cons_zero, List.set_cons_succ, i64_w, i32_w]
  rfl
 refine pure_ (i := 6) (N := some 58) (v := ?_) (a' := ?_) #[true, true, true, false, true, true, true, false, false, false, false, false, false, false, false, false, false, false, false, false, false, false, false] rfl rfl (by kernel_rfl) (fun _ _ _ h => h) (Or.inl ⟨by rfl, ?_⟩) ?_ ?_
 rotate_left
 ·
  intro w'
  go_simp
  with_reducible rfl
 rotate_left
 ·
  simp only [Act.put, List.setIfInBounds_toArray, List.set_cons_zero, List.set_cons_succ, i64_w, i32_w]
  rfl
 refine pure_ (i := 7) (N := some 59) (v := ?_) (a' := ?_) #[true, true, true, false, true, true, true, true, false, false, false, false, false, false, false, false, false, false, false, false, false, false, false] rfl rfl (by kernel_rfl) (fun _ _ _ h => h) (Or.inl ⟨by rfl, ?_⟩) ?_ ?_
 rotate_left
 ·
  intro w'
  go_simp
  with_reducible rfl
 rotate_left
 ·
  simp only [Act.put, List.setIfInBounds_toArray, List.set_cons_zero, List.set_cons_succ, i64_w, i32_w]
  rfl
 refine pure_ (i := 9) (N := some 61) (v := ?_) (a' := ?_) #[true, true, true, false, true, true, true, true, false, true, false, false, false, false, false, false, false, false, false, false, false, false, false] rfl rfl (by kernel_rfl) (fun _ _ _ h => h) (Or.inl ⟨by rfl, ?_⟩) ?_ ?_
 rotate_left
 ·
  intro w'
  go_simp
  with_reducible rfl
 rotate_left
 ·
  simp only [Act.put, List.setIfInBounds_toArray, List.set_cons_zero, List.set_cons_succ, i64_w, i32_w]
  rfl
 refine pure_ (i := 12) (N := some 64) (v := ?_) (a' := ?_) #[true, true, true, false, true, true, true, true, false, true, false, false, true, false, false, false, false, false, false, false, false, false, false] rfl rfl (by kernel_rfl) (fun _ _ _ h => h) (Or.inl ⟨by rfl, ?_⟩) ?_ ?_
 rotate_left
 ·
  intro w'
  go_simp
  with_reducible rfl
 rotate_left
 ·
  simp only [Act.put, List.setIfInBounds_toArray, List.set_cons_zero, List.set_cons_succ, i64_w, i32_w]
  rfl
 refine pure_ (i := 13) (N := some 65) (v := ?_) (a' := ?_) #[true, true, true, false, true, true, true, true, false, true, false, false, true, true, false, false, false, false, false, false, false, false, false] rfl rfl (by kernel_rfl) (fun _ _ _ h => h) (Or.inl ⟨by rfl, ?_⟩) ?_ ?_
 rotate_left
 ·
  intro w'
  go_simp
  with_reducible rfl
 rotate_left
 ·
  simp only [Act.put, List.setIfInBounds_toArray, List.set_cons_zero, List.set_cons_succ, i64_w, i32_w]
  rfl
 refine pure_ (i := 14) (N := some 66) (v := ?_) (a' := ?_) #[true, true, true, false, true, true, true, true, false, true, false, false, true, true, true, false, false, false, false, false, false, false, false] rfl rfl (by kernel_rfl) (fun _ _ _ h => h) (Or.inl ⟨by rfl, ?_⟩) ?_ ?_
 rotate_left
 ·
  intro w'
  go_simp
  with_reducible rfl
 rotate_left
 ·
  simp only [Act.put, List.setIfInBounds_toArray, List.set_cons_zero, List.set_cons_succ, i64_w, i32_w]
  rfl
 refine pure_ (i := 16) (N := some 68) (v := ?_) (a' := ?_) #[true, true, true, false, true, true, true, true, false, true, false, false, true, true, true, false, true, false, false, false, false, false, false] rfl rfl (by kernel_rfl) (fun _ _ _ h => h) (Or.inl ⟨by rfl, ?_⟩) ?_ ?_
 rotate_left
 ·
  intro w'
  go_simp
  with_reducible rfl
 rotate_left
 ·
  simp only [Act.put, List.setIfInBounds_toArray, List.set_cons_zero, List.set_cons_succ, i64_w, i32_w]
  rfl
 refine take_ (i := 3) (N := some 55) (v := ?_) (a' := ?_) #[true, true, true, true, true, true, true, true, false, true, false, false, true, true, true, false, true, false, false, false, false, false, false] rfl rfl (by kernel_rfl) (fun _ _ _ h => h) (Or.inl ⟨by rfl, ?_⟩) hHeld ?_ ?_
 rotate_left
 ·
  rintro w' ⟨s0, s1, s2, s3⟩
  go_simp
  with_reducible rfl
 rotate_left
 ·
  simp only [Act.put, List.setIfInBounds_toArray, List.set_cons_zero, List.set_cons_succ, i64_w, i32_w]
  rfl
 refine take_ (i := 8) (N := some 60) (v := ?_) (a' := ?_) #[true, true, true, true, true, true, true, true, true, true, false, false, true, true, true, false, true, false, false, false, false, false, false] rfl rfl (by kernel_rfl) (fun _ _ _ h => h) (Or.inl ⟨by rfl, ?_⟩) hHeld ?_ ?_
 rotate_left
 ·
  rintro w' ⟨s0, s1, s2, s3⟩
  go_simp
  with_reducible rfl
 rotate_left
 ·
  simp only [Act.put, List.setIfInBounds_toArray, List.set_cons_zero, List.set_cons_succ, i64_w, i32_w]
  rfl
 refine pure_ (i := 10) (N := some 62) (v := ?_) (a' := ?_) #[true, true, true, true, true, true, true, true, true, true, true, false, true, true, true, false, true, false, false, false, false, false, false] rfl rfl (by kernel_rfl) (fun _ _ _ h => h) (Or.inl ⟨by rfl, ?_⟩) ?_ ?_
 rotate_left
 ·
  intro w'
  go_simp
  with_reducible rfl
 rotate_left
 ·
  simp only [Act.put, List.setIfInBounds_toArray, List.set_cons_zero, List.set_cons_succ, i64_w, i32_w]
  rfl
 refine take_ (i := 11) (N := some 63) (v := ?_) (a' := ?_) #[true, true, true, true, true, true, true, true, true, true, true, true, true, true, true, false, true, false, false, false, false, false, false] rfl rfl (by kernel_rfl) (fun _ _ _ h => h) (Or.inl ⟨by rfl, ?_⟩) hHeld ?_ ?_
 rotate_left
 ·
  rintro w' ⟨s0, s1, s2, s3⟩
  go_simp
  with_reducible rfl
 rotate_left
 ·
  simp only [Act.put, List.setIfInBounds_toArray, List.set_cons_zero, List.set_cons_succ, i64_w, i32_w]
  rfl
 refine take_ (i := 15) (N := some 67) (v := ?_) (a' := ?_) #[true, true, true, true, true, true, true, true, true, true, true, true, true, true, true, true, true, false, false, false, false, false, false] rfl rfl (by kernel_rfl) (fun _ _ _ h => h) (Or.inl ⟨by rfl, ?_⟩) hHeld ?_ ?_
 rotate_left
 ·
  rintro w' ⟨s0, s1, s2, s3⟩
  go_simp
  with_reducible rfl
 rotate_left
 ·
  simp only [Act.put, List.setIfInBounds_toArray, List.set_cons_zero, List.set_cons_succ, i64_w, i32_w]
  rfl
 refine pure_ (i := 17) (N := some 69) (v := ?_) (a' := ?_) #[true, true, true, true, true, true, true, true, true, true, true, true, true, true, true, true, true, true, false, false, false, false, false] rfl rfl (by kernel_rfl) (fun _ _ _ h => h) (Or.inl ⟨by rfl, ?_⟩) ?_ ?_
 rotate_left
 ·
  intro w'
  go_simp
  with_reducible rfl
 rotate_left
 ·
  simp only [Act.put, List.setIfInBounds_toArray, List.set_cons_zero, List.set_cons_succ, i64_w, i32_w]
  rfl
 refine take_ (i := 18) (N := some 70) (v := ?_) (a' := ?_) #[true, true, true, true, true, true, true, true, true, true, true, true, true, true, true, true, true, true, true, false, false, false, false] rfl rfl (by kernel_rfl) (fun _ _ _ h => h) (Or.inl ⟨by rfl, ?_⟩) hHeld ?_ ?_
 rotate_left
 ·
  rintro w' ⟨s0, s1, s2, s3⟩
  go_simp
  with_reducible rfl
 rotate_left
 ·
  simp only [Act.put, List.setIfInBounds_toArray, List.set_cons_zero, List.set_cons_succ, i64_w, i32_w]
  rfl
 refine pure_ (i := 19) (N := some 71) (v := ?_) (a' := ?_) #[true, true, true, true, true, true, true, true, true, true, true, true, true, true, true, true, true, true, true, true, false, false, false] rfl rfl (by kernel_rfl) (fun _ _ _ h => h) (Or.inl ⟨by rfl, ?_⟩) ?_ ?_
 rotate_left
 ·
  intro w'
  go_simp
  with_reducible rfl
 rotate_left
 ·
  simp only [Act.put, List.setIfInBounds_toArray, List.set_cons_zero, List.set_cons_succ, i64_w, i32_w]
  rfl
 refine pure_ (i := 20) (N := some 72) (v := ?_) (a' := ?_) #[true, true, true, true, true, true, true, true, true, true, true, true, true, true, true, true, true, true, true, true, true, false, false] rfl rfl (by kernel_rfl) (fun _ _ _ h => h) (Or.inl ⟨by rfl, ?_⟩) ?_ ?_
 rotate_left
 ·
  intro w'
  go_simp
  with_reducible rfl
 rotate_left
 ·
  simp only [Act.put, List.setIfInBounds_toArray, List.set_cons_zero, List.set_cons_succ, i64_w, i32_w]
  rfl
 refine pure_ (i := 21) (N := some 73) (v := ?_) (a' := ?_) #[true, true, true, true, true, true, true, true, true, true, true, true, true, true, true, true, true, true, true, true, true, true, false] rfl rfl (by kernel_rfl) (fun _ _ _ h => h) (Or.inl ⟨by rfl, ?_⟩) ?_ ?_
 rotate_left
 ·
  intro w'
  go_simp
  with_reducible rfl
 rotate_left
 ·
  simp only [Act.put, List.setIfInBounds_toArray, List.set_cons_zero, List.set_cons_succ, i64_w, i32_w]
  rfl
 refine last_ (i := 22) (N := none) #[true, true, true, true, true, true, true, true, true, true, true, true, true, true, true, true, true, true, true, true, true, true, true] rfl rfl (by kernel_rfl) (by decide) (fun K hK => ?_)
 refine skip_ (w1 := ?_) (by rfl) rfl ?_ ?_
 rotate_left
 ·
  go_simp
  rfl
 refine hK.out _ _ ?_
 clear hK K
 refine done_ (by kernel_rfl) ?_
 clear hHeld
 have HS6 := am (HS4.out.setF t (wrap64 (n0 + (bt.length : Int))))
 generalize W4.setCell ⟨gf, t.toNat, none⟩ (.int .i64 (wrap64 (n0 + (bt.length : Int)))) = W6 at HS6 ⊢
 clear HS4 hv1 hv2 hv4 hv5 he1
 obtain ⟨ok7, A7, c7, he1, he2, heR, heH, hne⟩ := ow_elem HS6.out.b t HT.out.1 HT.out.2
 have HER := am heR
 have HEH := am heH
 have HNE := am hne
 obtain ⟨hv1, -, -, -, -⟩ := HS6.out.cells HT.out.1 HT.out.2
 clear heR heH hne
 go_wp2
 go_end0
 have hr := HH.out
 subst hr
 exact y39
attribute [local go_sem] max2_int min2_int max_two min_two
end Go.Proofs.Ytnmmkgagbfniiaa.A
end
