/- MRecordTells12: texts of this session and of the kit's printer on the road to the statement RecordTells, laid into one and rid of what it doesn't need. No condition beyond what each fact names. -/
import Derived.Test.YtnmmkgagbfniiaaMRecordTells4
import Derived.Test.YtnmmkgagbfniiaaMRecordTells3
import Derived.Test.YtnmmkgagbfniiaaMRecordTells11
import Derived.Test.YtnmmkgagbfniiaaMRecordTells5
section
namespace Go.Proofs.Ytnmmkgagbfniiaa.A
open Go.RowKit Go.Proofs.YtnmmkgagbfniiaaW.PrintWords Go.Proofs.YtnmmkgagbfniiaaW.PrintLast Go.Proofs.YtnmmkgagbfniiaaW.PrintMore
attribute [local go_sem] max2_int min2_int max_two min_two max_three min_three max_four min_four
set_option linter.unusedVariables false
set_option linter.unusedSimpArgs false
theorem ow_fixedC {α : Type} {d : Kd α} {w0 W : World} {e base n c : Nat} {ok : Nat → Prop} {A : Option Addr} {xs : List α} (h : (Kd.fixed d w0).R e W base ok (.slice A n c) xs) (hb : Below w0.heap.size w0 W) : n = xs.length ∧ n ≤ c ∧ d.C W A xs.length xs := by
 obtain ⟨h1, h2, h3⟩ := Kd.R_reads' h
 exact ⟨h1, h2, ReadsRow.imp_ h3 (Below.refl _ _) (fun _ _ hp => d.K_below hb hp)⟩
theorem ow_elem {α : Type} {d : Kd α} {e eb g n cap base : Nat} {W : World} {xs : List (List α)} (h : Kd.S (Kd.slice e d) eb W base (fun _ => True) (.slice (some ⟨g, 0, none⟩) n cap) xs) (i : Int) (h0 : 0 ≤ i) (h1 : i < n) :
  ∃ oki A c, W.cell? ⟨g, i.toNat, none⟩ = some (.slice A (xs.getD i.toNat []).length c) ∧ W.frozen? ⟨g, i.toNat, none⟩ = false ∧ d.R e W base oki (.slice A (xs.getD i.toNat []).length c) (xs.getD i.toNat []) ∧ Kd.H (Kd.slice e d) eb W base (fun _ => True) (.slice (some ⟨g, 0, none⟩) n cap) xs i oki [.slice A (xs.getD i.toNat []).length c] ∧ (∀ k, oki k → k ≠ g) := by
 obtain ⟨oki, c, _, hM, hc, hf, ho, hH⟩ := Kd.S_elem h ([] : List α) i h0 h1
 obtain ⟨v, rfl, hR⟩ := hM
 obtain ⟨A, c, rfl⟩ := Kd.R_slice hR
 have hc0 := hc 0 _ rfl
 have hf0 := hf 0
 rw [show (Kd.slice e d).sz = 1 from rfl, Nat.mul_one, Nat.add_zero] at hc0 hf0
 exact ⟨oki, A, c, hc0, hf0, hR, hH, fun k hk => (ho k hk).2⟩
theorem ow_put {α : Type} {d : Kd α} {e eb g n cap base : Nat} {W w1 : World} {xs : List (List α)} {oki : Nat → Prop} {vi v1 : Value} {ys : List α} {i : Int} (hH : Kd.H (Kd.slice e d) eb W base (fun _ => True) (.slice (some ⟨g, 0, none⟩) n cap) xs i oki [vi]) (h0 : 0 ≤ i) (h1 : i < n) (hne : ∀ k, oki k → k ≠ g) (hgl : g < W.heap.size)
  (hg : W.grownBy w1 vi.ownBlock) (hown : ∀ k, vi.ownBlock = some k → oki k) (hR : d.R e w1 base (fun k => oki k ∨ W.heap.size ≤ k) v1 ys) : Kd.S (Kd.slice e d) eb (w1.setCell ⟨g, i.toNat, none⟩ v1) base (fun _ => True) (.slice (some ⟨g, 0, none⟩) n cap) (xs.set i.toNat ys) := by
 have H2 := Kd.H_grown (Kd.H_widen hH) hg (fun k hk => Or.inl (hown k hk))
 obtain ⟨A, c, rfl⟩ := Kd.R_slice hR
 have H3 := (Kd.H_seg H2 h0 h1 (seg := [.slice A ys.length c]) (j := 0) (by show 0 + 1 ≤ 1; omega) (by intro q hq; rw [List.mem_singleton.1 hq]; rfl)).1
 rw [show (Kd.slice e d).sz = 1 from rfl, Nat.mul_one, Nat.add_zero] at H3
 refine Kd.H_back (okp := fun k => oki k ∨ W.heap.size ≤ k) H3 ⟨_, rfl, ?_⟩ (fun k hk => hk.imp id (fun h => ⟨trivial, h⟩))
 exact Kd.R_far hR (p := ⟨g, i.toNat, none⟩) (fun k hk => hk.elim (hne k) (fun h => by show k ≠ g; omega)) _
def wrF (enc : Nat → Int → Int → List S26 → Option (List Int × Int)) (k : Nat) (t : Int) (bufs : List (List S26)) (first : List Int) (files : List (List Int)) : Option (List (List S26) × List Int × List (List Int)) :=
 if (bufs.getD t.toNat []).length = 0 then some (bufs, first, files) else (enc k t (rd first t) (bufs.getD t.toNat [])).bind fun q => if (files.getD t.toNat []).length + q.1.length < 140737488355328 then some (bufs.set t.toNat [], first.set t.toNat (wrap64 (rd first t + ((bufs.getD t.toNat []).length : Int))), files.set t.toNat (files.getD t.toNat [] ++ q.1)) else none
theorem ow_same {W w1 : World} {g i : Nat} (h : w1.heap[g]? = W.heap[g]?) : w1.cell? ⟨g, i, none⟩ = W.cell? ⟨g, i, none⟩ ∧ w1.frozen? ⟨g, i, none⟩ = W.frozen? ⟨g, i, none⟩ := by
 simp only [World.cell?, World.frozen?, h, and_self]
theorem ow_widen {W w1 : World} (h : W.grownBy w1 none) (row : Option Nat) : W.grownBy w1 row := ⟨h.os, h.tape, h.output, h.size, fun k hk _ => h.block k hk (by simp)⟩
theorem ow_fresh {W w1 w2 : World} {r1 r2 : Option Nat} (h : W.grownBy w1 r1) (h1 : ∀ k, r1 = some k → W.heap.size ≤ k) (g : w1.grownBy w2 r2) (h2 : ∀ k, r2 = some k → W.heap.size ≤ k) : W.grownBy w2 none :=
 ⟨g.os.trans h.os, g.tape.trans h.tape, g.output.trans h.output, Nat.le_trans h.size g.size, fun k hk _ => (g.block k (Nat.lt_of_lt_of_le hk h.size) (fun e => Nat.lt_irrefl _ (Nat.lt_of_lt_of_le hk (h2 k e.symm)))).trans (h.block k hk (fun e => Nat.lt_irrefl _ (Nat.lt_of_lt_of_le hk (h1 k e.symm))))⟩
theorem ow_unlike {W : World} {g ty e : Nat} {c : Array Value} {v : Value} (h : W.heap[g]? = some (.cells c ty (0, 0))) (hty : ∀ k, v.ownBlock = some k → ∃ c', W.heap[k]? = some (.cells c' e (0, 0))) (hn : ty ≠ e) : some g ≠ v.ownBlock := fun he => by obtain ⟨c', hc⟩ := hty _ he.symm; exact blk_ne h hc hn rfl
def adF (enc : Nat → Int → Int → List S26 → Option (List Int × Int)) (k : Nat) (e : S24) (seq cap : Int) (bufs : List (List S26)) (first : List Int) (files : List (List Int)) : Option (List (List S26) × List Int × List (List Int)) :=
 if 0 ≤ e.f0 ∧ e.f0 < (bufs.length : Int) ∧ (bufs.getD e.f0.toNat []).length < 1466015503701 then (if ((bufs.getD e.f0.toNat [] ++ [(⟨seq, e⟩ : S26)]).length : Int) = cap ∨ e.f1 = 2 then wrF enc k e.f0 (bufs.set e.f0.toNat (bufs.getD e.f0.toNat [] ++ [(⟨seq, e⟩ : S26)])) first files else some (bufs.set e.f0.toNat (bufs.getD e.f0.toNat [] ++ [(⟨seq, e⟩ : S26)]), first, files)) else none
theorem ow_alc {W : World} {p : Addr} {v : Value} (h : W.cell? p = some v) (o : Obj) : (W.alloc o).cell? p = some v := ((below_alloc (Below.refl _ _) o).cell (World.block_lt_of_cell? W _ h)).trans h
def flF (enc : Nat → Int → Int → List S26 → Option (List Int × Int)) (k : Nat) (n : Int) : List S57 → List (List S26) → List Int → List (List Int) → Option (List (List S26) × List Int × List (List Int))
 | [], b, i, s => some (b, i, s)
 | f :: fs, b, i, s => if f.f0 = n then (if 0 ≤ f.f1 ∧ f.f1 < (b.length : Int) then (wrF enc k f.f1 b i s).bind fun q => flF enc k n fs q.1 q.2.1 q.2.2 else none) else flF enc k n fs b i s
def rnF (enc : Nat → Int → Int → List S26 → Option (List Int × Int)) (k : Nat) (l : List S24) (cap : Int) (fl : List S57) : Nat → Int → List (List S26) → List Int → List (List Int) → Option (List (List S26) × List Int × List (List Int))
 | 0, _, b, z, s => some (b, z, s)
 | d + 1, n, b, z, s => (adF enc k (rd_T24 l (n - 1)) (n - 1) cap b z s).bind fun q => (flF enc k n fl q.1 q.2.1 q.2.2).bind fun q => rnF enc k l cap fl d (n + 1) q.1 q.2.1 q.2.2
def ctF (g : Int → Int → Int) : List Int → Nat → List (List Int) → Option (List (List Int))
 | [], _, s => some s
 | c :: cs, t, s => if t < s.length ∧ 0 ≤ g c ((s.getD t []).length : Int) ∧ g c ((s.getD t []).length : Int) ≤ ((s.getD t []).length : Int) then ctF g cs (t + 1) (s.set t ((s.getD t []).take (g c ((s.getD t []).length : Int)).toNat)) else none
def flsF (chk : Nat → List S24 → Int → Int → List S57 → Int → List Int → Option Int) (enc : Nat → Int → Int → List S26 → Option (List Int × Int)) (g : Int → Int → Int) (k : Nat) (l : List S24) (a1 cap : Int) (fl : List S57) (stop : Int) (cuts : List Int) : Option (List (List Int) × Int) :=
 (chk k l a1 cap fl stop cuts).bind fun e => if e = 0 then (if 1 ≤ a1 ∧ a1 ≤ 4 ∧ 0 ≤ stop ∧ l.length ≤ 400 then (flF enc k 0 fl (List.replicate a1.toNat []) (List.replicate a1.toNat 0) (List.replicate a1.toNat [])).bind fun q => (rnF enc k l cap fl (mn stop (l.length : Int)).toNat 1 q.1 q.2.1 q.2.2).bind fun q => (ctF g cuts 0 q.2.2).bind fun s => some (s, 0) else none) else some ([], e)
section
variable {enc : Nat → Int → Int → List S26 → Option (List Int × Int)}
theorem wrF_mono (he : ∀ k a b c, LeO (enc k a b c) (enc (k + 1) a b c)) (k : Nat) (t : Int) (b : List (List S26)) (z : List Int) (s : List (List Int)) : LeO (wrF enc k t b z s) (wrF enc (k + 1) t b z s) := by
 unfold wrF
 exact LeO.ite (LeO.refl _) (LeO.bind (he _ _ _ _) fun _ => LeO.refl _)
theorem adF_mono (he : ∀ k a b c, LeO (enc k a b c) (enc (k + 1) a b c)) (k : Nat) (e : S24) (q c : Int) (b : List (List S26)) (z : List Int) (s : List (List Int)) : LeO (adF enc k e q c b z s) (adF enc (k + 1) e q c b z s) := by
 unfold adF
 exact LeO.ite (LeO.ite (wrF_mono he _ _ _ _ _) (LeO.refl _)) (LeO.none _)
theorem flF_mono (he : ∀ k a b c, LeO (enc k a b c) (enc (k + 1) a b c)) (k : Nat) (n : Int) : ∀ (fl : List S57) (b : List (List S26)) (z : List Int) (s : List (List Int)), LeO (flF enc k n fl b z s) (flF enc (k + 1) n fl b z s)
 | [], _, _, _ => LeO.refl _
 | f :: fs, b, z, s => by
  unfold flF
  exact LeO.ite (LeO.ite (LeO.bind (wrF_mono he _ _ _ _ _) fun _ => flF_mono he k n fs _ _ _) (LeO.none _)) (flF_mono he k n fs _ _ _)
theorem rnF_mono (he : ∀ k a b c, LeO (enc k a b c) (enc (k + 1) a b c)) (k : Nat) (l : List S24) (c : Int) (fl : List S57) : ∀ (d : Nat) (n : Int) (b : List (List S26)) (z : List Int) (s : List (List Int)), LeO (rnF enc k l c fl d n b z s) (rnF enc (k + 1) l c fl d n b z s)
 | 0, _, _, _, _ => LeO.refl _
 | d + 1, n, b, z, s => by
  unfold rnF
  exact LeO.bind (adF_mono he _ _ _ _ _ _ _) fun _ => LeO.bind (flF_mono he _ _ _ _ _ _) fun _ => rnF_mono he k l c fl d _ _ _ _
theorem flsF_mono (he : ∀ k a b c, LeO (enc k a b c) (enc (k + 1) a b c)) {chk : Nat → List S24 → Int → Int → List S57 → Int → List Int → Option Int} (hc : ∀ k l a b c d f, LeO (chk k l a b c d f) (chk (k + 1) l a b c d f)) (g : Int → Int → Int) (k : Nat) (l : List S24) (a1 cap : Int) (fl : List S57) (stop : Int) (cuts : List Int) : LeO (flsF chk enc g k l a1 cap fl stop cuts) (flsF chk enc g (k + 1) l a1 cap fl stop cuts) := by
 unfold flsF
 exact LeO.bind (hc _ _ _ _ _ _ _) fun _ => LeO.ite (LeO.ite (LeO.bind (flF_mono he _ _ _ _ _ _) fun _ => LeO.bind (rnF_mono he _ _ _ _ _ _ _ _ _) fun _ => LeO.refl _) (LeO.none _)) (LeO.refl _)
end
theorem ow_info40 : (Try.prog.info? 40).map (fun i => (i.zero, i.size, i.bytes)) = some (some (.slice none 0 0), 1, 24) := by kernel_rfl
theorem ow_info27 : (Try.prog.info? 27).map (fun i => (i.zero, i.size, i.bytes)) = some (some (.slice none 0 0), 1, 24) := by kernel_rfl
structure j14_writer.St (w0 : World) (gx : Nat) (T : Nat) (bufs : List (List S26)) (first : List Int) (files : List (List Int)) (gb cb gf cf gs cs : Nat) (W : World) : Prop where
 x : W.heap[gx]? = some (.cells #[.slice (some ⟨gb, 0, none⟩) T cb, .slice (some ⟨gf, 0, none⟩) T cf, .slice (some ⟨gs, 0, none⟩) T cs] 112 (0, 0))
 b : Kd.S (Kd.slice 26 (Kd.fixed k26 w0)) 40 W w0.heap.size (fun _ => True) (.slice (some ⟨gb, 0, none⟩) T cb) bufs
 f : Kd.R (Kd.int .i64) 3 W w0.heap.size (fun _ => True) (.slice (some ⟨gf, 0, none⟩) T cf) first
 s : Kd.S (Kd.slice 5 (Kd.int .u8)) 27 W w0.heap.size (fun _ => True) (.slice (some ⟨gs, 0, none⟩) T cs) files
 B : Below w0.heap.size w0 W
 g : w0.heap.size ≤ gx
section
variable {w0 W w1 : World} {gx T gb cb gf cf gs cs : Nat} {bufs : List (List S26)} {first : List Int} {files : List (List Int)}
theorem j14_writer.St.below (h : j14_writer.St w0 gx T bufs first files gb cb gf cf gs cs W) (hb : Below W.heap.size W w1) : j14_writer.St w0 gx T bufs first files gb cb gf cf gs cs w1 :=
 ⟨blk_below h.x hb, Kd.S_below h.b hb, Kd.R_below h.f hb, Kd.S_below h.s hb, below_step h.B hb, h.g⟩
theorem j14_writer.St.drew (h : j14_writer.St w0 gx T bufs first files gb cb gf cf gs cs W) : j14_writer.St w0 gx T bufs first files gb cb gf cf gs cs W.drew := h.below (below_drew (Below.refl _ _))
theorem j14_writer.St.len (h : j14_writer.St w0 gx T bufs first files gb cb gf cf gs cs W) : T = bufs.length ∧ T = first.length ∧ T = files.length := ⟨(Kd.S_reads' h.b).1, (Kd.R_reads' h.f).1, (Kd.S_reads' h.s).1⟩
theorem j14_writer.St.typ (h : j14_writer.St w0 gx T bufs first files gb cb gf cf gs cs W) : (∃ c, W.heap[gb]? = some (.cells c 40 (0, 0))) ∧ (∃ c, W.heap[gf]? = some (.cells c 3 (0, 0))) ∧ (∃ c, W.heap[gs]? = some (.cells c 27 (0, 0))) := ⟨Kd.S_typed h.b gb rfl, Kd.R_typed h.f gf rfl, Kd.S_typed h.s gs rfl⟩
theorem j14_writer.St.ge (h : j14_writer.St w0 gx T bufs first files gb cb gf cf gs cs W) : w0.heap.size ≤ gb ∧ w0.heap.size ≤ gf ∧ w0.heap.size ≤ gs := ⟨Kd.S_base h.b gb rfl, Kd.R_base h.f gf rfl, Kd.S_base h.s gs rfl⟩
theorem j14_writer.St.cells (h : j14_writer.St w0 gx T bufs first files gb cb gf cf gs cs W) {t : Int} (h0 : 0 ≤ t) (h1 : t < (T : Int)) :
  W.cell? ⟨gx, 0, none⟩ = some (.slice (some ⟨gb, 0, none⟩) T cb) ∧ W.cell? ⟨gx, 1, none⟩ = some (.slice (some ⟨gf, 0, none⟩) T cf) ∧ W.cell? ⟨gx, 2, none⟩ = some (.slice (some ⟨gs, 0, none⟩) T cs) ∧ W.cell? ⟨gf, t.toNat, none⟩ = some (.int .i64 (rd first t)) ∧ W.frozen? ⟨gf, t.toNat, none⟩ = false := by
 obtain ⟨hl1, hl2, hl3⟩ := h.len
 have hf := h.f
 rw [hl2] at hf
 obtain ⟨h2, h3⟩ := Kd.R_cell (0 : Int) hf t h0 (by omega)
 exact ⟨(blk_cell h.x 0).trans rfl, (blk_cell h.x 1).trans rfl, (blk_cell h.x 2).trans rfl, h2, h3⟩
theorem j14_writer.St.setF (h : j14_writer.St w0 gx T bufs first files gb cb gf cf gs cs W) (t : Int) (x : Int) : j14_writer.St w0 gx T bufs (first.set t.toNat x) files gb cb gf cf gs cs (W.setCell ⟨gf, t.toNat, none⟩ (.int .i64 x)) := by
 obtain ⟨hl1, hl2, hl3⟩ := h.len
 obtain ⟨⟨c1, t1⟩, ⟨c2, t2⟩, ⟨c3, t3⟩⟩ := h.typ
 have hf := h.f
 rw [hl2] at hf
 have hf2 := (Kd.R_put hf t x).1
 rw [← hl2] at hf2
 exact y25
theorem j14_writer.St.setB (h : j14_writer.St w0 gx T bufs first files gb cb gf cf gs cs W) {t : Int} {oki : Nat → Prop} {vi v1 : Value} {ys : List S26} (hH : Kd.H (Kd.slice 26 (Kd.fixed k26 w0)) 40 W w0.heap.size (fun _ => True) (.slice (some ⟨gb, 0, none⟩) T cb) bufs t oki [vi]) (h0 : 0 ≤ t) (h1 : t < (T : Int)) (hne : ∀ k, oki k → k ≠ gb)
  (hg : W.grownBy w1 vi.ownBlock) (hB : Below w0.heap.size w0 w1) (hR0 : (Kd.fixed k26 w0).R 26 W w0.heap.size oki vi (bufs.getD t.toNat [])) (hR : (Kd.fixed k26 w0).R 26 w1 w0.heap.size (fun k => oki k ∨ W.heap.size ≤ k) v1 ys) : j14_writer.St w0 gx T (bufs.set t.toNat ys) first files gb cb gf cf gs cs (w1.setCell ⟨gb, t.toNat, none⟩ v1) := by
 obtain ⟨⟨c1, t1⟩, ⟨c2, t2⟩, ⟨c3, t3⟩⟩ := h.typ
 have hty := Kd.R_typed hR0
 have ne : ∀ {g ty : Nat} {c : Array Value}, W.heap[g]? = some (.cells c ty (0, 0)) → ty ≠ 26 → some g ≠ vi.ownBlock := fun hb hn he => by obtain ⟨c', hc⟩ := hty _ he.symm; exact blk_ne hb hc hn rfl
 have t1' := blk_grown t1 hg (ne t1 (by decide))
 have t3' := blk_grown t3 hg (ne t3 (by decide))
 have x' := blk_grown h.x hg (ne h.x (by decide))
 exact y17
theorem j14_writer.St.setS (h : j14_writer.St w0 gx T bufs first files gb cb gf cf gs cs W) {t : Int} {oki : Nat → Prop} {vi v1 : Value} {ys : List Int} (hH : Kd.H (Kd.slice 5 (Kd.int .u8)) 27 W w0.heap.size (fun _ => True) (.slice (some ⟨gs, 0, none⟩) T cs) files t oki [vi]) (h0 : 0 ≤ t) (h1 : t < (T : Int)) (hne : ∀ k, oki k → k ≠ gs)
  (hg : W.grownBy w1 vi.ownBlock) (hB : Below w0.heap.size w0 w1) (hR0 : (Kd.int .u8).R 5 W w0.heap.size oki vi (files.getD t.toNat [])) (hR : (Kd.int .u8).R 5 w1 w0.heap.size (fun k => oki k ∨ W.heap.size ≤ k) v1 ys) : j14_writer.St w0 gx T bufs first (files.set t.toNat ys) gb cb gf cf gs cs (w1.setCell ⟨gs, t.toNat, none⟩ v1) := by
 obtain ⟨⟨c1, t1⟩, ⟨c2, t2⟩, ⟨c3, t3⟩⟩ := h.typ
 have hty := Kd.R_typed hR0
 have ne : ∀ {g ty : Nat} {c : Array Value}, W.heap[g]? = some (.cells c ty (0, 0)) → ty ≠ 5 → some g ≠ vi.ownBlock := fun hb hn he => by obtain ⟨c', hc⟩ := hty _ he.symm; exact blk_ne hb hc hn rfl
 have t3' := blk_grown t3 hg (ne t3 (by decide))
 have x' := blk_grown h.x hg (ne h.x (by decide))
 exact y10
end
set_option maxHeartbeats 4000000 in
set_option maxRecDepth 100000 in
theorem j14_writer.write (k : Nat) (t : Int) (w0 W : World) (gx : Nat) (T : Nat) (bufs : List (List S26)) (first : List Int) (files : List (List Int)) (gb cb gf cf gs cs : Nat) (r : List (List S26) × List Int × List (List Int)) (hS : j14_writer.St w0 gx T bufs first files gb cb gf cf gs cs W) (h0 : 0 ≤ t) (h1 : t < (T : Int))
  (h : wrF j11_Encode.f k t bufs first files = some r) :
  Calls Try.prog 62 #[.pointer (some ⟨gx, 0, none⟩), .int .i64 t] W fun e W' => e = .returned (.tuple #[]) ∧ j14_writer.St w0 gx T r.1 r.2.1 r.2.2 gb cb gf cf gs cs W' := by
 have HS := am hS
 have HT := am (And.intro h0 h1)
 obtain ⟨oki, A, c, he1, he2, heR, heH, hne⟩ := ow_elem hS.b t h0 h1
 unfold wrF at h
 obtain ⟨bt, hbt⟩ : ∃ bt, bufs.getD t.toNat [] = bt := ⟨_, rfl⟩
 obtain ⟨ft, hft⟩ : ∃ ft, files.getD t.toNat [] = ft := ⟨_, rfl⟩
 obtain ⟨n0, hn0⟩ : ∃ n0, rd first t = n0 := ⟨_, rfl⟩
 obtain ⟨hv1, hv2, hv3, hv4, hv5⟩ := hS.cells h0 h1
 have HBT := am hbt
 have HFT := am hft
 have HN0 := am hn0
 rw [hbt] at h he1 heR heH
 rw [hft, hn0] at h
 rw [hn0] at hv4
 have HER := am heR
 have HEH := am heH
 have HNE := am hne
 have HF5 := am hv5
 have hm : Try.prog.follows .mixedOrders = true := by kernel_rfl
 have p1 := eq_true h0
 have p2 := eq_true h1
 clear hS heR heH hne hbt hft hn0 hv5 he2 h0 h1
 by_cases cz : bt.length = 0
 ·
  rw [if_pos cz] at h
  obtain rfl := Option.some.inj h
  have c0 : ((bt.length : Int) == 0) = true := by simp [cz]
  clear h cz
  go_enter Try.func62, Try.ntmps62
  go_wp2
  refine bodyPost_ret (results_none rfl _ _ _) rfl ?_
  exact ⟨rfl, HS.out⟩
 rw [if_neg cz] at h
 have c0 : ((bt.length : Int) == 0) = false := by simp; exact fun h => cz (by rw [h]; rfl)
 obtain ⟨⟨q1, q2⟩, hq, h⟩ := Option.bind_eq_some_iff.mp h
 dsimp only at h
 have HQ := am hq
 by_cases cl : ft.length + q1.length < 140737488355328
 rotate_left
 ·
  rw [if_neg cl] at h
  cases h
 rw [if_pos cl] at h
 have HLM := am cl
 have HH := am (Option.some.inj h)
 obtain ⟨hx1, hx2, hx3⟩ := ow_fixedC HER.out HS.out.B
 have HEC := am hx3
 have HEL := am hx2
 clear cz hq h cl hx1 hx2 hx3
 go_enter Try.func62, Try.ntmps62
 go_wp2
 refine start_ (n := 22) (S := fun w' => w'.cell? ⟨gx, 0, none⟩ = some (.slice (some ⟨gb, 0, none⟩) T cb) ∧ w'.cell? ⟨gx, 1, none⟩ = some (.slice (some ⟨gf, 0, none⟩) T cf) ∧ w'.cell? ⟨gf, t.toNat, none⟩ = some (.int .i64 n0) ∧ w'.cell? ⟨gb, t.toNat, none⟩ = some (.slice A bt.length c)) (ds := [16]) #[false, false, false, false, false, false, false, false, false, false, false, false, false, false, false, false, false, false, false, false, false, false] (by kernel_rfl) rfl rfl ⟨hv1, hv2, hv4, he1⟩ (fun hHeld => ?_)
 have HS1 := am HS.out.drew
 replace HEC := am (Kd.C_below HEC.out (below_drew (Below.refl _ _)))
 clear HS HER HEH HNE he1 hv1 hv2 hv3 hv4 HF5
 generalize W.drew = W1 at HS1 HEC hHeld ⊢
 refine pure_ (i := 0) (N := some 16) (v := ?_) (a' := ?_) #[true, false, false, false, false, false, false, false, false, false, false, false, false, false, false, false, false, false, false, false, false, false] rfl rfl (by kernel_rfl) (fun _ _ _ h => h) (Or.inl ⟨by rfl, ?_⟩) ?_ ?_
 rotate_left
 ·
  intro w'
  go_simp
  with_reducible rfl
 rotate_left
 ·
  simp only [Act.put, List.setIfInBounds_toArray, List.set_cons_zero, List.set_cons_succ, i64_w, i32_w]
  rfl
 refine pure_ (i := 1) (N := some 17) (v := ?_) (a' := ?_) #[true, true, false, false, false, false, false, false, false, false, false, false, false, false, false, false, false, false, false, false, false, false] rfl rfl (by kernel_rfl) (fun _ _ _ h => h) (Or.inl ⟨by rfl, ?_⟩) ?_ ?_
 rotate_left
 ·
  intro w'
  go_simp
  with_reducible rfl
 rotate_left
 ·
  simp only [Act.put, List.setIfInBounds_toArray, List.set_cons_zero, List.set_cons_succ, i64_w, i32_w]
  rfl
 refine pure_ (i := 2) (N := some 18) (v := ?_) (a' := ?_) #[true, true, true, false, false, false, false, false, false, false, false, false, false, false, false, false, false, false, false, false, false, false] rfl rfl (by kernel_rfl) (fun _ _ _ h => h) (Or.inl ⟨by rfl, ?_⟩) ?_ ?_
 rotate_left
 ·
  intro w'
  go_simp
  with_reducible rfl
 rotate_left
 ·
  simp only [Act.put, List.setIfInBounds_toArray, List.set_cons_zero, List.set_cons_succ, i64_w, i32_w]
  rfl
 refine pure_ (i := 3) (N := some 19) (v := ?_) (a' := ?_) #[true, true, true, true, false, false, false, false, false, false, false, false, false, false, false, false, false, false, false, false, false, false] rfl rfl (by kernel_rfl) (fun _ _ _ h => h) (Or.inl ⟨by rfl, ?_⟩) ?_ ?_
 rotate_left
 ·
  intro w'
  go_simp
  with_reducible rfl
 rotate_left
 ·
  simp only [Act.put, List.setIfInBounds_toArray, List.set_cons_zero, List.set_cons_succ, i64_w, i32_w]
  rfl
 refine pure_ (i := 5) (N := some 21) (v := ?_) (a' := ?_) #[true, true, true, true, false, true, false, false, false, false, false, false, false, false, false, false, false, false, false, false, false, false] rfl rfl (by kernel_rfl) (fun _ _ _ h => h) (Or.inl ⟨by rfl, ?_⟩) ?_ ?_
 rotate_left
 ·
  intro w'
  go_simp
  with_reducible rfl
 rotate_left
 ·
  simp only [Act.put, List.setIfInBounds_toArray, List.set_cons_zero, List.set_cons_succ, i64_w, i32_w]
  rfl
 refine pure_ (i := 8) (N := some 24) (v := ?_) (a' := ?_) #[true, true, true, true, false, true, false, false, true, false, false, false, false, false, false, false, false, false, false, false, false, false] rfl rfl (by kernel_rfl) (fun _ _ _ h => h) (Or.inl ⟨by rfl, ?_⟩) ?_ ?_
 rotate_left
 ·
  intro w'
  go_simp
  with_reducible rfl
 rotate_left
 ·
  simp only [Act.put, List.setIfInBounds_toArray, List.set_cons_zero, List.set_cons_succ, i64_w, i32_w]
  rfl
 refine pure_ (i := 9) (N := some 25) (v := ?_) (a' := ?_) #[true, true, true, true, false, true, false, false, true, true, false, false, false, false, false, false, false, false, false, false, false, false] rfl rfl (by kernel_rfl) (fun _ _ _ h => h) (Or.inl ⟨by rfl, ?_⟩) ?_ ?_
 rotate_left
 ·
  intro w'
  go_simp
  with_reducible rfl
 rotate_left
 ·
  simp only [Act.put, List.setIfInBounds_toArray, List.set_cons_zero, List.set_cons_succ, i64_w, i32_w]
  rfl
 refine pure_ (i := 10) (N := some 26) (v := ?_) (a' := ?_) #[true, true, true, true, false, true, false, false, true, true, true, false, false, false, false, false, false, false, false, false, false, false] rfl rfl (by kernel_rfl) (fun _ _ _ h => h) (Or.inl ⟨by rfl, ?_⟩) ?_ ?_
 rotate_left
 ·
  intro w'
  go_simp
  with_reducible rfl
 rotate_left
 ·
  simp only [Act.put, List.setIfInBounds_toArray, List.set_cons_zero, List.set_cons_succ, i64_w, i32_w]
  rfl
 refine pure_ (i := 12) (N := some 28) (v := ?_) (a' := ?_) #[true, true, true, true, false, true, false, false, true, true, true, false, true, false, false, false, false, false, false, false, false, false] rfl rfl (by kernel_rfl) (fun _ _ _ h => h) (Or.inl ⟨by rfl, ?_⟩) ?_ ?_
 rotate_left
 ·
  intro w'
  go_simp
  with_reducible rfl
 rotate_left
 ·
  simp only [Act.put, List.setIfInBounds_toArray, List.set_cons_zero, List.set_cons_succ, i64_w, i32_w]
  rfl
 refine take_ (i := 4) (N := some 20) (v := ?_) (a' := ?_) #[true, true, true, true, true, true, false, false, true, true, true, false, true, false, false, false, false, false, false, false, false, false] rfl rfl (by kernel_rfl) (fun _ _ _ h => h) (Or.inl ⟨by rfl, ?_⟩) hHeld ?_ ?_
 rotate_left
 ·
  rintro w' ⟨s0, s1, s2, s3⟩
  go_simp
  with_reducible rfl
 rotate_left
 ·
  simp only [Act.put, List.setIfInBounds_toArray, List.set_cons_zero, List.set_cons_succ, i64_w, i32_w]
  rfl
 refine pure_ (i := 6) (N := some 22) (v := ?_) (a' := ?_) #[true, true, true, true, true, true, true, false, true, true, true, false, true, false, false, false, false, false, false, false, false, false] rfl rfl (by kernel_rfl) (fun _ _ _ h => h) (Or.inl ⟨by rfl, ?_⟩) ?_ ?_
 rotate_left
 ·
  intro w'
  go_simp
  with_reducible rfl
 rotate_left
 ·
  simp only [Act.put, List.setIfInBounds_toArray, List.set_cons_zero, List.set_cons_succ, i64_w, i32_w]
  rfl
 refine take_ (i := 7) (N := some 23) (v := ?_) (a' := ?_) #[true, true, true, true, true, true, true, true, true, true, true, false, true, false, false, false, false, false, false, false, false, false] rfl rfl (by kernel_rfl) (fun _ _ _ h => h) (Or.inl ⟨by rfl, ?_⟩) hHeld ?_ ?_
 rotate_left
 ·
  rintro w' ⟨s0, s1, s2, s3⟩
  go_simp
  with_reducible rfl
 rotate_left
 ·
  simp only [Act.put, List.setIfInBounds_toArray, List.set_cons_zero, List.set_cons_succ, i64_w, i32_w]
  rfl
 refine take_ (i := 11) (N := some 27) (v := ?_) (a' := ?_) #[true, true, true, true, true, true, true, true, true, true, true, true, true, false, false, false, false, false, false, false, false, false] rfl rfl (by kernel_rfl) (fun _ _ _ h => h) (Or.inl ⟨by rfl, ?_⟩) hHeld ?_ ?_
 rotate_left
 ·
  rintro w' ⟨s0, s1, s2, s3⟩
  go_simp
  with_reducible rfl
 rotate_left
 ·
  simp only [Act.put, List.setIfInBounds_toArray, List.set_cons_zero, List.set_cons_succ, i64_w, i32_w]
  rfl
 refine pure_ (i := 13) (N := some 29) (v := ?_) (a' := ?_) #[true, true, true, true, true, true, true, true, true, true, true, true, true, true, false, false, false, false, false, false, false, false] rfl rfl (by kernel_rfl) (fun _ _ _ h => h) (Or.inl ⟨by rfl, ?_⟩) ?_ ?_
 rotate_left
 ·
  intro w'
  go_simp
  with_reducible rfl
 rotate_left
 ·
  simp only [Act.put, List.setIfInBounds_toArray, List.set_cons_zero, List.set_cons_succ, i64_w, i32_w]
  rfl
 refine take_ (i := 14) (N := some 30) (v := ?_) (a' := ?_) #[true, true, true, true, true, true, true, true, true, true, true, true, true, true, true, false, false, false, false, false, false, false] rfl rfl (by kernel_rfl) (fun _ _ _ h => h) (Or.inl ⟨by rfl, ?_⟩) hHeld ?_ ?_
 rotate_left
 ·
  rintro w' ⟨s0, s1, s2, s3⟩
  go_simp
  with_reducible rfl
 rotate_left
 ·
  simp only [Act.put, List.setIfInBounds_toArray, List.set_cons_zero, List.set_cons_succ, i64_w, i32_w]
  rfl
 refine pure_ (i := 15) (N := some 31) (v := ?_) (a' := ?_) #[true, true, true, true, true, true, true, true, true, true, true, true, true, true, true, true, false, false, false, false, false, false] rfl rfl (by kernel_rfl) (fun _ _ _ h => h) (Or.inl ⟨by rfl, ?_⟩) ?_ ?_
 rotate_left
 ·
  intro w'
  go_simp
  with_reducible rfl
 rotate_left
 ·
  simp only [Act.put, List.setIfInBounds_toArray, List.set_cons_zero, List.set_cons_succ, i64_w, i32_w]
  rfl
 refine last_ (i := 16) (N := some 32) #[true, true, true, true, true, true, true, true, true, true, true, true, true, true, true, true, true, false, false, false, false, false] rfl rfl (by kernel_rfl) (by decide) (fun K hK => ?_)
 refine goes_ Try.func22 (by kernel_rfl) rfl #[.agg #[.int .i64 t, .int .i64 n0, .slice A bt.length c]] (by rfl) rfl rfl (by simp only [List.map_toArray, List.map_cons, List.map_nil]; rfl) ?_
 with_reducible refine (j11_Encode.calls k t n0 A c bt q1 q2 _ (HEC.out) HEL.out HQ.out).mono ?_
 rintro e w2 ⟨v2, rfl, hr2, hb2⟩
 refine ⟨_, rfl, ?_⟩
 obtain ⟨A2, c2, e2⟩ := Kd.R_slice hr2
 subst e2
 have HR2 := am (Kd.R_lower hr2 HS1.out.B.size)
 have HS2 := am (HS1.out.below hb2)
 clear hr2 hb2
 refine hK.out _ _ ?_
 clear hK K
 refine norm_ (a' := ?_) ?_ ?_
 rotate_left
 ·
  show Act.put _ (some 32) _ = _
  simp only [Act.put, List.setIfInBounds_toArray, List.set_cons_zero, List.set_cons_succ, i64_w, i32_w]
  rfl
 refine pure_ (i := 17) (N := some 15) (v := ?_) (a' := ?_) #[true, true, true, true, true, true, true, true, true, true, true, true, true, true, true, true, true, true, false, false, false, false] rfl rfl (by kernel_rfl) (fun _ _ _ h => h) (Or.inl ⟨by rfl, ?_⟩) ?_ ?_
 rotate_left
 ·
  intro w'
  go_simp
  with_reducible rfl
 rotate_left
 ·
  simp only [Act.put, List.setIfInBounds_toArray, List.set_cons_zero, List.set_cons_succ, i64_w, i32_w]
  rfl
 refine pure_ (i := 18) (N := some 33) (v := ?_) (a' := ?_) #[true, true, true, true, true, true, true, true, true, true, true, true, true, true, true, true, true, true, true, false, false, false] rfl rfl (by kernel_rfl) (fun _ _ _ h => h) (Or.inl ⟨by rfl, ?_⟩) ?_ ?_
 rotate_left
 ·
  intro w'
  go_simp
  with_reducible rfl
 rotate_left
 ·
  simp only [Act.put, List.setIfInBounds_toArray, List.set_cons_zero, List.set_cons_succ, i64_w, i32_w]
  rfl
 refine pure_ (i := 19) (N := some 34) (v := ?_) (a' := ?_) #[true, true, true, true, true, true, true, true, true, true, true, true, true, true, true, true, true, true, true, true, false, false] rfl rfl (by kernel_rfl) (fun _ _ _ h => h) (Or.inl ⟨by rfl, ?_⟩) ?_ ?_
 rotate_left
 ·
  intro w'
  go_simp
  with_reducible rfl
 rotate_left
 ·
  simp only [Act.put, List.setIfInBounds_toArray, List.set_cons_zero, List.set_cons_succ, i64_w, i32_w]
  rfl
 refine pure_ (i := 20) (N := some 4) (v := ?_) (a' := ?_) #[true, true, true, true, true, true, true, true, true, true, true, true, true, true, true, true, true, true, true, true, true, false] rfl rfl (by kernel_rfl) (fun _ _ _ h => h) (Or.inl ⟨by rfl, ?_⟩) ?_ ?_
 rotate_left
 ·
  intro w'
  go_simp
  with_reducible rfl
 rotate_left
 ·
  simp only [Act.put, List.setIfInBounds_toArray, List.set_cons_zero, List.set_cons_succ, i64_w, i32_w]
  rfl
 refine pure_ (i := 21) (N := some 5) (v := ?_) (a' := ?_) #[true, true, true, true, true, true, true, true, true, true, true, true, true, true, true, true, true, true, true, true, true, true] rfl rfl (by kernel_rfl) (fun _ _ _ h => h) (Or.inl ⟨by rfl, ?_⟩) ?_ ?_
 rotate_left
 ·
  intro w'
  go_simp
  with_reducible rfl
 rotate_left
 ·
  simp only [Act.put, List.setIfInBounds_toArray, List.set_cons_zero, List.set_cons_succ, i64_w, i32_w]
  rfl
 refine done_ (by kernel_rfl) ?_
 clear HEC HEL HQ HS1 hHeld
 replace HR2 := am (Kd.R_drew HR2.out)
 replace HS2 := am HS2.out.drew
 try go_wp2
 generalize hW2 : w2.drew = W2 at HR2 HS2
 obtain ⟨oks, As, cs2, hs1, hs2, hsR, hsH, hsn⟩ := ow_elem HS2.out.s t HT.out.1 HT.out.2
 rw [HFT.out] at hs1 hsR hsH
 have HSR := am hsR
 have HSH := am hsH
 have HSN := am hsn
 have HSC := am (And.intro hs1 hs2)
 obtain ⟨-, -, hv3, -, -⟩ := HS2.out.cells HT.out.1 HT.out.2
 clear hsR hsH hsn hs2
 have HW2 := am hW2
 clear hW2
 refine start_ (n := 18) (S := fun w' => w'.cell? ⟨gx, 2, none⟩ = some (.slice (some ⟨gs, 0, none⟩) T cs) ∧ w'.cell? ⟨gs, t.toNat, none⟩ = some (.slice As ft.length cs2)) (ds := [17]) #[false, false, false, false, false, false, false, false, false, false, false, false, false, false, false, false, false, false] (by kernel_rfl) rfl rfl (by rw [HW2.out]; exact ⟨hv3, hs1⟩) (fun hHeld => ?_)
 rw [HW2.out] at hHeld ⊢
 clear HW2
 refine pure_ (i := 0) (N := some 35) (v := ?_) (a' := ?_) #[true, false, false, false, false, false, false, false, false, false, false, false, false, false, false, false, false, false] rfl rfl (by kernel_rfl) (fun _ _ _ h => h) (Or.inl ⟨by rfl, ?_⟩) ?_ ?_
 rotate_left
 ·
  intro w'
  go_simp
  with_reducible rfl
 rotate_left
 ·
  simp only [Act.put, List.setIfInBounds_toArray, List.set_cons_zero, List.set_cons_succ, i64_w, i32_w]
  rfl
 refine pure_ (i := 1) (N := some 36) (v := ?_) (a' := ?_) #[true, true, false, false, false, false, false, false, false, false, false, false, false, false, false, false, false, false] rfl rfl (by kernel_rfl) (fun _ _ _ h => h) (Or.inl ⟨by rfl, ?_⟩) ?_ ?_
 rotate_left
 ·
  intro w'
  go_simp
  with_reducible rfl
 rotate_left
 ·
  simp only [Act.put, List.setIfInBounds_toArray, List.set_cons_zero, List.set_cons_succ, i64_w, i32_w]
  rfl
 refine pure_ (i := 2) (N := some 37) (v := ?_) (a' := ?_) #[true, true, true, false, false, false, false, false, false, false, false, false, false, false, false, false, false, false] rfl rfl (by kernel_rfl) (fun _ _ _ h => h) (Or.inl ⟨by rfl, ?_⟩) ?_ ?_
 rotate_left
 ·
  intro w'
  go_simp
  with_reducible rfl
 rotate_left
 ·
  simp only [Act.put, List.setIfInBounds_toArray, List.set_cons_zero, List.set_cons_succ, i64_w, i32_w]
  rfl
 refine pure_ (i := 4) (N := some 39) (v := ?_) (a' := ?_) #[true, true, true, false, true, false, false, false, false, false, false, false, false, false, false, false, false, false] rfl rfl (by kernel_rfl) (fun _ _ _ h => h) (Or.inl ⟨by rfl, ?_⟩) ?_ ?_
 rotate_left
 ·
  intro w'
  go_simp
  with_reducible rfl
 rotate_left
 ·
  simp only [Act.put, List.setIfInBounds_toArray, List.set_cons_zero, List.set_cons_succ, i64_w, i32_w]
  rfl
 refine pure_ (i := 6) (N := some 41) (v := ?_) (a' := ?_) #[true, true, true, false, true, false, true, false, false, false, false, false, false, false, false, false, false, false] rfl rfl (by kernel_rfl) (fun _ _ _ h => h) (Or.inl ⟨by rfl, ?_⟩) ?_ ?_
 rotate_left
 ·
  intro w'
  go_simp
  with_reducible rfl
 rotate_left
 ·
  simp only [Act.put, List.setIfInBounds_toArray, List.set_cons_zero, List.set_cons_succ, i64_w, i32_w]
  rfl
 refine pure_ (i := 7) (N := some 42) (v := ?_) (a' := ?_) #[true, true, true, false, true, false, true, true, false, false, false, false, false, false, false, false, false, false] rfl rfl (by kernel_rfl) (fun _ _ _ h => h) (Or.inl ⟨by rfl, ?_⟩) ?_ ?_
 rotate_left
 ·
  intro w'
  go_simp
  with_reducible rfl
 rotate_left
 ·
  simp only [Act.put, List.setIfInBounds_toArray, List.set_cons_zero, List.set_cons_succ, i64_w, i32_w]
  rfl
 refine pure_ (i := 8) (N := some 43) (v := ?_) (a' := ?_) #[true, true, true, false, true, false, true, true, true, false, false, false, false, false, false, false, false, false] rfl rfl (by kernel_rfl) (fun _ _ _ h => h) (Or.inl ⟨by rfl, ?_⟩) ?_ ?_
 rotate_left
 ·
  intro w'
  go_simp
  with_reducible rfl
 rotate_left
 ·
  simp only [Act.put, List.setIfInBounds_toArray, List.set_cons_zero, List.set_cons_succ, i64_w, i32_w]
  rfl
 refine pure_ (i := 10) (N := some 45) (v := ?_) (a' := ?_) #[true, true, true, false, true, false, true, true, true, false, true, false, false, false, false, false, false, false] rfl rfl (by kernel_rfl) (fun _ _ _ h => h) (Or.inl ⟨by rfl, ?_⟩) ?_ ?_
 rotate_left
 ·
  intro w'
  go_simp
  with_reducible rfl
 rotate_left
 ·
  simp only [Act.put, List.setIfInBounds_toArray, List.set_cons_zero, List.set_cons_succ, i64_w, i32_w]
  rfl
 refine pure_ (i := 14) (N := some 49) (v := ?_) (a' := ?_) #[true, true, true, false, true, false, true, true, true, false, true, false, false, false, true, false, false, false] rfl rfl (by kernel_rfl) (fun _ _ _ h => h) (Or.inl ⟨by rfl, ?_⟩) ?_ ?_
 rotate_left
 ·
  intro w'
  go_simp
  with_reducible rfl
 rotate_left
 ·
  simp only [Act.put, List.setIfInBounds_toArray, List.set_cons_zero, List.set_cons_succ, i64_w, i32_w]
  rfl
 refine take_ (i := 3) (N := some 38) (v := ?_) (a' := ?_) #[true, true, true, true, true, false, true, true, true, false, true, false, false, false, true, false, false, false] rfl rfl (by kernel_rfl) (fun _ _ _ h => h) (Or.inl ⟨by rfl, ?_⟩) hHeld ?_ ?_
 rotate_left
 ·
  rintro w' ⟨s0, s1⟩
  go_simp
  with_reducible rfl
 rotate_left
 ·
  simp only [Act.put, List.setIfInBounds_toArray, List.set_cons_zero, List.set_cons_succ, i64_w, i32_w]
  rfl
 refine take_ (i := 9) (N := some 44) (v := ?_) (a' := ?_) #[true, true, true, true, true, false, true, true, true, true, true, false, false, false, true, false, false, false] rfl rfl (by kernel_rfl) (fun _ _ _ h => h) (Or.inl ⟨by rfl, ?_⟩) hHeld ?_ ?_
 rotate_left
 ·
  rintro w' ⟨s0, s1⟩
  go_simp
  with_reducible rfl
 rotate_left
 ·
  simp only [Act.put, List.setIfInBounds_toArray, List.set_cons_zero, List.set_cons_succ, i64_w, i32_w]
  rfl
 refine pure_ (i := 11) (N := some 46) (v := ?_) (a' := ?_) #[true, true, true, true, true, false, true, true, true, true, true, true, false, false, true, false, false, false] rfl rfl (by kernel_rfl) (fun _ _ _ h => h) (Or.inl ⟨by rfl, ?_⟩) ?_ ?_
 rotate_left
 ·
  intro w'
  go_simp
  with_reducible rfl
 rotate_left
 ·
  simp only [Act.put, List.setIfInBounds_toArray, List.set_cons_zero, List.set_cons_succ, i64_w, i32_w]
  rfl
 refine take_ (i := 12) (N := some 47) (v := ?_) (a' := ?_) #[true, true, true, true, true, false, true, true, true, true, true, true, true, false, true, false, false, false] rfl rfl (by kernel_rfl) (fun _ _ _ h => h) (Or.inl ⟨by rfl, ?_⟩) hHeld ?_ ?_
 rotate_left
 ·
  rintro w' ⟨s0, s1⟩
  go_simp
  with_reducible rfl
 rotate_left
 ·
  simp only [Act.put, List.setIfInBounds_toArray, List.set_cons_zero, List.set_cons_succ, i64_w, i32_w]
  rfl
 refine one_ (i := 5) (N := some 40) #[true, true, true, true, true, true, true, true, true, true, true, true, true, false, true, false, false, false] rfl rfl (by kernel_rfl) (by decide) (fun K hK => ?_)
 refine Kd.R_lit_step (Kd.int .u8) (w0 := w0) w0.heap.size 5 (by rfl) rfl (xs := []) (inner := []) (ok := fun k => W2.heap.size ≤ k) (okp := fun _ => False) y21 ⟨rfl, fun j p hj => by simp at hj⟩ (fun _ h => h.elim) (Nat.le_refl _) HS2.out.B HS2.out.B.size (by simp) ?_
 intro v4 w4 hr4 hb4 hg4 hat4
 obtain ⟨A4, c4, e4⟩ := Kd.R_slice hr4
 subst e4
 have HR4 := am hr4
 have HB4 := am hb4
 have HG4 := am hg4
 have hu0 := ((ow_same (hg4.block gx (blk_lt HS2.out.x) (by simp))).1).trans hv3
 have hu1 := ((ow_same (hg4.block gs (blk_lt (HS2.out.typ.2.2).choose_spec) (by simp))).1).trans hs1
 clear hr4 hb4 hg4 hat4
 refine hK.out _ _ ⟨hu0, hu1⟩ (fun hHeld => ?_)
 clear hK K
 refine norm_ (a' := ?_) ?_ ?_
 rotate_left
 ·
  show Act.put _ (some 40) _ = _
  simp only [Act.put, List.setIfInBounds_toArray, List.set_cons_zero, List.set_cons_succ, i64_w, i32_w]
  rfl
 refine one_ (i := 13) (N := some 48) #[true, true, true, true, true, true, true, true, true, true, true, true, true, true, true, false, false, false] rfl rfl (by kernel_rfl) (by decide) (fun K hK => ?_)
 refine Kd.R_append_rows_step (Kd.int .u8) (w0 := w0) w0.heap.size (by rfl) (.tmp 40) (.tmp 47) 27 5 (.int .u8 0) 1 rfl Try.underlying27 info5 rfl (by decide) (by omega) _ [] ft _ _ _ (fun k => W2.heap.size ≤ k) (fun _ => False) rfl rfl (HR4.out) ((Kd.R_reads' (Kd.R_grown HSR.out HG4.out (fun _ _ h => by cases h))).2.2) (fun _ _ h => h) (fun _ h => h.elim) (fun k hk => Nat.le_trans HG4.out.size hk) (HB4.out) (HB4.out.size) (by have := HLM.out; simp; omega) ?_
 intro v5 w5 hr5 hb5 hg5 hat5
 rw [List.nil_append] at hr5
 obtain ⟨A5, c5, e5⟩ := Kd.R_slice hr5
 subst e5
 have HR5 := am hr5
 have HB5 := am hb5
 have HG5 := am (World.grownBy.trans (ow_widen HG4.out _) hg5)
 have HN5 := am (show ∀ k, (Value.slice A4 ([] : List Int).length c4).ownBlock = some k → W2.heap.size ≤ k from HR4.out.1)
 have hy0 := ((ow_same (HG5.out.block gx (blk_lt HS2.out.x) (fun h => by have := HN5.out gx h.symm; have := blk_lt HS2.out.x; omega))).1).trans hv3
 have hy1 := ((ow_same (HG5.out.block gs (blk_lt (HS2.out.typ.2.2).choose_spec) (fun h => by have := HN5.out gs h.symm; have := blk_lt (HS2.out.typ.2.2).choose_spec; omega))).1).trans hs1
 clear hr5 hb5 hg5 hat5
 refine hK.out _ _ ⟨hy0, hy1⟩ (fun hHeld => ?_)
 clear hK K
 refine norm_ (a' := ?_) ?_ ?_
 rotate_left
 ·
  show Act.put _ (some 48) _ = _
  simp only [Act.put, List.setIfInBounds_toArray, List.set_cons_zero, List.set_cons_succ, i64_w, i32_w]
  rfl
 refine one_ (i := 15) (N := some 50) #[true, true, true, true, true, true, true, true, true, true, true, true, true, true, true, true, false, false] rfl rfl (by kernel_rfl) (by decide) (fun K hK => ?_)
 refine Kd.R_append_rows_step (Kd.int .u8) (w0 := w0) w0.heap.size (by rfl) (.tmp 48) (.tmp 49) 27 5 (.int .u8 0) 1 rfl Try.underlying27 info5 rfl (by decide) (by omega) _ ft q1 _ _ _ (fun k => W2.heap.size ≤ k) (fun _ => False) rfl rfl (HR5.out) ((Kd.R_reads' (Kd.R_grown (Kd.R_bound HR2.out) HG5.out (fun k hk h => by have := HN5.out k h.symm; have := hk.2.2.1; omega))).2.2) (fun _ _ h => h) (fun _ h => h.elim) (fun k hk => Nat.le_trans HG5.out.size hk) (HB5.out) (HB5.out.size) (by have := HLM.out; omega) ?_
 intro v3 w3 hr3 hb3 hg3 hat3
 obtain ⟨A3, c3, e3⟩ := Kd.R_slice hr3
 rw [List.length_append] at e3
 subst e3
 have hN0 := ow_fresh HG5.out HN5.out hg3 HR5.out.1
 have HR3 := am (Kd.R_mono hr3 (ok' := fun k => oks k ∨ W2.heap.size ≤ k) (fun k hk => .inr hk))
 have HB3 := am hb3
 have HG3 := am (ow_widen hN0 (Value.slice As ft.length cs2).ownBlock)
 have hw0 := ((ow_same (hN0.block gx (blk_lt HS2.out.x) (by simp))).1).trans hv3
 obtain ⟨hw1, hw2⟩ := ow_same (i := t.toNat) (hN0.block gs (blk_lt (HS2.out.typ.2.2).choose_spec) (by simp))
 rw [HSC.out.1] at hw1
 rw [HSC.out.2] at hw2
 clear hr3 hb3 hg3 hat3 hN0
 refine hK.out _ _ ⟨hw0, hw1⟩ (fun hHeld => ?_)
 clear hK K
 refine norm_ (a' := ?_) ?_ ?_
 rotate_left
 ·
  show Act.put _ (some 50) _ = _
  simp only [Act.put, List.setIfInBounds_toArray, List.set_cons_zero, List.set_cons_succ, i64_w, i32_w]
  rfl
 refine pure_ (i := 16) (N := some 51) (v := ?_) (a' := ?_) #[true, true, true, true, true, true, true, true, true, true, true, true, true, true, true, true, true, false] rfl rfl (by kernel_rfl) (fun _ _ _ h => h) (Or.inl ⟨by rfl, ?_⟩) ?_ ?_
 rotate_left
 ·
  intro w'
  go_simp
  with_reducible rfl
 rotate_left
 ·
  simp only [Act.put, List.setIfInBounds_toArray, List.set_cons_zero, List.set_cons_succ, i64_w, i32_w]
  rfl
 refine last_ (i := 17) (N := none) #[true, true, true, true, true, true, true, true, true, true, true, true, true, true, true, true, true, true] rfl rfl (by kernel_rfl) (by decide) (fun K hK => ?_)
 refine skip_ (w1 := ?_) (by rfl) rfl ?_ ?_
 rotate_left
 ·
  go_simp
  rfl
 refine hK.out _ _ ?_
 clear hK K
 refine done_ (by kernel_rfl) ?_
 clear hHeld
 have HS4 := am (HS2.out.setS HSH.out HT.out.1 HT.out.2 HSN.out HG3.out HB3.out (by rw [HFT.out]; exact HSR.out) HR3.out)
 generalize w3.setCell ⟨gs, t.toNat, none⟩ (.slice A3 (ft.length + q1.length) c3) = w4 at HS4 ⊢
 clear HS2 HSH HSN HG3 HB3 HSR HR3 HSC HR2
 try go_wp2
 generalize hW4 : w4.drew = W4
 replace HS4 := am HS4.out.drew
 rw [hW4] at HS4
 obtain ⟨ok6, A6, c6, he1, he2, heR, heH, hne⟩ := ow_elem HS4.out.b t HT.out.1 HT.out.2
 rw [HBT.out] at he1
 obtain ⟨hv1, hv2, -, hv4, hv5⟩ := HS4.out.cells HT.out.1 HT.out.2
 have hn0 := HN0.out
 rw [hn0] at hv4
 have HW4 := am hW4
 clear hW4 hn0 heR heH hne he2
 refine start_ (n := 23) (S := fun w' => w'.cell? ⟨gx, 0, none⟩ = some (.slice (some ⟨gb, 0, none⟩) T cb) ∧ w'.cell? ⟨gx, 1, none⟩ = some (.slice (some ⟨gf, 0, none⟩) T cf) ∧ w'.cell? ⟨gf, t.toNat, none⟩ = some (.int .i64 n0) ∧ w'.cell? ⟨gb, t.toNat, none⟩ = some (.slice A6 bt.length c6)) (ds := [22]) #[false, false, false, false, false, false, false, false, false, false, false, false, false, false, false, false, false, false, false, false, false, false, false] (by kernel_rfl) rfl rfl (by rw [HW4.out]; exact ⟨hv1, hv2, hv4, he1⟩) (fun hHeld => ?_)
 rw [HW4.out] at hHeld ⊢
 clear HW4
 refine pure_ (i := 0) (N := some 52) (v := ?_) (a' := ?_) #[true, false, false, false, false, false, false, false, false, false, false, false, false, false, false, false, false, false, false, false, false, false, false] rfl rfl (by kernel_rfl) (fun _ _ _ h => h) (Or.inl ⟨by rfl, ?_⟩) ?_ ?_
 rotate_left
 ·
  intro w'
  go_simp
  with_reducible rfl
 rotate_left
 ·
  simp only [Act.put, List.setIfInBounds_toArray, List.set_cons_zero, List.set_cons_succ, i64_w, i32_w]
  rfl
 refine pure_ (i := 1) (N := some 53) (v := ?_) (a' := ?_) #[true, true, false, false, false, false, false, false, false, false, false, false, false, false, false, false, false, false, false, false, false, false, false] rfl rfl (by kernel_rfl) (fun _ _ _ h => h) (Or.inl ⟨by rfl, ?_⟩) ?_ ?_
 rotate_left
 ·
  intro w'
  go_simp
  with_reducible rfl
 rotate_left
 ·
  simp only [Act.put, List.setIfInBounds_toArray, List.set_cons_zero, List.set_cons_succ, i64_w, i32_w]
  rfl
 refine pure_ (i := 2) (N := some 54) (v := ?_) (a' := ?_) #[true, true, true, false, false, false, false, false, false, false, false, false, false, false, false, false, false, false, false, false, false, false, false] rfl rfl (by kernel_rfl) (fun _ _ _ h => h) (Or.inl ⟨by rfl, ?_⟩) ?_ ?_
 rotate_left
 ·
  intro w'
  go_simp
  with_reducible rfl
 rotate_left
 ·
  simp only [Act.put, List.setIfInBounds_toArray, List.set_cons_zero, List.set_cons_succ, i64_w, i32_w]
  rfl
 refine pure_ (i := 4) (N := some 56) (v := ?_) (a' := ?_) #[true, true, true, false, true, false, false, false, false, false, false, false, false, false, false, false, false, false, false, false, false, false, false] rfl rfl (by kernel_rfl) (fun _ _ _ h => h) (Or.inl ⟨by rfl, ?_⟩) ?_ ?_
 rotate_left
 ·
  intro w'
  go_simp
  with_reducible rfl
 rotate_left
 ·
  simp only [Act.put, List.setIfInBounds_toArray, List.set_cons_zero, List.set_cons_succ, i64_w, i32_w]
  rfl
 refine pure_ (i := 5) (N := some 57) (v := ?_) (a' := ?_) #[true, true, true, false, true, true, false, false, false, false, false, false, false, false, false, false, false, false, false, false, false, false, false] rfl rfl (by kernel_rfl) (fun _ _ _ h => h) (Or.inl ⟨by rfl, ?_⟩) ?_ ?_
 rotate_left
 ·
  intro w'
  go_simp
  with_reducible rfl
 rotate_left
 ·
  simp only [Act.put, List.setIfInBounds_toArray, List.set_cons_zero, List.set_cons_succ, i64_w, i32_w]
  rfl
 refine pure_ (i := 6) (N := some 58) (v := ?_) (a' := ?_) #[true, true, true, false, true, true, true, false, false, false, false, false, false, false, false, false, false, false, false, false, false, false, false] rfl rfl (by kernel_rfl) (fun _ _ _ h => h) (Or.inl ⟨by rfl, ?_⟩) ?_ ?_
 rotate_left
 ·
  intro w'
  go_simp
  with_reducible rfl
 rotate_left
 ·
  simp only [Act.put, List.setIfInBounds_toArray, List.set_cons_zero, List.set_cons_succ, i64_w, i32_w]
  rfl
 refine pure_ (i := 7) (N := some 59) (v := ?_) (a' := ?_) #[true, true, true, false, true, true, true, true, false, false, false, false, false, false, false, false, false, false, false, false, false, false, false] rfl rfl (by kernel_rfl) (fun _ _ _ h => h) (Or.inl ⟨by rfl, ?_⟩) ?_ ?_
 rotate_left
 ·
  intro w'
  go_simp
  with_reducible rfl
 rotate_left
 ·
  simp only [Act.put, List.setIfInBounds_toArray, List.set_cons_zero, List.set_cons_succ, i64_w, i32_w]
  rfl
 refine pure_ (i := 9) (N := some 61) (v := ?_) (a' := ?_) #[true, true, true, false, true, true, true, true, false, true, false, false, false, false, false, false, false, false, false, false, false, false, false] rfl rfl (by kernel_rfl) (fun _ _ _ h => h) (Or.inl ⟨by rfl, ?_⟩) ?_ ?_
 rotate_left
 ·
  intro w'
  go_simp
  with_reducible rfl
 rotate_left
 ·
  simp only [Act.put, List.setIfInBounds_toArray, List.set_cons_zero, List.set_cons_succ, i64_w, i32_w]
  rfl
 refine pure_ (i := 12) (N := some 64) (v := ?_) (a' := ?_) #[true, true, true, false, true, true, true, true, false, true, false, false, true, false, false, false, false, false, false, false, false, false, false] rfl rfl (by kernel_rfl) (fun _ _ _ h => h) (Or.inl ⟨by rfl, ?_⟩) ?_ ?_
 rotate_left
 ·
  intro w'
  go_simp
  with_reducible rfl
 rotate_left
 ·
  simp only [Act.put, List.setIfInBounds_toArray, List.set_cons_zero, List.set_cons_succ, i64_w, i32_w]
  rfl
 refine pure_ (i := 13) (N := some 65) (v := ?_) (a' := ?_) #[true, true, true, false, true, true, true, true, false, true, false, false, true, true, false, false, false, false, false, false, false, false, false] rfl rfl (by kernel_rfl) (fun _ _ _ h => h) (Or.inl ⟨by rfl, ?_⟩) ?_ ?_
 rotate_left
 ·
  intro w'
  go_simp
  with_reducible rfl
 rotate_left
 ·
  simp only [Act.put, List.setIfInBounds_toArray, List.set_cons_zero, List.set_cons_succ, i64_w, i32_w]
  rfl
 refine pure_ (i := 14) (N := some 66) (v := ?_) (a' := ?_) #[true, true, true, false, true, true, true, true, false, true, false, false, true, true, true, false, false, false, false, false, false, false, false] rfl rfl (by kernel_rfl) (fun _ _ _ h => h) (Or.inl ⟨by rfl, ?_⟩) ?_ ?_
 rotate_left
 ·
  intro w'
  go_simp
  with_reducible rfl
 rotate_left
 ·
  simp only [Act.put, List.setIfInBounds_toArray, List.set_cons_zero, List.set_cons_succ, i64_w, i32_w]
  rfl
 refine pure_ (i := 16) (N := some 68) (v := ?_) (a' := ?_) #[true, true, true, false, true, true, true, true, false, true, false, false, true, true, true, false, true, false, false, false, false, false, false] rfl rfl (by kernel_rfl) (fun _ _ _ h => h) (Or.inl ⟨by rfl, ?_⟩) ?_ ?_
 rotate_left
 ·
  intro w'
  go_simp
  with_reducible rfl
 rotate_left
 ·
  simp only [Act.put, List.setIfInBounds_toArray, List.set_cons_zero, List.set_cons_succ, i64_w, i32_w]
  rfl
 refine take_ (i := 3) (N := some 55) (v := ?_) (a' := ?_) #[true, true, true, true, true, true, true, true, false, true, false, false, true, true, true, false, true, false, false, false, false, false, false] rfl rfl (by kernel_rfl) (fun _ _ _ h => h) (Or.inl ⟨by rfl, ?_⟩) hHeld ?_ ?_
 rotate_left
 ·
  rintro w' ⟨s0, s1, s2, s3⟩
  go_simp
  with_reducible rfl
 rotate_left
 ·
  simp only [Act.put, List.setIfInBounds_toArray, List.set_cons_zero, List.set_cons_succ, i64_w, i32_w]
  rfl
 refine take_ (i := 8) (N := some 60) (v := ?_) (a' := ?_) #[true, true, true, true, true, true, true, true, true, true, false, false, true, true, true, false, true, false, false, false, false, false, false] rfl rfl (by kernel_rfl) (fun _ _ _ h => h) (Or.inl ⟨by rfl, ?_⟩) hHeld ?_ ?_
 rotate_left
 ·
  rintro w' ⟨s0, s1, s2, s3⟩
  go_simp
  with_reducible rfl
 rotate_left
 ·
  simp only [Act.put, List.setIfInBounds_toArray, List.set_cons_zero, List.set_cons_succ, i64_w, i32_w]
  rfl
 refine pure_ (i := 10) (N := some 62) (v := ?_) (a' := ?_) #[true, true, true, true, true, true, true, true, true, true, true, false, true, true, true, false, true, false, false, false, false, false, false] rfl rfl (by kernel_rfl) (fun _ _ _ h => h) (Or.inl ⟨by rfl, ?_⟩) ?_ ?_
 rotate_left
 ·
  intro w'
  go_simp
  with_reducible rfl
 rotate_left
 ·
  simp only [Act.put, List.setIfInBounds_toArray, List.set_cons_zero, List.set_cons_succ, i64_w, i32_w]
  rfl
 refine take_ (i := 11) (N := some 63) (v := ?_) (a' := ?_) #[true, true, true, true, true, true, true, true, true, true, true, true, true, true, true, false, true, false, false, false, false, false, false] rfl rfl (by kernel_rfl) (fun _ _ _ h => h) (Or.inl ⟨by rfl, ?_⟩) hHeld ?_ ?_
 rotate_left
 ·
  rintro w' ⟨s0, s1, s2, s3⟩
  go_simp
  with_reducible rfl
 rotate_left
 ·
  simp only [Act.put, List.setIfInBounds_toArray, List.set_cons_zero, List.set_cons_succ, i64_w, i32_w]
  rfl
 refine take_ (i := 15) (N := some 67) (v := ?_) (a' := ?_) #[true, true, true, true, true, true, true, true, true, true, true, true, true, true, true, true, true, false, false, false, false, false, false] rfl rfl (by kernel_rfl) (fun _ _ _ h => h) (Or.inl ⟨by rfl, ?_⟩) hHeld ?_ ?_
 rotate_left
 ·
  rintro w' ⟨s0, s1, s2, s3⟩
  go_simp
  with_reducible rfl
 rotate_left
 ·
  simp only [Act.put, List.setIfInBounds_toArray, List.set_cons_zero, List.set_cons_succ, i64_w, i32_w]
  rfl
 refine pure_ (i := 17) (N := some 69) (v := ?_) (a' := ?_) #[true, true, true, true, true, true, true, true, true, true, true, true, true, true, true, true, true, true, false, false, false, false, false] rfl rfl (by kernel_rfl) (fun _ _ _ h => h) (Or.inl ⟨by rfl, ?_⟩) ?_ ?_
 rotate_left
 ·
  intro w'
  go_simp
  with_reducible rfl
 rotate_left
 ·
  simp only [Act.put, List.setIfInBounds_toArray, List.set_cons_zero, List.set_cons_succ, i64_w, i32_w]
  rfl
 refine take_ (i := 18) (N := some 70) (v := ?_) (a' := ?_) #[true, true, true, true, true, true, true, true, true, true, true, true, true, true, true, true, true, true, true, false, false, false, false] rfl rfl (by kernel_rfl) (fun _ _ _ h => h) (Or.inl ⟨by rfl, ?_⟩) hHeld ?_ ?_
 rotate_left
 ·
  rintro w' ⟨s0, s1, s2, s3⟩
  go_simp
  with_reducible rfl
 rotate_left
 ·
  simp only [Act.put, List.setIfInBounds_toArray, List.set_cons_zero, List.set_cons_succ, i64_w, i32_w]
  rfl
 refine pure_ (i := 19) (N := some 71) (v := ?_) (a' := ?_) #[true, true, true, true, true, true, true, true, true, true, true, true, true, true, true, true, true, true, true, true, false, false, false] rfl rfl (by kernel_rfl) (fun _ _ _ h => h) (Or.inl ⟨by rfl, ?_⟩) ?_ ?_
 rotate_left
 ·
  intro w'
  go_simp
  with_reducible rfl
 rotate_left
 ·
  simp only [Act.put, List.setIfInBounds_toArray, List.set_cons_zero, List.set_cons_succ, i64_w, i32_w]
  rfl
 refine pure_ (i := 20) (N := some 72) (v := ?_) (a' := ?_) #[true, true, true, true, true, true, true, true, true, true, true, true, true, true, true, true, true, true, true, true, true, false, false] rfl rfl (by kernel_rfl) (fun _ _ _ h => h) (Or.inl ⟨by rfl, ?_⟩) ?_ ?_
 rotate_left
 ·
  intro w'
  go_simp
  with_reducible rfl
 rotate_left
 ·
  simp only [Act.put, List.setIfInBounds_toArray, List.set_cons_zero, List.set_cons_succ, i64_w, i32_w]
  rfl
 refine pure_ (i := 21) (N := some 73) (v := ?_) (a' := ?_) #[true, true, true, true, true, true, true, true, true, true, true, true, true, true, true, true, true, true, true, true, true, true, false] rfl rfl (by kernel_rfl) (fun _ _ _ h => h) (Or.inl ⟨by rfl, ?_⟩) ?_ ?_
 rotate_left
 ·
  intro w'
  go_simp
  with_reducible rfl
 rotate_left
 ·
  simp only [Act.put, List.setIfInBounds_toArray, List.set_cons_zero, List.set_cons_succ, i64_w, i32_w]
  rfl
 refine last_ (i := 22) (N := none) #[true, true, true, true, true, true, true, true, true, true, true, true, true, true, true, true, true, true, true, true, true, true, true] rfl rfl (by kernel_rfl) (by decide) (fun K hK => ?_)
 refine skip_ (w1 := ?_) (by rfl) rfl ?_ ?_
 rotate_left
 ·
  go_simp
  rfl
 refine hK.out _ _ ?_
 clear hK K
 refine done_ (by kernel_rfl) ?_
 clear hHeld
 have HS6 := am (HS4.out.setF t (wrap64 (n0 + (bt.length : Int))))
 generalize W4.setCell ⟨gf, t.toNat, none⟩ (.int .i64 (wrap64 (n0 + (bt.length : Int)))) = W6 at HS6 ⊢
 clear HS4 hv1 hv2 hv4 hv5 he1
 obtain ⟨ok7, A7, c7, he1, he2, heR, heH, hne⟩ := ow_elem HS6.out.b t HT.out.1 HT.out.2
 have HER := am heR
 have HEH := am heH
 have HNE := am hne
 obtain ⟨hv1, -, -, -, -⟩ := HS6.out.cells HT.out.1 HT.out.2
 clear heR heH hne
 go_wp2
 go_end0
 have hr := HH.out
 subst hr
 exact y34
theorem ow_len {n : Nat} {x : Int} (h0 : 0 ≤ x) (h1 : x ≤ (n : Int)) (h : n ≤ 9223372036854775807) : wrap64 x = x := by unfold wrap64; omega
theorem ow_small {i : Nat} (h : i ≤ 400) : wrap64 (i : Int) = (i : Int) := by unfold wrap64; omega
def j14_Files.cut (c n : Int) : Int := n - mn c n
def j14_Files.f (k : Nat) (l : List S24) (a1 cap : Int) (fl : List S57) (stop : Int) (cuts : List Int) : Option (List (List Int) × Int) := flsF j14_plan.f j11_Encode.f j14_Files.cut k l a1 cap fl stop cuts
theorem j14_Files.mono : ∀ a0 a1 a2 a3 a4 a5 k, LeO (j14_Files.f k a0 a1 a2 a3 a4 a5) (j14_Files.f (k + 1) a0 a1 a2 a3 a4 a5) := fun _ _ _ _ _ _ _ => flsF_mono (fun _ _ _ _ => j11_Encode.mono _ _ _ _) (fun _ _ _ _ _ _ _ => j14_plan.mono _ _ _ _ _ _ _) _ _ _ _ _ _ _ _
attribute [local go_sem] max2_int min2_int max_two min_two
set_option maxHeartbeats 8000000 in
set_option maxRecDepth 100000 in
theorem j14_Files.calls (k : Nat) (A0 : Option Addr) (c0 : Nat) (l0 : List (S24)) (a1 : Int) (cap : Int) (AF : Option Addr) (cF : Nat) (fl : List (S57)) (stop : Int) (AC : Option Addr) (cC : Nat) (cuts : List Int) (r1 : List (List Int)) (r2 : Int) (w : World) (hr0 : Kd.C k24 w A0 l0.length l0) (hc0 : l0.length ≤ c0) (hr2_1 : Kd.C k57 w AF fl.length fl) (hc2_1 : fl.length ≤ cF) (hr2_3 : Kd.C (Kd.int .i64) w AC cuts.length cuts) (hc2_3 : cuts.length ≤ cC) (h : j14_Files.f k l0 a1 cap fl stop cuts = some (r1, r2)) :
  Calls Try.prog 26 #[.slice A0 l0.length c0, .int .i64 a1, .agg #[.int .i64 cap, .slice AF fl.length cF, .int .i64 stop, .slice AC cuts.length cC]] w fun e w' => ∃ v0_ : Value, e = .returned (.tuple #[v0_, .int .i64 r2]) ∧ Kd.S (Kd.slice 5 (Kd.int .u8)) 27 w' w.heap.size (fun _ => True) v0_ r1 ∧ Below w.heap.size w w' := by
 have HR0 := am hr0
 have HC0 := am hc0
 have HRF := am hr2_1
 have HCF := am hc2_1
 have HRC := am hr2_3
 have HCC := am hc2_3
 clear hr0 hc0 hr2_1 hc2_1 hr2_3 hc2_3
 unfold j14_Files.f flsF at h
 obtain ⟨ev, hq, h⟩ := Option.bind_eq_some_iff.mp h
 have HQ := am hq
 have hm : Try.prog.follows .mixedOrders = true := by kernel_rfl
 clear hq
 by_cases ce : ev = 0
 rotate_left
 ·
  rw [if_neg ce] at h
  have HH := am (Option.some.inj h)
  have c1 : (ev != 0) = true := bne_iff_ne.mpr ce
  clear h ce
  go_enter Try.func26, Try.ntmps26
  go_wp2_with (first | ((with_reducible refine gate_dst (N := 5) rfl ?_); refine zB 5 #[.int .i64 cap, .slice AF fl.length cF, .int .i64 stop, .slice AC cuts.length cC] 49 ?_; intro gp hg w1 hx hb; have HP1 := am hx; have HB1 := am hb; have HGP := am (show w.heap.size ≤ gp by rw [hg]; exact Nat.le_refl _); have hp0 := (blk_cell hx 0).trans rfl; have hp1 := (blk_cell hx 1).trans rfl; have hp2 := (blk_cell hx 2).trans rfl; have hp3 := (blk_cell hx 3).trans rfl; clear hg hx hb) | (go_at_call 61; (with_reducible refine (j14_plan.calls k A0 c0 l0 _ cap AF cF fl stop AC cC cuts _ _ (Kd.C_below HR0.out HB1.out) HC0.out (Kd.C_below HRF.out HB1.out) HCF.out (Kd.C_below HRC.out HB1.out) HCC.out HQ.out).mono ?_); rintro e w2 ⟨rfl, hb⟩; have HP2 := am (blk_below HP1.out hb); have HB2 := am (below_step HB1.out hb); clear hb hp0 hp1 hp2 hp3))
  have hh := HH.out
  simp only [Prod.mk.injEq] at hh
  obtain ⟨rfl, rfl⟩ := hh
  go_ret2
  exact ⟨_, rfl, Kd.S_nil _ _ _ _ _, HB2.out⟩
 rw [if_pos ce] at h
 subst ce
 by_cases ct : 1 ≤ a1 ∧ a1 ≤ 4 ∧ 0 ≤ stop ∧ l0.length ≤ 400
 rotate_left
 ·
  rw [if_neg ct] at h
  cases h
 rw [if_pos ct] at h
 obtain ⟨t1, t2, t3, t4⟩ := ct
 have HL4 := am t4
 obtain ⟨T, rfl⟩ := Int.eq_ofNat_of_zero_le (Int.le_trans (by decide) t1)
 have HT4 := am (show 1 ≤ T ∧ T ≤ 4 by omega)
 rw [Int.toNat_natCast] at h
 obtain ⟨q1, hq1, h⟩ := Option.bind_eq_some_iff.mp h
 obtain ⟨q2, hq2, h⟩ := Option.bind_eq_some_iff.mp h
 obtain ⟨q3, hq3, h⟩ := Option.bind_eq_some_iff.mp h
 have HQ1 := am hq1
 have HQ2 := am hq2
 have HQ3 := am hq3
 have HST := am t3
 have HH := am (Option.some.inj h)
 clear h hq1 hq2 hq3 t1 t2 t3 t4
 have c1 : ((0 : Int) != 0) = false := rfl
 go_enter Try.func26, Try.ntmps26
 go_wp2_with (first | ((with_reducible refine gate_dst (N := 5) rfl ?_); refine zB 5 #[.int .i64 cap, .slice AF fl.length cF, .int .i64 stop, .slice AC cuts.length cC] 49 ?_; intro gp hg w1 hx hb; have HP1 := am hx; have HB1 := am hb; have HGP := am (show w.heap.size ≤ gp by rw [hg]; exact Nat.le_refl _); have hp0 := (blk_cell hx 0).trans rfl; have hp1 := (blk_cell hx 1).trans rfl; have hp2 := (blk_cell hx 2).trans rfl; have hp3 := (blk_cell hx 3).trans rfl; clear hg hx hb) | (go_at_call 61; (with_reducible refine (j14_plan.calls k A0 c0 l0 _ cap AF cF fl stop AC cC cuts _ _ (Kd.C_below HR0.out HB1.out) HC0.out (Kd.C_below HRF.out HB1.out) HCF.out (Kd.C_below HRC.out HB1.out) HCC.out HQ.out).mono ?_); rintro e w2 ⟨rfl, hb⟩; have HP2 := am (blk_below HP1.out hb); have HB2 := am (below_step HB1.out hb); clear hb hp0 hp1 hp2 hp3))
 clear c1
 try go_wp2
 generalize hW0 : w2.drew = W0
 replace HP2 := am (show w2.drew.heap[gp]? = _ from HP2.out)
 replace HB2 := am HB2.out.drew
 rw [hW0] at HP2 HB2
 have HW0 := am hW0
 obtain ⟨w0, hw0⟩ : ∃ w0, W0 = w0 := ⟨_, rfl⟩
 have HB_W0 := am (show Below w0.heap.size w0 W0 by rw [← hw0]; exact Below.refl _ _)
 have HD_W0 := am (Below.refl W0.heap.size W0)
 have HE0 := am hw0
 clear hW0 hw0
 refine start_ (n := 9) (S := fun w' => True) (ds := [7]) #[false, false, false, false, false, false, false, false, false] (by kernel_rfl) rfl rfl (trivial) (fun hHeld => ?_)
 rw [HW0.out]
 clear HW0
 refine pure_ (i := 0) (N := some 22) (v := ?_) (a' := ?_) #[true, false, false, false, false, false, false, false, false] rfl rfl (by kernel_rfl) (fun _ _ _ h => h) (Or.inl ⟨by rfl, ?_⟩) ?_ ?_
 rotate_left
 ·
  intro w'
  go_simp
  with_reducible rfl
 rotate_left
 ·
  simp only [Act.put, List.setIfInBounds_toArray, List.set_cons_zero, List.set_cons_succ, i64_w, i32_w]
  rfl
 refine pure_ (i := 2) (N := some 24) (v := ?_) (a' := ?_) #[true, false, true, false, false, false, false, false, false] rfl rfl (by kernel_rfl) (fun _ _ _ h => h) (Or.inl ⟨by rfl, ?_⟩) ?_ ?_
 rotate_left
 ·
  intro w'
  go_simp
  with_reducible rfl
 rotate_left
 ·
  simp only [Act.put, List.setIfInBounds_toArray, List.set_cons_zero, List.set_cons_succ, i64_w, i32_w]
  rfl
 refine pure_ (i := 4) (N := some 26) (v := ?_) (a' := ?_) #[true, false, true, false, true, false, false, false, false] rfl rfl (by kernel_rfl) (fun _ _ _ h => h) (Or.inl ⟨by rfl, ?_⟩) ?_ ?_
 rotate_left
 ·
  intro w'
  go_simp
  with_reducible rfl
 rotate_left
 ·
  simp only [Act.put, List.setIfInBounds_toArray, List.set_cons_zero, List.set_cons_succ, i64_w, i32_w]
  rfl
 refine join_ (σ := Value × Value × Value) 3 #[true, true, true, true, true, true, false, false, false] (fun s_ => [(23, s_.1), (25, s_.2.1), (27, s_.2.2)]) (fun s_ w' => Kd.S (Kd.slice 26 (Kd.fixed k26 w0)) 40 w' w0.heap.size (fun _ => True) s_.1 (List.replicate T []) ∧ Kd.R (Kd.int .i64) 3 w' w0.heap.size (fun _ => True) s_.2.1 (List.replicate T 0) ∧ Kd.S (Kd.slice 5 (Kd.int .u8)) 27 w' w0.heap.size (fun _ => True) s_.2.2 (List.replicate T []) ∧ Below w0.heap.size w0 w' ∧ Below W0.heap.size W0 w') ?_ ?_
 rotate_left
 ·
  intro hCont
  refine three_ (i := 1) (j := 3) (k := 5) (Ni := some 23) (Nj := some 25) (Nk := some 27) #[true, true, true, false, true, false, false, false, false] #[true, false, true, true, true, false, false, false, false] #[true, false, true, false, true, true, false, false, false] rfl rfl rfl rfl rfl rfl (by kernel_rfl) (by decide) (by decide) (by decide) (fun K hK => ?_) (fun K hK => ?_) (fun K hK => ?_)
  ·
   skip
   refine Kd.S_make_step (Kd.slice 26 (Kd.fixed k26 w0)) (w0 := w0) w0.heap.size 40 (by rfl) rfl 105 (.tmp 22) (.tmp 22) rfl (T : Int) rfl rfl Try.underlying105 (.slice none 0 0) 24 ow_info40 rfl (by show 0 < 1; decide) (by omega) [] (ok := fun _ => True) (okp := fun _ => False) (⟨_, rfl, Kd.R_nil _ _ _ _ _⟩) (fun _ h => h.elim) trivial (Int.natCast_nonneg T) y1 HB_W0.out HB_W0.out.size ?_
   intro v0 x0 hr hb hg _
   rw [Int.toNat_natCast] at hr
   have HR0_x0 := am hr
   have HB_x0 := am hb
   have HD_x0 := am (HD_W0.out.grown hg HD_W0.out.size (fun k e => by cases e))
   clear hr hb hg
   refine hK.out _ _ trivial (fun hHeld => ?_)
   clear hK K
   refine norm_ (a' := ?_) ?_ ?_
   rotate_left
   ·
    show Act.put _ (some 23) _ = _
    simp only [Act.put, List.setIfInBounds_toArray, List.set_cons_zero, List.set_cons_succ, i64_w, i32_w]
    rfl
   refine two_ (i := 3) (j := 5) (Ni := some 25) (Nj := some 27) #[true, true, true, true, true, false, false, false, false] #[true, true, true, false, true, true, false, false, false] rfl rfl rfl rfl (by kernel_rfl) (by decide) (by decide) (fun K hK => ?_) (fun K hK => ?_)
   ·
    skip
    refine Kd.R_make_step (Kd.int .i64) (w0 := w0) w0.heap.size 3 (by rfl) rfl 22 (.tmp 24) (.tmp 24) rfl (T : Int) rfl rfl Try.underlying22 (.int .i64 0) 8 info3 rfl (by show 0 < 1; decide) (by omega) 0 (ok := fun _ => True) (okp := fun _ => False) (rfl) (fun _ h => h.elim) trivial (Int.natCast_nonneg T) y1 HB_x0.out HB_x0.out.size ?_
    intro v1 x01 hr hb hg _
    rw [Int.toNat_natCast] at hr
    have HR1_x01 := am hr
    have HB_x01 := am hb
    have HD_x01 := am (HD_x0.out.grown hg HD_x0.out.size (fun k e => by cases e))
    have HR0_x01 := am (Kd.S_grown HR0_x0.out hg (fun _ _ => by simp))
    clear hr hb hg
    refine hK.out _ _ trivial (fun hHeld => ?_)
    clear hK K
    refine norm_ (a' := ?_) ?_ ?_
    rotate_left
    ·
     show Act.put _ (some 25) _ = _
     simp only [Act.put, List.setIfInBounds_toArray, List.set_cons_zero, List.set_cons_succ, i64_w, i32_w]
     rfl
    refine one_ (i := 5) (N := some 27) #[true, true, true, true, true, true, false, false, false] rfl rfl (by kernel_rfl) (by decide) (fun K hK => ?_)
    refine Kd.S_make_step (Kd.slice 5 (Kd.int .u8)) (w0 := w0) w0.heap.size 27 (by rfl) rfl 51 (.tmp 26) (.tmp 26) rfl (T : Int) rfl rfl Try.underlying51 (.slice none 0 0) 24 ow_info27 rfl (by show 0 < 1; decide) (by omega) [] (ok := fun _ => True) (okp := fun _ => False) (⟨_, rfl, Kd.R_nil _ _ _ _ _⟩) (fun _ h => h.elim) trivial (Int.natCast_nonneg T) y1 HB_x01.out HB_x01.out.size ?_
    intro v2 x012 hr hb hg _
    rw [Int.toNat_natCast] at hr
    have HR2_x012 := am hr
    have HB_x012 := am hb
    have HD_x012 := am (HD_x01.out.grown hg HD_x01.out.size (fun k e => by cases e))
    have HR0_x012 := am (Kd.S_grown HR0_x01.out hg (fun _ _ => by simp))
    have HR1_x012 := am (Kd.R_grown HR1_x01.out hg (fun _ _ => by simp))
    clear hr hb hg
    refine hK.out _ _ trivial (fun hHeld => ?_)
    clear hK K
    refine norm_ (a' := ?_) ?_ ?_
    rotate_left
    ·
     show Act.put _ (some 27) _ = _
     simp only [Act.put, List.setIfInBounds_toArray, List.set_cons_zero, List.set_cons_succ, i64_w, i32_w]
     rfl
    exact norm_ y4 (hCont (v0, v1, v2) _ ⟨HR0_x012.out, HR1_x012.out, HR2_x012.out, HB_x012.out, HD_x012.out⟩)
   ·
    skip
    refine Kd.S_make_step (Kd.slice 5 (Kd.int .u8)) (w0 := w0) w0.heap.size 27 (by rfl) rfl 51 (.tmp 26) (.tmp 26) rfl (T : Int) rfl rfl Try.underlying51 (.slice none 0 0) 24 ow_info27 rfl (by show 0 < 1; decide) (by omega) [] (ok := fun _ => True) (okp := fun _ => False) (⟨_, rfl, Kd.R_nil _ _ _ _ _⟩) (fun _ h => h.elim) trivial (Int.natCast_nonneg T) y1 HB_x0.out HB_x0.out.size ?_
    intro v2 x02 hr hb hg _
    rw [Int.toNat_natCast] at hr
    have HR2_x02 := am hr
    have HB_x02 := am hb
    have HD_x02 := am (HD_x0.out.grown hg HD_x0.out.size (fun k e => by cases e))
    have HR0_x02 := am (Kd.S_grown HR0_x0.out hg (fun _ _ => by simp))
    clear hr hb hg
    refine hK.out _ _ trivial (fun hHeld => ?_)
    clear hK K
    refine norm_ (a' := ?_) ?_ ?_
    rotate_left
    ·
     show Act.put _ (some 27) _ = _
     simp only [Act.put, List.setIfInBounds_toArray, List.set_cons_zero, List.set_cons_succ, i64_w, i32_w]
     rfl
    refine one_ (i := 3) (N := some 25) #[true, true, true, true, true, true, false, false, false] rfl rfl (by kernel_rfl) (by decide) (fun K hK => ?_)
    refine Kd.R_make_step (Kd.int .i64) (w0 := w0) w0.heap.size 3 (by rfl) rfl 22 (.tmp 24) (.tmp 24) rfl (T : Int) rfl rfl Try.underlying22 (.int .i64 0) 8 info3 rfl (by show 0 < 1; decide) (by omega) 0 (ok := fun _ => True) (okp := fun _ => False) (rfl) (fun _ h => h.elim) trivial (Int.natCast_nonneg T) y1 HB_x02.out HB_x02.out.size ?_
    intro v1 x021 hr hb hg _
    rw [Int.toNat_natCast] at hr
    have HR1_x021 := am hr
    have HB_x021 := am hb
    have HD_x021 := am (HD_x02.out.grown hg HD_x02.out.size (fun k e => by cases e))
    have HR0_x021 := am (Kd.S_grown HR0_x02.out hg (fun _ _ => by simp))
    have HR2_x021 := am (Kd.S_grown HR2_x02.out hg (fun _ _ => by simp))
    clear hr hb hg
    refine hK.out _ _ trivial (fun hHeld => ?_)
    clear hK K
    refine norm_ (a' := ?_) ?_ ?_
    rotate_left
    ·
     show Act.put _ (some 25) _ = _
     simp only [Act.put, List.setIfInBounds_toArray, List.set_cons_zero, List.set_cons_succ, i64_w, i32_w]
     rfl
    exact norm_ y4 (hCont (v0, v1, v2) _ ⟨HR0_x021.out, HR1_x021.out, HR2_x021.out, HB_x021.out, HD_x021.out⟩)
  ·
   skip
   refine Kd.R_make_step (Kd.int .i64) (w0 := w0) w0.heap.size 3 (by rfl) rfl 22 (.tmp 24) (.tmp 24) rfl (T : Int) rfl rfl Try.underlying22 (.int .i64 0) 8 info3 rfl (by show 0 < 1; decide) (by omega) 0 (ok := fun _ => True) (okp := fun _ => False) (rfl) (fun _ h => h.elim) trivial (Int.natCast_nonneg T) y1 HB_W0.out HB_W0.out.size ?_
   intro v1 x1 hr hb hg _
   rw [Int.toNat_natCast] at hr
   have HR1_x1 := am hr
   have HB_x1 := am hb
   have HD_x1 := am (HD_W0.out.grown hg HD_W0.out.size (fun k e => by cases e))
   clear hr hb hg
   refine hK.out _ _ trivial (fun hHeld => ?_)
   clear hK K
   refine norm_ (a' := ?_) ?_ ?_
   rotate_left
   ·
    show Act.put _ (some 25) _ = _
    simp only [Act.put, List.setIfInBounds_toArray, List.set_cons_zero, List.set_cons_succ, i64_w, i32_w]
    rfl
   refine two_ (i := 1) (j := 5) (Ni := some 23) (Nj := some 27) #[true, true, true, true, true, false, false, false, false] #[true, false, true, true, true, true, false, false, false] rfl rfl rfl rfl (by kernel_rfl) (by decide) (by decide) (fun K hK => ?_) (fun K hK => ?_)
   ·
    skip
    refine Kd.S_make_step (Kd.slice 26 (Kd.fixed k26 w0)) (w0 := w0) w0.heap.size 40 (by rfl) rfl 105 (.tmp 22) (.tmp 22) rfl (T : Int) rfl rfl Try.underlying105 (.slice none 0 0) 24 ow_info40 rfl (by show 0 < 1; decide) (by omega) [] (ok := fun _ => True) (okp := fun _ => False) (⟨_, rfl, Kd.R_nil _ _ _ _ _⟩) (fun _ h => h.elim) trivial (Int.natCast_nonneg T) y1 HB_x1.out HB_x1.out.size ?_
    intro v0 x10 hr hb hg _
    rw [Int.toNat_natCast] at hr
    have HR0_x10 := am hr
    have HB_x10 := am hb
    have HD_x10 := am (HD_x1.out.grown hg HD_x1.out.size (fun k e => by cases e))
    have HR1_x10 := am (Kd.R_grown HR1_x1.out hg (fun _ _ => by simp))
    clear hr hb hg
    refine hK.out _ _ trivial (fun hHeld => ?_)
    clear hK K
    refine norm_ (a' := ?_) ?_ ?_
    rotate_left
    ·
     show Act.put _ (some 23) _ = _
     simp only [Act.put, List.setIfInBounds_toArray, List.set_cons_zero, List.set_cons_succ, i64_w, i32_w]
     rfl
    refine one_ (i := 5) (N := some 27) #[true, true, true, true, true, true, false, false, false] rfl rfl (by kernel_rfl) (by decide) (fun K hK => ?_)
    refine Kd.S_make_step (Kd.slice 5 (Kd.int .u8)) (w0 := w0) w0.heap.size 27 (by rfl) rfl 51 (.tmp 26) (.tmp 26) rfl (T : Int) rfl rfl Try.underlying51 (.slice none 0 0) 24 ow_info27 rfl (by show 0 < 1; decide) (by omega) [] (ok := fun _ => True) (okp := fun _ => False) (⟨_, rfl, Kd.R_nil _ _ _ _ _⟩) (fun _ h => h.elim) trivial (Int.natCast_nonneg T) y1 HB_x10.out HB_x10.out.size ?_
    intro v2 x102 hr hb hg _
    rw [Int.toNat_natCast] at hr
    have HR2_x102 := am hr
    have HB_x102 := am hb
    have HD_x102 := am (HD_x10.out.grown hg HD_x10.out.size (fun k e => by cases e))
    have HR1_x102 := am (Kd.R_grown HR1_x10.out hg (fun _ _ => by simp))
    have HR0_x102 := am (Kd.S_grown HR0_x10.out hg (fun _ _ => by simp))
    clear hr hb hg
    refine hK.out _ _ trivial (fun hHeld => ?_)
    clear hK K
    refine norm_ (a' := ?_) ?_ ?_
    rotate_left
    ·
     show Act.put _ (some 27) _ = _
     simp only [Act.put, List.setIfInBounds_toArray, List.set_cons_zero, List.set_cons_succ, i64_w, i32_w]
     rfl
    exact norm_ y4 (hCont (v0, v1, v2) _ ⟨HR0_x102.out, HR1_x102.out, HR2_x102.out, HB_x102.out, HD_x102.out⟩)
   ·
    skip
    refine Kd.S_make_step (Kd.slice 5 (Kd.int .u8)) (w0 := w0) w0.heap.size 27 (by rfl) rfl 51 (.tmp 26) (.tmp 26) rfl (T : Int) rfl rfl Try.underlying51 (.slice none 0 0) 24 ow_info27 rfl (by show 0 < 1; decide) (by omega) [] (ok := fun _ => True) (okp := fun _ => False) (⟨_, rfl, Kd.R_nil _ _ _ _ _⟩) (fun _ h => h.elim) trivial (Int.natCast_nonneg T) y1 HB_x1.out HB_x1.out.size ?_
    intro v2 x12 hr hb hg _
    rw [Int.toNat_natCast] at hr
    have HR2_x12 := am hr
    have HB_x12 := am hb
    have HD_x12 := am (HD_x1.out.grown hg HD_x1.out.size (fun k e => by cases e))
    have HR1_x12 := am (Kd.R_grown HR1_x1.out hg (fun _ _ => by simp))
    clear hr hb hg
    refine hK.out _ _ trivial (fun hHeld => ?_)
    clear hK K
    refine norm_ (a' := ?_) ?_ ?_
    rotate_left
    ·
     show Act.put _ (some 27) _ = _
     simp only [Act.put, List.setIfInBounds_toArray, List.set_cons_zero, List.set_cons_succ, i64_w, i32_w]
     rfl
    refine one_ (i := 1) (N := some 23) #[true, true, true, true, true, true, false, false, false] rfl rfl (by kernel_rfl) (by decide) (fun K hK => ?_)
    refine Kd.S_make_step (Kd.slice 26 (Kd.fixed k26 w0)) (w0 := w0) w0.heap.size 40 (by rfl) rfl 105 (.tmp 22) (.tmp 22) rfl (T : Int) rfl rfl Try.underlying105 (.slice none 0 0) 24 ow_info40 rfl (by show 0 < 1; decide) (by omega) [] (ok := fun _ => True) (okp := fun _ => False) (⟨_, rfl, Kd.R_nil _ _ _ _ _⟩) (fun _ h => h.elim) trivial (Int.natCast_nonneg T) y1 HB_x12.out HB_x12.out.size ?_
    intro v0 x120 hr hb hg _
    rw [Int.toNat_natCast] at hr
    have HR0_x120 := am hr
    have HB_x120 := am hb
    have HD_x120 := am (HD_x12.out.grown hg HD_x12.out.size (fun k e => by cases e))
    have HR1_x120 := am (Kd.R_grown HR1_x12.out hg (fun _ _ => by simp))
    have HR2_x120 := am (Kd.S_grown HR2_x12.out hg (fun _ _ => by simp))
    clear hr hb hg
    refine hK.out _ _ trivial (fun hHeld => ?_)
    clear hK K
    refine norm_ (a' := ?_) ?_ ?_
    rotate_left
    ·
     show Act.put _ (some 23) _ = _
     simp only [Act.put, List.setIfInBounds_toArray, List.set_cons_zero, List.set_cons_succ, i64_w, i32_w]
     rfl
    exact norm_ y4 (hCont (v0, v1, v2) _ ⟨HR0_x120.out, HR1_x120.out, HR2_x120.out, HB_x120.out, HD_x120.out⟩)
  ·
   skip
   refine Kd.S_make_step (Kd.slice 5 (Kd.int .u8)) (w0 := w0) w0.heap.size 27 (by rfl) rfl 51 (.tmp 26) (.tmp 26) rfl (T : Int) rfl rfl Try.underlying51 (.slice none 0 0) 24 ow_info27 rfl (by show 0 < 1; decide) (by omega) [] (ok := fun _ => True) (okp := fun _ => False) (⟨_, rfl, Kd.R_nil _ _ _ _ _⟩) (fun _ h => h.elim) trivial (Int.natCast_nonneg T) y1 HB_W0.out HB_W0.out.size ?_
   intro v2 x2 hr hb hg _
   rw [Int.toNat_natCast] at hr
   have HR2_x2 := am hr
   have HB_x2 := am hb
   have HD_x2 := am (HD_W0.out.grown hg HD_W0.out.size (fun k e => by cases e))
   clear hr hb hg
   refine hK.out _ _ trivial (fun hHeld => ?_)
   clear hK K
   refine norm_ (a' := ?_) ?_ ?_
   rotate_left
   ·
    show Act.put _ (some 27) _ = _
    simp only [Act.put, List.setIfInBounds_toArray, List.set_cons_zero, List.set_cons_succ, i64_w, i32_w]
    rfl
   refine two_ (i := 1) (j := 3) (Ni := some 23) (Nj := some 25) #[true, true, true, false, true, true, false, false, false] #[true, false, true, true, true, true, false, false, false] rfl rfl rfl rfl (by kernel_rfl) (by decide) (by decide) (fun K hK => ?_) (fun K hK => ?_)
   ·
    skip
    refine Kd.S_make_step (Kd.slice 26 (Kd.fixed k26 w0)) (w0 := w0) w0.heap.size 40 (by rfl) rfl 105 (.tmp 22) (.tmp 22) rfl (T : Int) rfl rfl Try.underlying105 (.slice none 0 0) 24 ow_info40 rfl (by show 0 < 1; decide) (by omega) [] (ok := fun _ => True) (okp := fun _ => False) (⟨_, rfl, Kd.R_nil _ _ _ _ _⟩) (fun _ h => h.elim) trivial (Int.natCast_nonneg T) y1 HB_x2.out HB_x2.out.size ?_
    intro v0 x20 hr hb hg _
    rw [Int.toNat_natCast] at hr
    have HR0_x20 := am hr
    have HB_x20 := am hb
    have HD_x20 := am (HD_x2.out.grown hg HD_x2.out.size (fun k e => by cases e))
    have HR2_x20 := am (Kd.S_grown HR2_x2.out hg (fun _ _ => by simp))
    clear hr hb hg
    refine hK.out _ _ trivial (fun hHeld => ?_)
    clear hK K
    refine norm_ (a' := ?_) ?_ ?_
    rotate_left
    ·
     show Act.put _ (some 23) _ = _
     simp only [Act.put, List.setIfInBounds_toArray, List.set_cons_zero, List.set_cons_succ, i64_w, i32_w]
     rfl
    refine one_ (i := 3) (N := some 25) #[true, true, true, true, true, true, false, false, false] rfl rfl (by kernel_rfl) (by decide) (fun K hK => ?_)
    refine Kd.R_make_step (Kd.int .i64) (w0 := w0) w0.heap.size 3 (by rfl) rfl 22 (.tmp 24) (.tmp 24) rfl (T : Int) rfl rfl Try.underlying22 (.int .i64 0) 8 info3 rfl (by show 0 < 1; decide) (by omega) 0 (ok := fun _ => True) (okp := fun _ => False) (rfl) (fun _ h => h.elim) trivial (Int.natCast_nonneg T) y1 HB_x20.out HB_x20.out.size ?_
    intro v1 x201 hr hb hg _
    rw [Int.toNat_natCast] at hr
    have HR1_x201 := am hr
    have HB_x201 := am hb
    have HD_x201 := am (HD_x20.out.grown hg HD_x20.out.size (fun k e => by cases e))
    have HR2_x201 := am (Kd.S_grown HR2_x20.out hg (fun _ _ => by simp))
    have HR0_x201 := am (Kd.S_grown HR0_x20.out hg (fun _ _ => by simp))
    clear hr hb hg
    refine hK.out _ _ trivial (fun hHeld => ?_)
    clear hK K
    refine norm_ (a' := ?_) ?_ ?_
    rotate_left
    ·
     show Act.put _ (some 25) _ = _
     simp only [Act.put, List.setIfInBounds_toArray, List.set_cons_zero, List.set_cons_succ, i64_w, i32_w]
     rfl
    exact norm_ y4 (hCont (v0, v1, v2) _ ⟨HR0_x201.out, HR1_x201.out, HR2_x201.out, HB_x201.out, HD_x201.out⟩)
   ·
    skip
    refine Kd.R_make_step (Kd.int .i64) (w0 := w0) w0.heap.size 3 (by rfl) rfl 22 (.tmp 24) (.tmp 24) rfl (T : Int) rfl rfl Try.underlying22 (.int .i64 0) 8 info3 rfl (by show 0 < 1; decide) (by omega) 0 (ok := fun _ => True) (okp := fun _ => False) (rfl) (fun _ h => h.elim) trivial (Int.natCast_nonneg T) y1 HB_x2.out HB_x2.out.size ?_
    intro v1 x21 hr hb hg _
    rw [Int.toNat_natCast] at hr
    have HR1_x21 := am hr
    have HB_x21 := am hb
    have HD_x21 := am (HD_x2.out.grown hg HD_x2.out.size (fun k e => by cases e))
    have HR2_x21 := am (Kd.S_grown HR2_x2.out hg (fun _ _ => by simp))
    clear hr hb hg
    refine hK.out _ _ trivial (fun hHeld => ?_)
    clear hK K
    refine norm_ (a' := ?_) ?_ ?_
    rotate_left
    ·
     show Act.put _ (some 25) _ = _
     simp only [Act.put, List.setIfInBounds_toArray, List.set_cons_zero, List.set_cons_succ, i64_w, i32_w]
     rfl
    refine one_ (i := 1) (N := some 23) #[true, true, true, true, true, true, false, false, false] rfl rfl (by kernel_rfl) (by decide) (fun K hK => ?_)
    refine Kd.S_make_step (Kd.slice 26 (Kd.fixed k26 w0)) (w0 := w0) w0.heap.size 40 (by rfl) rfl 105 (.tmp 22) (.tmp 22) rfl (T : Int) rfl rfl Try.underlying105 (.slice none 0 0) 24 ow_info40 rfl (by show 0 < 1; decide) (by omega) [] (ok := fun _ => True) (okp := fun _ => False) (⟨_, rfl, Kd.R_nil _ _ _ _ _⟩) (fun _ h => h.elim) trivial (Int.natCast_nonneg T) y1 HB_x21.out HB_x21.out.size ?_
    intro v0 x210 hr hb hg _
    rw [Int.toNat_natCast] at hr
    have HR0_x210 := am hr
    have HB_x210 := am hb
    have HD_x210 := am (HD_x21.out.grown hg HD_x21.out.size (fun k e => by cases e))
    have HR2_x210 := am (Kd.S_grown HR2_x21.out hg (fun _ _ => by simp))
    have HR1_x210 := am (Kd.R_grown HR1_x21.out hg (fun _ _ => by simp))
    clear hr hb hg
    refine hK.out _ _ trivial (fun hHeld => ?_)
    clear hK K
    refine norm_ (a' := ?_) ?_ ?_
    rotate_left
    ·
     show Act.put _ (some 23) _ = _
     simp only [Act.put, List.setIfInBounds_toArray, List.set_cons_zero, List.set_cons_succ, i64_w, i32_w]
     rfl
    exact norm_ y4 (hCont (v0, v1, v2) _ ⟨HR0_x210.out, HR1_x210.out, HR2_x210.out, HB_x210.out, HD_x210.out⟩)
 rintro ⟨v0, v1, v2⟩ W3 ⟨hr0, hr1, hr2, hb, hd⟩
 dsimp only at hr0 hr1 hr2
 obtain ⟨gb, cb, e0, -⟩ := Kd.S_form hr0 y32
 obtain ⟨gf, cf, e1, -⟩ := Kd.R_form hr1 y32
 obtain ⟨gs, cs, e2, -⟩ := Kd.S_form hr2 y32
 rw [List.length_replicate] at e0 e1 e2
 subst e0 e1 e2
 have HR0_ := am hr0
 have HR1_ := am hr1
 have HR2_ := am hr2
 have HB3 := am hb
 have HD3 := am hd
 clear hr0 hr1 hr2 hb hd
 refine norm_ (a' := ?_) ?_ ?_
 rotate_left
 ·
  simp only [putAll, Act.put, List.setIfInBounds_toArray, List.set_cons_zero, List.set_cons_succ]
  rfl
 refine pure_ (i := 6) (N := some 28) (v := ?_) (a' := ?_) #[true, true, true, true, true, true, true, false, false] rfl rfl (by kernel_rfl) (fun _ _ _ h => h) (Or.inl ⟨by rfl, ?_⟩) ?_ ?_
 rotate_left
 ·
  intro w'
  go_simp
  with_reducible rfl
 rotate_left
 ·
  simp only [Act.put, List.setIfInBounds_toArray, List.set_cons_zero, List.set_cons_succ, i64_w, i32_w]
  rfl
 refine last_ (i := 7) (N := some 29) #[true, true, true, true, true, true, true, true, false] rfl rfl (by kernel_rfl) (by decide) (fun K hK => ?_)
 refine value_ (w1 := ?_) (v := ?_) (by rfl) rfl ?_ ?_
 rotate_left 2
 ·
  go_simp
  constructor
  ·
   rfl
  ·
   rfl
 refine hK.out _ _ ?_
 clear hK K
 refine norm_ (a' := ?_) ?_ ?_
 rotate_left
 ·
  show Act.put _ (some 29) _ = _
  simp only [Act.put, List.setIfInBounds_toArray, List.set_cons_zero, List.set_cons_succ, i64_w, i32_w]
  rfl
 refine pure_ (i := 8) (N := some 9) (v := ?_) (a' := ?_) #[true, true, true, true, true, true, true, true, true] rfl rfl (by kernel_rfl) (fun _ _ _ h => h) (Or.inl ⟨by rfl, ?_⟩) ?_ ?_
 rotate_left
 ·
  intro w'
  go_simp
  with_reducible rfl
 rotate_left
 ·
  simp only [Act.put, List.setIfInBounds_toArray, List.set_cons_zero, List.set_cons_succ, i64_w, i32_w]
  rfl
 refine done_ (by kernel_rfl) ?_
 have HS := am (show j14_writer.St w0 W3.heap.size T (List.replicate T []) (List.replicate T 0) (List.replicate T []) gb cb gf cf gs cs (W3.alloc (.cells #[.slice (some ⟨gb, 0, none⟩) T cb, .slice (some ⟨gf, 0, none⟩) T cf, .slice (some ⟨gs, 0, none⟩) T cs] 112)) from
  ⟨blk_new W3 _, Kd.S_alloc HR0_.out _, Kd.R_alloc HR1_.out _, Kd.S_alloc HR2_.out _, below_alloc HB3.out _, HB3.out.size⟩)
 clear HR0_ HR1_ HR2_ HD3
 generalize W3.alloc (.cells #[.slice (some ⟨gb, 0, none⟩) T cb, .slice (some ⟨gf, 0, none⟩) T cf, .slice (some ⟨gs, 0, none⟩) T cs] 112) = W4 at HS ⊢
 obtain ⟨gx, hgx⟩ : ∃ gx, W3.heap.size = gx := ⟨_, rfl⟩
 rw [hgx] at HS ⊢
 have HRF0 := am (show Kd.C k57 w0 AF fl.length fl by rw [← HE0.out]; exact Kd.C_below HRF.out HB2.out)
 have HRE0 := am (show Kd.C k24 w0 A0 l0.length l0 by rw [← HE0.out]; exact Kd.C_below HR0.out HB2.out)
 have HRC0 := am (show Kd.C (Kd.int .i64) w0 AC cuts.length cuts by rw [← HE0.out]; exact Kd.C_below HRC.out HB2.out)
 have HBW := am (show Below w.heap.size w w0 by rw [← HE0.out]; exact HB2.out)
 have HP0 := am (show w0.cell? ⟨gp, 0, none⟩ = some (.int .i64 cap) ∧ w0.cell? ⟨gp, 1, none⟩ = some (.slice AF fl.length cF) ∧ w0.cell? ⟨gp, 2, none⟩ = some (.int .i64 stop) ∧ w0.cell? ⟨gp, 3, none⟩ = some (.slice AC cuts.length cC) by rw [← HE0.out]; exact ⟨(blk_cell HP2.out 0).trans rfl, (blk_cell HP2.out 1).trans rfl, (blk_cell HP2.out 2).trans rfl, (blk_cell HP2.out 3).trans rfl⟩)
 clear hgx HE0 HB3 HB2 HP2 HD_W0 HB_W0 HRF HR0 HRC HQ
 obtain ⟨M, hM⟩ : ∃ M : Nat, (mn stop (l0.length : Int)).toNat = M := ⟨_, rfl⟩
 have HMM := am (show M ≤ l0.length ∧ ((M : Int) ≤ stop) ∧ (M < l0.length → (M : Int) = stop) by have h9 := HST.out; rw [← hM]; unfold mn; split <;> omega)
 have HQ2' := HQ2.out
 rw [hM] at HQ2'
 have HQM := am HQ2'
 clear hM HQ2' HQ2
 try go_wp2
 go_loopw [10] (fun v wr => ∃ (j : Nat) (b : List (List S26)) (z : List Int) (s : List (List Int)), v = .int .i64 (j : Int) ∧ j ≤ M + 1 ∧ Aside0 ((j = 0 ∧ ∃ q1, flF j11_Encode.f k 0 fl b z s = some q1 ∧ rnF j11_Encode.f k l0 cap fl M 1 q1.1 q1.2.1 q1.2.2 = some q2) ∨ (1 ≤ j ∧ rnF j11_Encode.f k l0 cap fl (M + 1 - j) (j : Int) b z s = some q2)) ∧ Aside0 (j14_writer.St w0 gx T b z s gb cb gf cf gs cs wr)) (fun v _ => M + 1 - (intOf v).toNat)
 case atStart => exact ⟨0, _, _, _, rfl, Nat.zero_le _, ⟨.inl ⟨rfl, q1, HQ1.out, HQM.out⟩⟩, HS⟩
 case round =>
  clear HQM HQ1 HS
  obtain ⟨j, b, z, s, rfl, hj, HR, HS⟩ := hrel
  have hp0 := (HS.out.B.cell (World.block_lt_of_cell? w0 _ HP0.out.1)).trans HP0.out.1
  have hp1 := (HS.out.B.cell (World.block_lt_of_cell? w0 _ HP0.out.2.1)).trans HP0.out.2.1
  have hp2 := (HS.out.B.cell (World.block_lt_of_cell? w0 _ HP0.out.2.2.1)).trans HP0.out.2.2.1
  have hm9 : M ≤ 400 := Nat.le_trans HMM.out.1 HL4.out
  by_cases hlt : j ≤ M
  rotate_left
  ·
   obtain rfl : j = M + 1 := by omega
   have hr : rnF j11_Encode.f k l0 cap fl (M + 1 - (M + 1)) ((M + 1 : Nat) : Int) b z s = some q2 := by
    rcases HR.out with ⟨h, _⟩ | ⟨_, h⟩
    ·
     cases h
    ·
     exact h
   rw [Nat.sub_self] at hr
   unfold rnF at hr
   have HE2 := am (Option.some.inj hr)
   have hs3 := (HS.out.B.cell (World.block_lt_of_cell? w0 _ HP0.out.2.2.2)).trans HP0.out.2.2.2
   rw [show ((M + 1 : Nat) : Int) = (M : Int) + 1 from rfl]
   have HD : Aside0 (decide ((M : Int) + 1 ≤ stop) = false ∨ decide ((M : Int) + 1 ≤ stop) = true ∧ decide (M + 1 ≤ l0.length) = false ∧ decide ((M : Int) + 1 ≤ (l0.length : Int)) = false) := ⟨by
    by_cases x1 : (M : Int) + 1 ≤ stop
    ·
     have hh := HMM.out.2.2
     exact .inr ⟨decide_eq_true x1, decide_eq_false (by omega), decide_eq_false (by omega)⟩
    ·
     exact .inl (decide_eq_false x1)⟩
   clear hr HR hlt hj hp1 hp0
   rcases HD.out with hd1 | ⟨hd1, hd2, hd3⟩
   all_goals
    clear HD
    go_wp2
    go_loopw [13] (fun v wr => ∃ (t : Nat) (b : List (List S26)) (z : List Int) (s : List (List Int)), v = .int .i64 (t : Int) ∧ t ≤ cuts.length ∧ Aside0 (ctF j14_Files.cut (cuts.drop t) t s = some q3) ∧ Aside0 (j14_writer.St w0 gx T b z s gb cb gf cf gs cs wr)) (fun v _ => cuts.length - (intOf v).toNat)
    case atStart => exact ⟨0, b, z, s, rfl, Nat.zero_le _, by rw [show s = q2.2.2 from by rw [← HE2.out]]; exact HQ3, HS⟩
    case round =>
     clear HS HE2 HQ3 hp2 hs3 b z s hd1
     obtain ⟨t, b, z, s, rfl, ht, HR, HS⟩ := hrel
     have hs3 := (HS.out.B.cell (World.block_lt_of_cell? w0 _ HP0.out.2.2.2)).trans HP0.out.2.2.2
     by_cases hlt : t < cuts.length
     rotate_left
     ·
      have hr := HR.out
      rw [List.drop_of_length_le (by omega)] at hr
      unfold ctF at hr
      have HE3 := am (Option.some.inj hr)
      have hx := (blk_cell HS.out.x 2).trans rfl
      clear hr
      go_wp2
      have hh := HH.out
      simp only [Prod.mk.injEq] at hh
      obtain ⟨rfl, rfl⟩ := hh
      go_ret2
      refine ⟨_, rfl, ?_, below_step HBW.out HS.out.B⟩
      rw [← HE3.out]
      exact Kd.S_lower HS.out.s HBW.out.size
     have hr := HR.out
     rw [List.drop_eq_getElem_cons hlt] at hr
     unfold ctF at hr
     obtain ⟨cc, hcc⟩ : ∃ cc, cuts[t] = cc := ⟨_, rfl⟩
     obtain ⟨ft, hft⟩ : ∃ ft, s.getD t [] = ft := ⟨_, rfl⟩
     rw [hcc, hft] at hr
     by_cases cg : t < s.length ∧ 0 ≤ j14_Files.cut cc (ft.length : Int) ∧ j14_Files.cut cc (ft.length : Int) ≤ (ft.length : Int)
     rotate_left
     ·
      rw [if_neg cg] at hr
      cases hr
     rw [if_pos cg] at hr
     obtain ⟨mv, hmv⟩ : ∃ mv, j14_Files.cut cc (ft.length : Int) = mv := ⟨_, rfl⟩
     rw [hmv] at hr cg
     obtain ⟨g1, g2, g3⟩ := cg
     rw [← HS.out.len.2.2] at g1
     obtain ⟨m0, hm0⟩ : ∃ m0, (if (ft.length : Int) < cc then (ft.length : Int) else cc) = m0 := ⟨_, rfl⟩
     have hmm : (ft.length : Int) - m0 = mv := by rw [← hm0]; exact hmv
     obtain ⟨oks, As, cs2, hs1, hs2, hsR, hsH, hsn⟩ := ow_elem HS.out.s (t : Int) (by omega) (by omega)
     rw [Int.toNat_natCast] at hs1 hs2 hsR hsH
     rw [hft] at hs1 hsR hsH
     have hf9 : ft.length ≤ 9223372036854775807 := (Kd.R_reads' hsR).2.2.2.1
     have hsb2 : wrap64 ((ft.length : Int) - m0) = mv := by rw [hmm]; exact ow_len g2 g3 hf9
     have hsb1 : IntKind.i64.wrap ((ft.length : Int) - m0) = mv := by rw [i64_w]; exact hsb2
     obtain ⟨i0, hi0, _, hsz, _⟩ := info_parts info5
     obtain ⟨hcut, -, -⟩ := print_take_of (P := Try.prog) (Value.int .u8) 0 27 5 .i64 Try.underlying27 hi0 hsz As cs2 ft mv g2 g3 (Kd.R_reads' hsR).2.1
     obtain ⟨yt, hyt⟩ : ∃ yt, ft.take mv.toNat = yt := ⟨_, rfl⟩
     rw [hyt] at hcut hr
     have HYR := am (show (Kd.int .u8).R 5 wr w0.heap.size oks (.slice As yt.length cs2) yt by
      have h1 := Kd.R_take hsR (m := mv.toNat) (by omega)
      rw [hyt] at h1
      have h2 : yt.length = mv.toNat := by rw [← hyt, List.length_take]; omega
      rw [h2]
      exact h1)
     obtain ⟨ad, rfl, hx⟩ := Kd.at_int HRC0.out (t : Int) (by omega) (by omega)
     rw [show rd cuts (t : Int) = cc from by rw [← hcc]; simp [rd, List.getD_eq_getElem?_getD, List.getElem?_eq_getElem hlt]] at hx
     replace hx := (HS.out.B.cell (World.block_lt_of_cell? w0 _ hx)).trans hx
     rw [Int.toNat_natCast] at hx
     have HSR := am hsR
     have HSH := am hsH
     have HSN := am hsn
     have HFT := am hft
     have HRR := am hr
     have HTT := am (show (0 : Int) ≤ (t : Int) ∧ (t : Int) < (T : Int) by omega)
     have hc9 : cuts.length ≤ 9223372036854775807 := HRC0.out.2.1
     have ht9 : t < T := by omega
     obtain ⟨-, -, hv3, -, -⟩ := HS.out.cells HTT.out.1 HTT.out.2
     clear hr hcc hft hmv hmm g2 g3 g1 hsR hsH hsn hi0 hsz HR hyt ht hf9
     go_wp2
     refine start_ (n := 20) (S := fun w' => w'.cell? ⟨gx, 2, none⟩ = some (.slice (some ⟨gs, 0, none⟩) T cs) ∧ w'.cell? ⟨gp, 3, none⟩ = some (.slice (some ad) cuts.length cC) ∧ w'.cell? (ad.add t) = some (.int .i64 cc)) (ds := [19]) #[false, false, false, false, false, false, false, false, false, false, false, false, false, false, false, false, false, false, false, false] (by kernel_rfl) rfl rfl (⟨hv3, hs3, hx⟩) (fun hHeld => ?_)
     refine pure_ (i := 0) (N := some 128) (v := ?_) (a' := ?_) #[true, false, false, false, false, false, false, false, false, false, false, false, false, false, false, false, false, false, false, false] rfl rfl (by kernel_rfl) (fun _ _ _ h => h) (Or.inl ⟨by rfl, ?_⟩) ?_ ?_
     rotate_left
     ·
      intro w'
      go_simp
      with_reducible rfl
     rotate_left
     ·
      simp only [Act.put, List.setIfInBounds_toArray, List.set_cons_zero, List.set_cons_succ, i64_w, i32_w]
      rfl
     refine pure_ (i := 1) (N := some 129) (v := ?_) (a' := ?_) #[true, true, false, false, false, false, false, false, false, false, false, false, false, false, false, false, false, false, false, false] rfl rfl (by kernel_rfl) (fun _ _ _ h => h) (Or.inl ⟨by rfl, ?_⟩) ?_ ?_
     rotate_left
     ·
      intro w'
      go_simp
      with_reducible rfl
     rotate_left
     ·
      simp only [Act.put, List.setIfInBounds_toArray, List.set_cons_zero, List.set_cons_succ, i64_w, i32_w]
      rfl
     refine pure_ (i := 2) (N := some 130) (v := ?_) (a' := ?_) #[true, true, true, false, false, false, false, false, false, false, false, false, false, false, false, false, false, false, false, false] rfl rfl (by kernel_rfl) (fun _ _ _ h => h) (Or.inl ⟨by rfl, ?_⟩) ?_ ?_
     rotate_left
     ·
      intro w'
      go_simp
      with_reducible rfl
     rotate_left
     ·
      simp only [Act.put, List.setIfInBounds_toArray, List.set_cons_zero, List.set_cons_succ, i64_w, i32_w]
      rfl
     refine pure_ (i := 4) (N := some 132) (v := ?_) (a' := ?_) #[true, true, true, false, true, false, false, false, false, false, false, false, false, false, false, false, false, false, false, false] rfl rfl (by kernel_rfl) (fun _ _ _ h => h) (Or.inl ⟨by rfl, ?_⟩) ?_ ?_
     rotate_left
     ·
      intro w'
      go_simp
      with_reducible rfl
     rotate_left
     ·
      simp only [Act.put, List.setIfInBounds_toArray, List.set_cons_zero, List.set_cons_succ, i64_w, i32_w]
      rfl
     refine pure_ (i := 5) (N := some 133) (v := ?_) (a' := ?_) #[true, true, true, false, true, true, false, false, false, false, false, false, false, false, false, false, false, false, false, false] rfl rfl (by kernel_rfl) (fun _ _ _ h => h) (Or.inl ⟨by rfl, ?_⟩) ?_ ?_
     rotate_left
     ·
      intro w'
      go_simp
      with_reducible rfl
     rotate_left
     ·
      simp only [Act.put, List.setIfInBounds_toArray, List.set_cons_zero, List.set_cons_succ, i64_w, i32_w]
      rfl
     refine pure_ (i := 6) (N := some 134) (v := ?_) (a' := ?_) #[true, true, true, false, true, true, true, false, false, false, false, false, false, false, false, false, false, false, false, false] rfl rfl (by kernel_rfl) (fun _ _ _ h => h) (Or.inl ⟨by rfl, ?_⟩) ?_ ?_
     rotate_left
     ·
      intro w'
      go_simp
      with_reducible rfl
     rotate_left
     ·
      simp only [Act.put, List.setIfInBounds_toArray, List.set_cons_zero, List.set_cons_succ, i64_w, i32_w]
      rfl
     refine pure_ (i := 7) (N := some 135) (v := ?_) (a' := ?_) #[true, true, true, false, true, true, true, true, false, false, false, false, false, false, false, false, false, false, false, false] rfl rfl (by kernel_rfl) (fun _ _ _ h => h) (Or.inl ⟨by rfl, ?_⟩) ?_ ?_
     rotate_left
     ·
      intro w'
      go_simp
      with_reducible rfl
     rotate_left
     ·
      simp only [Act.put, List.setIfInBounds_toArray, List.set_cons_zero, List.set_cons_succ, i64_w, i32_w]
      rfl
     refine pure_ (i := 8) (N := some 136) (v := ?_) (a' := ?_) #[true, true, true, false, true, true, true, true, true, false, false, false, false, false, false, false, false, false, false, false] rfl rfl (by kernel_rfl) (fun _ _ _ h => h) (Or.inl ⟨by rfl, ?_⟩) ?_ ?_
     rotate_left
     ·
      intro w'
      go_simp
      with_reducible rfl
     rotate_left
     ·
      simp only [Act.put, List.setIfInBounds_toArray, List.set_cons_zero, List.set_cons_succ, i64_w, i32_w]
      rfl
     refine pure_ (i := 10) (N := some 138) (v := ?_) (a' := ?_) #[true, true, true, false, true, true, true, true, true, false, true, false, false, false, false, false, false, false, false, false] rfl rfl (by kernel_rfl) (fun _ _ _ h => h) (Or.inl ⟨by rfl, ?_⟩) ?_ ?_
     rotate_left
     ·
      intro w'
      go_simp
      with_reducible rfl
     rotate_left
     ·
      simp only [Act.put, List.setIfInBounds_toArray, List.set_cons_zero, List.set_cons_succ, i64_w, i32_w]
      rfl
     refine pure_ (i := 13) (N := some 141) (v := ?_) (a' := ?_) #[true, true, true, false, true, true, true, true, true, false, true, false, false, true, false, false, false, false, false, false] rfl rfl (by kernel_rfl) (fun _ _ _ h => h) (Or.inl ⟨by rfl, ?_⟩) ?_ ?_
     rotate_left
     ·
      intro w'
      go_simp
      with_reducible rfl
     rotate_left
     ·
      simp only [Act.put, List.setIfInBounds_toArray, List.set_cons_zero, List.set_cons_succ, i64_w, i32_w]
      rfl
     refine pure_ (i := 14) (N := some 142) (v := ?_) (a' := ?_) #[true, true, true, false, true, true, true, true, true, false, true, false, false, true, true, false, false, false, false, false] rfl rfl (by kernel_rfl) (fun _ _ _ h => h) (Or.inl ⟨by rfl, ?_⟩) ?_ ?_
     rotate_left
     ·
      intro w'
      go_simp
      with_reducible rfl
     rotate_left
     ·
      simp only [Act.put, List.setIfInBounds_toArray, List.set_cons_zero, List.set_cons_succ, i64_w, i32_w]
      rfl
     refine take_ (i := 3) (N := some 131) (v := ?_) (a' := ?_) #[true, true, true, true, true, true, true, true, true, false, true, false, false, true, true, false, false, false, false, false] rfl rfl (by kernel_rfl) (fun _ _ _ h => h) (Or.inl ⟨by rfl, ?_⟩) hHeld ?_ ?_
     rotate_left
     ·
      rintro w' ⟨s0, s1, s2⟩
      go_simp
      with_reducible rfl
     rotate_left
     ·
      simp only [Act.put, List.setIfInBounds_toArray, List.set_cons_zero, List.set_cons_succ, i64_w, i32_w]
      rfl
     refine take_ (i := 9) (N := some 137) (v := ?_) (a' := ?_) #[true, true, true, true, true, true, true, true, true, true, true, false, false, true, true, false, false, false, false, false] rfl rfl (by kernel_rfl) (fun _ _ _ h => h) (Or.inl ⟨by rfl, ?_⟩) hHeld ?_ ?_
     rotate_left
     ·
      rintro w' ⟨s0, s1, s2⟩
      go_simp
      with_reducible rfl
     rotate_left
     ·
      simp only [Act.put, List.setIfInBounds_toArray, List.set_cons_zero, List.set_cons_succ, i64_w, i32_w]
      rfl
     refine pure_ (i := 11) (N := some 139) (v := ?_) (a' := ?_) #[true, true, true, true, true, true, true, true, true, true, true, true, false, true, true, false, false, false, false, false] rfl rfl (by kernel_rfl) (fun _ _ _ h => h) (Or.inl ⟨by rfl, ?_⟩) ?_ ?_
     rotate_left
     ·
      intro w'
      go_simp
      with_reducible rfl
     rotate_left
     ·
      simp only [Act.put, List.setIfInBounds_toArray, List.set_cons_zero, List.set_cons_succ, i64_w, i32_w]
      rfl
     refine take_ (i := 12) (N := some 140) (v := ?_) (a' := ?_) #[true, true, true, true, true, true, true, true, true, true, true, true, true, true, true, false, false, false, false, false] rfl rfl (by kernel_rfl) (fun _ _ _ h => h) (Or.inl ⟨by rfl, ?_⟩) hHeld ?_ ?_
     rotate_left
     ·
      rintro w' ⟨s0, s1, s2⟩
      go_simp
      with_reducible rfl
     rotate_left
     ·
      simp only [Act.put, List.setIfInBounds_toArray, List.set_cons_zero, List.set_cons_succ, i64_w, i32_w]
      rfl
     refine pure_ (i := 15) (N := some 143) (v := ?_) (a' := ?_) #[true, true, true, true, true, true, true, true, true, true, true, true, true, true, true, true, false, false, false, false] rfl rfl (by kernel_rfl) (fun _ _ _ h => h) (Or.inl ⟨by rfl, ?_⟩) ?_ ?_
     rotate_left
     ·
      intro w'
      go_simp
      with_reducible rfl
     rotate_left
     ·
      simp only [Act.put, List.setIfInBounds_toArray, List.set_cons_zero, List.set_cons_succ, i64_w, i32_w]
      rfl
     refine pure_ (i := 16) (N := some 144) (v := ?_) (a' := ?_) #[true, true, true, true, true, true, true, true, true, true, true, true, true, true, true, true, true, false, false, false] rfl rfl (by kernel_rfl) (fun _ _ _ h => h) (Or.inl ⟨by rfl, ?_⟩) ?_ ?_
     rotate_left
     ·
      intro w'
      go_simp
      with_reducible rfl
     rotate_left
     ·
      simp only [Act.put, List.setIfInBounds_toArray, List.set_cons_zero, List.set_cons_succ, i64_w, i32_w]
      rfl
     refine pure_ (i := 17) (N := some 145) (v := ?_) (a' := ?_) #[true, true, true, true, true, true, true, true, true, true, true, true, true, true, true, true, true, true, false, false] rfl rfl (by kernel_rfl) (fun _ _ _ h => h) (Or.inl ⟨by rfl, ?_⟩) ?_ ?_
     rotate_left
     ·
      intro w'
      go_simp
      with_reducible rfl
     rotate_left
     ·
      simp only [Act.put, List.setIfInBounds_toArray, List.set_cons_zero, List.set_cons_succ, i64_w, i32_w]
      rfl
     refine pure_ (i := 18) (N := some 146) (v := ?_) (a' := ?_) #[true, true, true, true, true, true, true, true, true, true, true, true, true, true, true, true, true, true, true, false] rfl rfl (by kernel_rfl) (fun _ _ _ h => h) (Or.inl ⟨by rfl, ?_⟩) ?_ ?_
     rotate_left
     ·
      intro w'
      go_simp
      with_reducible rfl
     rotate_left
     ·
      simp only [Act.put, List.setIfInBounds_toArray, List.set_cons_zero, List.set_cons_succ, i64_w, i32_w]
      rfl
     refine last_ (i := 19) (N := none) #[true, true, true, true, true, true, true, true, true, true, true, true, true, true, true, true, true, true, true, true] rfl rfl (by kernel_rfl) (by decide) (fun K hK => ?_)
     refine skip_ (w1 := ?_) (by rfl) rfl ?_ ?_
     rotate_left
     ·
      go_simp
      rfl
     refine hK.out _ _ ?_
     clear hK K
     refine done_ (by kernel_rfl) ?_
     clear hHeld
     have HS9 := am (HS.out.setS HSH.out HTT.out.1 HTT.out.2 HSN.out (World.grownBy.refl _ _) HS.out.B (by rw [Int.toNat_natCast, HFT.out]; exact HSR.out) (Kd.R_mono HYR.out (fun k hk => .inl hk))).drew
     rw [Int.toNat_natCast] at HS9
     generalize (wr.setCell ⟨gs, t, none⟩ (.slice As yt.length cs2)).drew = w9 at HS9 ⊢
     go_wp2
     go_roundw
     case rel => exact ⟨t + 1, b, z, _, by simp, hlt, HRR, HS9⟩
     case measure => simp [intOf]; omega
  have HJ := am hlt
  clear hlt
  cases j with
  | zero =>
   obtain ⟨qb, hqb, hrr⟩ : ∃ qb, flF j11_Encode.f k 0 fl b z s = some qb ∧ rnF j11_Encode.f k l0 cap fl (M + 1 - 1) ((1 : Nat) : Int) qb.1 qb.2.1 qb.2.2 = some q2 := by
    rcases HR.out with ⟨_, h⟩ | ⟨h, _⟩
    ·
     exact h
    ·
     exact absurd h (by decide)
   have HQB := am hqb
   have HRR := am hrr
   have HSB := HS
   have ht1 : decide ((0 : Int) ≤ stop) = true := decide_eq_true HST.out
   have hs0 : 0 ≤ stop := HST.out
   clear hqb hrr HR hp0 HS
   rw [show ((0 : Nat) : Int) = 0 from rfl]
   go_wp2
   go_loopw [12] (fun v wr => ∃ (m : Nat) (b : List (List S26)) (z : List Int) (s : List (List Int)), v = .int .i64 (m : Int) ∧ m ≤ fl.length ∧ Aside0 (flF j11_Encode.f k (0) (fl.drop m) b z s = some qb) ∧ Aside0 (j14_writer.St w0 gx T b z s gb cb gf cf gs cs wr)) (fun v _ => fl.length - (intOf v).toNat)
   case atStart => exact ⟨0, _, _, _, rfl, Nat.zero_le _, HQB, HSB⟩
   case round =>
    clear HQB HSB
    obtain ⟨m, b2, z2, s2, rfl, hmm, HR2, HS2⟩ := hrel
    have hq1 := (HS2.out.B.cell (World.block_lt_of_cell? w0 _ HP0.out.2.1)).trans HP0.out.2.1
    by_cases hlt : m < fl.length
    rotate_left
    ·
     have hr := HR2.out
     rw [List.drop_of_length_le (by omega)] at hr
     unfold flF at hr
     have HE := am (Option.some.inj hr)
     clear hr
     go_wp2
     have he := HE.out
     subst he
     have hj9 := HJ.out
     exact ⟨⟨1, b2, z2, s2, by first | rfl | exact congrArg (Value.int .i64) (by omega), by omega, ⟨.inr ⟨by omega, HRR.out⟩⟩, HS2⟩, by simp [intOf] <;> omega⟩
    have hr := HR2.out
    rw [List.drop_eq_getElem_cons hlt] at hr
    unfold flF at hr
    obtain ⟨f, hf⟩ : ∃ f, fl[m] = f := ⟨_, rfl⟩
    rw [hf] at hr
    obtain ⟨ad, rfl, hx0, hx1⟩ := at_T57 HRF0.out (m : Int) (by omega) (by omega)
    rw [show rd_T57 fl (m : Int) = f from by rw [← hf]; simp [rd_T57, List.getD_eq_getElem?_getD, List.getElem?_eq_getElem hlt]] at hx0 hx1
    have hy0 := (HS2.out.B.cell (World.block_lt_of_cell? w0 _ hx0)).trans hx0
    have hy1 := (HS2.out.B.cell (World.block_lt_of_cell? w0 _ hx1)).trans hx1
    rw [Int.toNat_natCast] at hy0 hy1
    have hm8 : fl.length ≤ 9223372036854775807 := HRF0.out.2.1
    have HCC2 : Aside0 ((f.f0 == 0) = false ∧ flF j11_Encode.f k (0) (fl.drop (m + 1)) b2 z2 s2 = some qb ∨ (f.f0 == 0) = true ∧ 0 ≤ f.f1 ∧ f.f1 < (b2.length : Int) ∧ ∃ q, wrF j11_Encode.f k f.f1 b2 z2 s2 = some q ∧ flF j11_Encode.f k (0) (fl.drop (m + 1)) q.1 q.2.1 q.2.2 = some qb) := ⟨by
     by_cases x1 : f.f0 = 0
     ·
      rw [if_pos x1] at hr
      by_cases x2 : 0 ≤ f.f1 ∧ f.f1 < (b2.length : Int)
      ·
       rw [if_pos x2] at hr
       obtain ⟨q, hq, hr⟩ := Option.bind_eq_some_iff.mp hr
       exact .inr ⟨beq_iff_eq.mpr x1, x2.1, x2.2, q, hq, hr⟩
      ·
       rw [if_neg x2] at hr
       cases hr
     ·
      rw [if_neg x1] at hr
      exact .inl ⟨beq_eq_false_iff_ne.mpr x1, hr⟩⟩
    clear hx0 hx1 hf hmm hr HR2
    rcases HCC2.out with ⟨k1, h⟩ | ⟨k1, h0, h1, q, hq, h⟩
    ·
     have HQ9 := am h
     clear HCC2 h
     go_wp2
     go_roundw
     case rel => exact y38
     case measure => simp [intOf]; omega
    ·
     have HQ9 := am h
     have HQ8 := am hq
     have HT9 := am (And.intro h0 (show f.f1 < (T : Int) by rw [HS2.out.len.1]; exact h1))
     clear HCC2 h hq h0 h1
     go_wp2_with (go_at_call 62; refine (j14_writer.write k f.f1 w0 _ gx T b2 z2 s2 gb cb gf cf gs cs q HS2.out HT9.out.1 HT9.out.2 HQ8.out).mono ?_; rintro e' w9 ⟨rfl, hS⟩; have HS9 := am hS; clear hS)
     go_roundw
     case rel => exact y36
     case measure => simp [intOf]; omega
  | succ i =>
   have hr : rnF j11_Encode.f k l0 cap fl (M + 1 - (i + 1)) ((i + 1 : Nat) : Int) b z s = some q2 := by
    rcases HR.out with ⟨h, _⟩ | ⟨_, h⟩
    ·
     cases h
    ·
     exact h
   have hji := HJ.out
   obtain ⟨d, hd⟩ : ∃ d, M + 1 - (i + 1) = d + 1 := ⟨M - (i + 1), by omega⟩
   rw [hd] at hr
   unfold rnF at hr
   rw [show ((i + 1 : Nat) : Int) - 1 = (i : Int) by omega] at hr
   obtain ⟨qa, hqa, hr⟩ := Option.bind_eq_some_iff.mp hr
   obtain ⟨qb, hqb, hr⟩ := Option.bind_eq_some_iff.mp hr
   have hml := HMM.out.1
   obtain ⟨ad, E5, n5, E6, n6, rfl, hx0, hx1, hx2, hx3, hx4, hx5, hx6, hl5, hi5, hl6, hi6⟩ := at_T24 HRE0.out (i : Int) (by omega) (by omega)
   obtain ⟨e, hee⟩ : ∃ e, rd_T24 l0 (i : Int) = e := ⟨_, rfl⟩
   rw [hee] at hqa hx0 hx1 hx2 hx3 hx4 hx5 hx6 hl5 hi5 hl6 hi6
   replace hx0 := (HS.out.B.cell (World.block_lt_of_cell? w0 _ hx0)).trans hx0
   replace hx1 := (HS.out.B.cell (World.block_lt_of_cell? w0 _ hx1)).trans hx1
   replace hx2 := (HS.out.B.cell (World.block_lt_of_cell? w0 _ hx2)).trans hx2
   replace hx3 := (HS.out.B.cell (World.block_lt_of_cell? w0 _ hx3)).trans hx3
   replace hx4 := (HS.out.B.cell (World.block_lt_of_cell? w0 _ hx4)).trans hx4
   replace hx5 := (HS.out.B.cell (World.block_lt_of_cell? w0 _ hx5)).trans hx5
   replace hx6 := (HS.out.B.cell (World.block_lt_of_cell? w0 _ hx6)).trans hx6
   rw [Int.toNat_natCast] at hx0 hx1 hx2 hx3 hx4 hx5 hx6
   rw [show ((i + 1 : Nat) : Int) = (i : Int) + 1 by omega] at hqb
   have HQB := am hqb
   have HRR := am (show rnF j11_Encode.f k l0 cap fl (M + 1 - (i + 2)) ((i + 2 : Nat) : Int) qb.1 qb.2.1 qb.2.2 = some q2 by rw [show M + 1 - (i + 2) = d by omega, show ((i + 2 : Nat) : Int) = ((i + 1 : Nat) : Int) + 1 by omega]; exact hr)
   have HE5 := am (And.intro hl5 hi5)
   have HE6 := am (And.intro hl6 hi6)
   have hjl : i < l0.length := by omega
   have ht1 : decide ((i : Int) + 1 ≤ stop) = true := decide_eq_true (by have := HMM.out.2.1; omega)
   have ht2 : decide (i + 1 ≤ l0.length) = true := decide_eq_true (by omega)
   have ht4 : decide ((i : Int) + 1 ≤ (l0.length : Int)) = true := decide_eq_true (by omega)
   unfold adF at hqa
   by_cases ct : 0 ≤ e.f0 ∧ e.f0 < (b.length : Int) ∧ (b.getD e.f0.toNat []).length < 1466015503701
   rotate_left
   ·
    rw [if_neg ct] at hqa
    cases hqa
   rw [if_pos ct] at hqa
   obtain ⟨h0, h1, h2⟩ := ct
   rw [← HS.out.len.1] at h1
   obtain ⟨bt, hbt⟩ : ∃ bt, b.getD e.f0.toNat [] = bt := ⟨_, rfl⟩
   rw [hbt] at hqa h2
   have HT := am (And.intro h0 h1)
   have HBT := am hbt
   have HLM := am h2
   have HHA := am hqa
   have p1 := eq_true h0
   have p2 := eq_true h1
   clear hr hqa hqb hl5 hi5 hl6 hi6 HR hd hml hee h0 h1 h2 hbt hji
   rw [show ((i + 1 : Nat) : Int) = (i : Int) + 1 from rfl]
   go_wp2
   have hx := blk_new wr (.cells #[.int .i64 e.f0, .int .i64 e.f1, .int .i64 e.f2, .int .i64 e.f3, .int .i64 e.f4, .slice E5 e.f5.length n5, .slice E6 e.f6.length n6] 24)
   have hb : Below wr.heap.size wr (wr.alloc (.cells #[.int .i64 e.f0, .int .i64 e.f1, .int .i64 e.f2, .int .i64 e.f3, .int .i64 e.f4, .slice E5 e.f5.length n5, .slice E6 e.f6.length n6] 24)) := below_alloc (Below.refl _ _) _
   generalize wr.alloc (.cells #[.int .i64 e.f0, .int .i64 e.f1, .int .i64 e.f2, .int .i64 e.f3, .int .i64 e.f4, .slice E5 e.f5.length n5, .slice E6 e.f6.length n6] 24) = w1 at hx hb ⊢
   obtain ⟨ge, hge⟩ : ∃ ge, wr.heap.size = ge := ⟨_, rfl⟩
   rw [hge] at hx ⊢
   have HGE := am (show w1.drew.heap[ge]? = some (.cells #[.int .i64 e.f0, .int .i64 e.f1, .int .i64 e.f2, .int .i64 e.f3, .int .i64 e.f4, .slice E5 e.f5.length n5, .slice E6 e.f6.length n6] 24 (0, 0)) from hx)
   have HS1 := am (HS.out.below hb).drew
   clear hge hx hb hx0 hx1 hx2 hx3 hx4 hx5 hx6 hp0 hp1 hp2 HS
   generalize hW1 : w1.drew = W1
   rw [hW1] at HGE HS1
   obtain ⟨oki, A, c, he1, he2, heR, heH, hne⟩ := ow_elem HS1.out.b e.f0 HT.out.1 HT.out.2
   rw [HBT.out] at he1 heR heH
   obtain ⟨hv1, -, -, -, -⟩ := HS1.out.cells HT.out.1 HT.out.2
   have HV1 := am hv1
   have HER := am heR
   have HEH := am heH
   have HNE := am hne
   have HSC := am (And.intro he1 he2)
   have HW1 := am hW1
   clear heR heH hne he2 hW1
   have hsw1 : IntKind.i64.wrap (i : Int) = (i : Int) := by rw [i64_w]; exact ow_small (by omega)
   have hsw2 : wrap64 (i : Int) = (i : Int) := ow_small (by omega)
   obtain ⟨hg0, hg1, hg2, hg3, hg4, hg5, hg6⟩ := zc7 HGE
   refine start_ (n := 22) (S := fun w' => w'.cell? ⟨gx, 0, none⟩ = some (.slice (some ⟨gb, 0, none⟩) T cb) ∧ w'.cell? ⟨gb, e.f0.toNat, none⟩ = some (.slice A bt.length c) ∧ w'.cell? ⟨ge, 0, none⟩ = some (.int .i64 e.f0) ∧ w'.cell? ⟨ge, 1, none⟩ = some (.int .i64 e.f1) ∧ w'.cell? ⟨ge, 2, none⟩ = some (.int .i64 e.f2) ∧ w'.cell? ⟨ge, 3, none⟩ = some (.int .i64 e.f3) ∧ w'.cell? ⟨ge, 4, none⟩ = some (.int .i64 e.f4) ∧ w'.cell? ⟨ge, 5, none⟩ = some (.slice E5 e.f5.length n5) ∧ w'.cell? ⟨ge, 6, none⟩ = some (.slice E6 e.f6.length n6)) (ds := [21]) #[false, false, false, false, false, false, false, false, false, false, false, false, false, false, false, false, false, false, false, false, false, false] (by kernel_rfl) rfl rfl (by rw [HW1.out]; exact ⟨hv1, he1, hg0, hg1, hg2, hg3, hg4, hg5, hg6⟩) (fun hHeld => ?_)
   rw [HW1.out] at hHeld ⊢
   clear HW1
   refine pure_ (i := 0) (N := some 49) (v := ?_) (a' := ?_) #[true, false, false, false, false, false, false, false, false, false, false, false, false, false, false, false, false, false, false, false, false, false] rfl rfl (by kernel_rfl) (fun _ _ _ h => h) (Or.inl ⟨by rfl, ?_⟩) ?_ ?_
   rotate_left
   ·
    intro w'
    go_simp
    with_reducible rfl
   rotate_left
   ·
    simp only [Act.put, List.setIfInBounds_toArray, List.set_cons_zero, List.set_cons_succ, i64_w, i32_w]
    rfl
   refine pure_ (i := 1) (N := some 50) (v := ?_) (a' := ?_) #[true, true, false, false, false, false, false, false, false, false, false, false, false, false, false, false, false, false, false, false, false, false] rfl rfl (by kernel_rfl) (fun _ _ _ h => h) (Or.inl ⟨by rfl, ?_⟩) ?_ ?_
   rotate_left
   ·
    intro w'
    go_simp
    with_reducible rfl
   rotate_left
   ·
    simp only [Act.put, List.setIfInBounds_toArray, List.set_cons_zero, List.set_cons_succ, i64_w, i32_w]
    rfl
   refine pure_ (i := 2) (N := some 51) (v := ?_) (a' := ?_) #[true, true, true, false, false, false, false, false, false, false, false, false, false, false, false, false, false, false, false, false, false, false] rfl rfl (by kernel_rfl) (fun _ _ _ h => h) (Or.inl ⟨by rfl, ?_⟩) ?_ ?_
   rotate_left
   ·
    intro w'
    go_simp
    with_reducible rfl
   rotate_left
   ·
    simp only [Act.put, List.setIfInBounds_toArray, List.set_cons_zero, List.set_cons_succ, i64_w, i32_w]
    rfl
   refine pure_ (i := 4) (N := some 53) (v := ?_) (a' := ?_) #[true, true, true, false, true, false, false, false, false, false, false, false, false, false, false, false, false, false, false, false, false, false] rfl rfl (by kernel_rfl) (fun _ _ _ h => h) (Or.inl ⟨by rfl, ?_⟩) ?_ ?_
   rotate_left
   ·
    intro w'
    go_simp
    with_reducible rfl
   rotate_left
   ·
    simp only [Act.put, List.setIfInBounds_toArray, List.set_cons_zero, List.set_cons_succ, i64_w, i32_w]
    rfl
   refine pure_ (i := 6) (N := some 55) (v := ?_) (a' := ?_) #[true, true, true, false, true, false, true, false, false, false, false, false, false, false, false, false, false, false, false, false, false, false] rfl rfl (by kernel_rfl) (fun _ _ _ h => h) (Or.inl ⟨by rfl, ?_⟩) ?_ ?_
   rotate_left
   ·
    intro w'
    go_simp
    with_reducible rfl
   rotate_left
   ·
    simp only [Act.put, List.setIfInBounds_toArray, List.set_cons_zero, List.set_cons_succ, i64_w, i32_w]
    rfl
   refine pure_ (i := 7) (N := some 56) (v := ?_) (a' := ?_) #[true, true, true, false, true, false, true, true, false, false, false, false, false, false, false, false, false, false, false, false, false, false] rfl rfl (by kernel_rfl) (fun _ _ _ h => h) (Or.inl ⟨by rfl, ?_⟩) ?_ ?_
   rotate_left
   ·
    intro w'
    go_simp
    with_reducible rfl
   rotate_left
   ·
    simp only [Act.put, List.setIfInBounds_toArray, List.set_cons_zero, List.set_cons_succ, i64_w, i32_w]
    rfl
   refine pure_ (i := 8) (N := some 57) (v := ?_) (a' := ?_) #[true, true, true, false, true, false, true, true, true, false, false, false, false, false, false, false, false, false, false, false, false, false] rfl rfl (by kernel_rfl) (fun _ _ _ h => h) (Or.inl ⟨by rfl, ?_⟩) ?_ ?_
   rotate_left
   ·
    intro w'
    go_simp
    with_reducible rfl
   rotate_left
   ·
    simp only [Act.put, List.setIfInBounds_toArray, List.set_cons_zero, List.set_cons_succ, i64_w, i32_w]
    rfl
   refine pure_ (i := 10) (N := some 59) (v := ?_) (a' := ?_) #[true, true, true, false, true, false, true, true, true, false, true, false, false, false, false, false, false, false, false, false, false, false] rfl rfl (by kernel_rfl) (fun _ _ _ h => h) (Or.inl ⟨by rfl, ?_⟩) ?_ ?_
   rotate_left
   ·
    intro w'
    go_simp
    with_reducible rfl
   rotate_left
   ·
    simp only [Act.put, List.setIfInBounds_toArray, List.set_cons_zero, List.set_cons_succ, i64_w, i32_w]
    rfl
   refine pure_ (i := 14) (N := some 63) (v := ?_) (a' := ?_) #[true, true, true, false, true, false, true, true, true, false, true, false, false, false, true, false, false, false, false, false, false, false] rfl rfl (by kernel_rfl) (fun _ _ _ h => h) (Or.inl ⟨by rfl, ?_⟩) ?_ ?_
   rotate_left
   ·
    intro w'
    go_simp
    with_reducible rfl
   rotate_left
   ·
    simp only [Act.put, List.setIfInBounds_toArray, List.set_cons_zero, List.set_cons_succ, i64_w, i32_w]
    rfl
   refine pure_ (i := 15) (N := some 64) (v := ?_) (a' := ?_) #[true, true, true, false, true, false, true, true, true, false, true, false, false, false, true, true, false, false, false, false, false, false] rfl rfl (by kernel_rfl) (fun _ _ _ h => h) (Or.inl ⟨by rfl, ?_⟩) ?_ ?_
   rotate_left
   ·
    intro w'
    go_simp
    with_reducible rfl
   rotate_left
   ·
    simp only [Act.put, List.setIfInBounds_toArray, List.set_cons_zero, List.set_cons_succ, i64_w, i32_w]
    rfl
   refine take_ (i := 3) (N := some 52) (v := ?_) (a' := ?_) #[true, true, true, true, true, false, true, true, true, false, true, false, false, false, true, true, false, false, false, false, false, false] rfl rfl (by kernel_rfl) (fun _ _ _ h => h) (Or.inl ⟨by rfl, ?_⟩) hHeld ?_ ?_
   rotate_left
   ·
    rintro w' ⟨s0, s1, s2, s3, s4, s5, s6, s7, s8⟩
    go_simp
    with_reducible rfl
   rotate_left
   ·
    simp only [Act.put, List.setIfInBounds_toArray, List.set_cons_zero, List.set_cons_succ, i64_w, i32_w]
    rfl
   refine take_ (i := 5) (N := some 54) (v := ?_) (a' := ?_) #[true, true, true, true, true, true, true, true, true, false, true, false, false, false, true, true, false, false, false, false, false, false] rfl rfl (by kernel_rfl) (fun _ _ _ h => h) (Or.inl ⟨by rfl, ?_⟩) hHeld ?_ ?_
   rotate_left
   ·
    rintro w' ⟨s0, s1, s2, s3, s4, s5, s6, s7, s8⟩
    go_simp
    with_reducible rfl
   rotate_left
   ·
    simp only [Act.put, List.setIfInBounds_toArray, List.set_cons_zero, List.set_cons_succ, i64_w, i32_w]
    rfl
   refine take_ (i := 9) (N := some 58) (v := ?_) (a' := ?_) #[true, true, true, true, true, true, true, true, true, true, true, false, false, false, true, true, false, false, false, false, false, false] rfl rfl (by kernel_rfl) (fun _ _ _ h => h) (Or.inl ⟨by rfl, ?_⟩) hHeld ?_ ?_
   rotate_left
   ·
    rintro w' ⟨s0, s1, s2, s3, s4, s5, s6, s7, s8⟩
    go_simp
    with_reducible rfl
   rotate_left
   ·
    simp only [Act.put, List.setIfInBounds_toArray, List.set_cons_zero, List.set_cons_succ, i64_w, i32_w]
    rfl
   refine take_ (i := 11) (N := some 60) (v := ?_) (a' := ?_) #[true, true, true, true, true, true, true, true, true, true, true, true, false, false, true, true, false, false, false, false, false, false] rfl rfl (by kernel_rfl) (fun _ _ _ h => h) (Or.inl ⟨by rfl, ?_⟩) hHeld ?_ ?_
   rotate_left
   ·
    rintro w' ⟨s0, s1, s2, s3, s4, s5, s6, s7, s8⟩
    go_simp
    with_reducible rfl
   rotate_left
   ·
    simp only [Act.put, List.setIfInBounds_toArray, List.set_cons_zero, List.set_cons_succ, i64_w, i32_w]
    rfl
   refine pure_ (i := 12) (N := some 61) (v := ?_) (a' := ?_) #[true, true, true, true, true, true, true, true, true, true, true, true, true, false, true, true, false, false, false, false, false, false] rfl rfl (by kernel_rfl) (fun _ _ _ h => h) (Or.inl ⟨by rfl, ?_⟩) ?_ ?_
   rotate_left
   ·
    intro w'
    go_simp
    with_reducible rfl
   rotate_left
   ·
    simp only [Act.put, List.setIfInBounds_toArray, List.set_cons_zero, List.set_cons_succ, i64_w, i32_w]
    rfl
   refine take_ (i := 13) (N := some 62) (v := ?_) (a' := ?_) #[true, true, true, true, true, true, true, true, true, true, true, true, true, true, true, true, false, false, false, false, false, false] rfl rfl (by kernel_rfl) (fun _ _ _ h => h) (Or.inl ⟨by rfl, ?_⟩) hHeld ?_ ?_
   rotate_left
   ·
    rintro w' ⟨s0, s1, s2, s3, s4, s5, s6, s7, s8⟩
    go_simp
    with_reducible rfl
   rotate_left
   ·
    simp only [Act.put, List.setIfInBounds_toArray, List.set_cons_zero, List.set_cons_succ, i64_w, i32_w]
    rfl
   refine take_ (i := 16) (N := some 65) (v := ?_) (a' := ?_) #[true, true, true, true, true, true, true, true, true, true, true, true, true, true, true, true, true, false, false, false, false, false] rfl rfl (by kernel_rfl) (fun _ _ _ h => h) (Or.inl ⟨by rfl, ?_⟩) hHeld ?_ ?_
   rotate_left
   ·
    rintro w' ⟨s0, s1, s2, s3, s4, s5, s6, s7, s8⟩
    go_simp
    with_reducible rfl
   rotate_left
   ·
    simp only [Act.put, List.setIfInBounds_toArray, List.set_cons_zero, List.set_cons_succ, i64_w, i32_w]
    rfl
   refine pure_ (i := 17) (N := some 66) (v := ?_) (a' := ?_) #[true, true, true, true, true, true, true, true, true, true, true, true, true, true, true, true, true, true, false, false, false, false] rfl rfl (by kernel_rfl) (fun _ _ _ h => h) (Or.inl ⟨by rfl, ?_⟩) ?_ ?_
   rotate_left
   ·
    intro w'
    go_simp
    with_reducible rfl
   rotate_left
   ·
    simp only [Act.put, List.setIfInBounds_toArray, List.set_cons_zero, List.set_cons_succ, i64_w, i32_w]
    rfl
   refine one_ (i := 18) (N := some 67) #[true, true, true, true, true, true, true, true, true, true, true, true, true, true, true, true, true, true, true, false, false, false] rfl rfl (by kernel_rfl) (by decide) (fun K hK => ?_)
   refine value_ (w1 := ?_) (v := ?_) (by rfl) rfl ?_ ?_
   rotate_left 2
   ·
    go_simp
    constructor
    ·
     rfl
    ·
     rfl
   refine hK.out _ _ ⟨(ow_alc hv1 _), (ow_alc he1 _), (ow_alc hg0 _), (ow_alc hg1 _), (ow_alc hg2 _), (ow_alc hg3 _), (ow_alc hg4 _), (ow_alc hg5 _), (ow_alc hg6 _)⟩ (fun hHeld => ?_)
   clear hK K
   refine norm_ (a' := ?_) ?_ ?_
   rotate_left
   ·
    show Act.put _ (some 67) _ = _
    simp only [Act.put, List.setIfInBounds_toArray, List.set_cons_zero, List.set_cons_succ, i64_w, i32_w]
    rfl
   refine one_ (i := 19) (N := some 68) #[true, true, true, true, true, true, true, true, true, true, true, true, true, true, true, true, true, true, true, true, false, false] rfl rfl (by kernel_rfl) (by decide) (fun K hK => ?_)
   refine Kd.R_append_step (Kd.fixed k26 w0) (w0 := w0) w0.heap.size (by rfl) (.tmp 62) (.tmp 67) 40 26 (.agg #[(.int .i64 0), (.int .i64 0), (.int .i64 0), (.int .i64 0), (.int .i64 0), (.int .i64 0), (.slice none 0 0), (.slice none 0 0)]) 96 rfl Try.underlying40 info26 rfl (by show 0 < 8; decide) (by omega) _ bt ⟨(i : Int), e⟩ [.int .i64 (i : Int), .int .i64 e.f0, .int .i64 e.f1, .int .i64 e.f2, .int .i64 e.f3, .int .i64 e.f4, .slice E5 e.f5.length n5, .slice E6 e.f6.length n6] (fun k => oki k ∨ W1.heap.size ≤ k) (fun _ => False) rfl rfl (k26_mk w0 ⟨(i : Int), e⟩ HE5.out.1 HE5.out.2 HE6.out.1 HE6.out.2) (fun _ h => h.elim) (fun k hk => .inr hk) (Kd.R_mono HER.out (fun k hk => .inl hk)) HS1.out.B HS1.out.B.size (by have := HLM.out; omega) ?_
   intro v3 w3 hr3 hb3 hg3 hat3
   obtain ⟨A3, c3, e3⟩ := Kd.R_slice hr3
   rw [List.length_append, List.length_singleton] at e3
   subst e3
   have HR3 := am hr3
   have HB3 := am hb3
   have HG3 := am hg3
   have hx0 := ((ow_same (hg3.block gx (blk_lt HS1.out.x) (ow_unlike HS1.out.x (Kd.R_typed HER.out) (by decide)))).1).trans HV1.out
   obtain ⟨hx1, hx2⟩ := ow_same (W := W1) (w1 := w3) (g := gb) (i := e.f0.toNat) (hg3.block gb (blk_lt (HS1.out.typ.1).choose_spec) (ow_unlike (HS1.out.typ.1).choose_spec (Kd.R_typed HER.out) (by decide)))
   rw [HSC.out.1] at hx1
   rw [HSC.out.2] at hx2
   have hy0 := ((ow_same (i := 0) (hg3.block ge (blk_lt HGE.out) (ow_unlike HGE.out (Kd.R_typed HER.out) (by decide)))).1).trans ((blk_cell HGE.out 0).trans rfl)
   have hy1 := ((ow_same (i := 1) (hg3.block ge (blk_lt HGE.out) (ow_unlike HGE.out (Kd.R_typed HER.out) (by decide)))).1).trans ((blk_cell HGE.out 1).trans rfl)
   have hy2 := ((ow_same (i := 2) (hg3.block ge (blk_lt HGE.out) (ow_unlike HGE.out (Kd.R_typed HER.out) (by decide)))).1).trans ((blk_cell HGE.out 2).trans rfl)
   have hy3 := ((ow_same (i := 3) (hg3.block ge (blk_lt HGE.out) (ow_unlike HGE.out (Kd.R_typed HER.out) (by decide)))).1).trans ((blk_cell HGE.out 3).trans rfl)
   have hy4 := ((ow_same (i := 4) (hg3.block ge (blk_lt HGE.out) (ow_unlike HGE.out (Kd.R_typed HER.out) (by decide)))).1).trans ((blk_cell HGE.out 4).trans rfl)
   have hy5 := ((ow_same (i := 5) (hg3.block ge (blk_lt HGE.out) (ow_unlike HGE.out (Kd.R_typed HER.out) (by decide)))).1).trans ((blk_cell HGE.out 5).trans rfl)
   have hy6 := ((ow_same (i := 6) (hg3.block ge (blk_lt HGE.out) (ow_unlike HGE.out (Kd.R_typed HER.out) (by decide)))).1).trans ((blk_cell HGE.out 6).trans rfl)
   clear hr3 hb3 hg3 hat3
   refine hK.out _ _ ⟨hx0, hx1, hy0, hy1, hy2, hy3, hy4, hy5, hy6⟩ (fun hHeld => ?_)
   clear hK K
   refine norm_ (a' := ?_) ?_ ?_
   rotate_left
   ·
    show Act.put _ (some 68) _ = _
    simp only [Act.put, List.setIfInBounds_toArray, List.set_cons_zero, List.set_cons_succ, i64_w, i32_w]
    rfl
   refine pure_ (i := 20) (N := some 69) (v := ?_) (a' := ?_) #[true, true, true, true, true, true, true, true, true, true, true, true, true, true, true, true, true, true, true, true, true, false] rfl rfl (by kernel_rfl) (fun _ _ _ h => h) (Or.inl ⟨by rfl, ?_⟩) ?_ ?_
   rotate_left
   ·
    intro w'
    go_simp
    with_reducible rfl
   rotate_left
   ·
    simp only [Act.put, List.setIfInBounds_toArray, List.set_cons_zero, List.set_cons_succ, i64_w, i32_w]
    rfl
   refine last_ (i := 21) (N := none) #[true, true, true, true, true, true, true, true, true, true, true, true, true, true, true, true, true, true, true, true, true, true] rfl rfl (by kernel_rfl) (by decide) (fun K hK => ?_)
   refine skip_ (w1 := ?_) (by rfl) rfl ?_ ?_
   rotate_left
   ·
    go_simp
    rfl
   refine hK.out _ _ ?_
   clear hK K
   refine done_ (by kernel_rfl) ?_
   clear hHeld
   have HS4 := am (HS1.out.setB HEH.out HT.out.1 HT.out.2 HNE.out HG3.out HB3.out (by rw [HBT.out]; exact HER.out) HR3.out)
   have HGE4 := am (blk_far (blk_grown HGE.out HG3.out (ow_unlike HGE.out (Kd.R_typed HER.out) (by decide))) (p := ⟨gb, e.f0.toNat, none⟩) (blk_ne HGE.out (HS1.out.typ.1).choose_spec (by decide)) (.slice A3 (bt.length + 1) c3))
   generalize w3.setCell ⟨gb, e.f0.toNat, none⟩ (.slice A3 (bt.length + 1) c3) = w4 at HS4 HGE4 ⊢
   obtain ⟨bn, hbn⟩ : ∃ bn, bt ++ [(⟨(i : Int), e⟩ : S26)] = bn := ⟨_, rfl⟩
   have h := HHA.out
   rw [hbn] at h HS4
   have HBN := am hbn
   clear HS1 HEH HNE HG3 HB3 HER HR3 HSC HV1 HHA HGE hbn hv1 he1 hg0 hg1 hg2 hg3 hg4 hg5 hg6 hsw1 hsw2
   try go_wp2
   generalize hW4 : w4.drew = W4
   replace HGE4 := am (show w4.drew.heap[ge]? = _ from HGE4.out)
   replace HS4 := am HS4.out.drew
   rw [hW4] at HGE4 HS4
   obtain ⟨ok6, A6, c6, he1, -, -, -, -⟩ := ow_elem HS4.out.b e.f0 HT.out.1 HT.out.2
   have hse : (b.set e.f0.toNat bn).getD e.f0.toNat [] = bn := by
    have hl := HS4.out.len.1
    have ht := HT.out
    rw [List.length_set] at hl
    rw [List.getD_eq_getElem?_getD, List.getElem?_set_self (by omega)]
    rfl
   rw [hse] at he1
   obtain ⟨hv1, -, -, -, -⟩ := HS4.out.cells HT.out.1 HT.out.2
   have hcp := (HS4.out.B.cell (World.block_lt_of_cell? w0 _ HP0.out.1)).trans HP0.out.1
   have hg0 : W4.cell? ⟨ge, 0, none⟩ = some (.int .i64 e.f0) := (blk_cell HGE4.out 0).trans rfl
   have hg1 : W4.cell? ⟨ge, 1, none⟩ = some (.int .i64 e.f1) := (blk_cell HGE4.out 1).trans rfl
   have HW4 := am hW4
   clear hW4 hse
   have HC : Aside0 (((bn.length : Int) == cap) = true ∧ wrF j11_Encode.f k e.f0 (b.set e.f0.toNat bn) z s = some qa ∨ ((bn.length : Int) == cap) = false ∧ ((e.f1 == 2) = true ∧ wrF j11_Encode.f k e.f0 (b.set e.f0.toNat bn) z s = some qa ∨ (e.f1 == 2) = false ∧ (b.set e.f0.toNat bn, z, s) = qa)) := ⟨by
    by_cases x1 : (bn.length : Int) = cap
    ·
     rw [if_pos (.inl x1)] at h
     exact .inl ⟨by simpa using x1, h⟩
    refine .inr ⟨by simpa using x1, ?_⟩
    by_cases x2 : e.f1 = 2
    ·
     rw [if_pos (.inr x2)] at h
     exact .inl ⟨by simpa using x2, h⟩
    rw [if_neg (by simp [x1, x2])] at h
    exact .inr ⟨by simpa using x2, Option.some.inj h⟩⟩
   clear h
   rcases HC.out with ⟨k1, h⟩ | ⟨k1, ⟨k2, h⟩ | ⟨k2, h⟩⟩
   ·
    have HH2 := am h
    clear h HC
    refine start_ (n := 17) (S := fun w' => w'.cell? ⟨gx, 0, none⟩ = some (.slice (some ⟨gb, 0, none⟩) T cb) ∧ w'.cell? ⟨gb, e.f0.toNat, none⟩ = some (.slice A6 bn.length c6) ∧ w'.cell? ⟨gp, 0, none⟩ = some (.int .i64 cap) ∧ w'.cell? ⟨ge, 0, none⟩ = some (.int .i64 e.f0) ∧ w'.cell? ⟨ge, 1, none⟩ = some (.int .i64 e.f1)) (ds := []) #[false, false, false, false, false, false, false, false, false, false, false, false, false, false, false, false, false] (by kernel_rfl) rfl rfl y35 (fun hHeld => ?_)
    rw [HW4.out] at hHeld ⊢
    clear HW4
    refine pure_ (i := 0) (N := some 70) (v := ?_) (a' := ?_) #[true, false, false, false, false, false, false, false, false, false, false, false, false, false, false, false, false] rfl rfl (by kernel_rfl) (fun _ _ _ h => h) (Or.inl ⟨by rfl, ?_⟩) ?_ ?_
    rotate_left
    ·
     intro w'
     go_simp
     with_reducible rfl
    rotate_left
    ·
     simp only [Act.put, List.setIfInBounds_toArray, List.set_cons_zero, List.set_cons_succ, i64_w, i32_w]
     rfl
    refine pure_ (i := 1) (N := some 71) (v := ?_) (a' := ?_) #[true, true, false, false, false, false, false, false, false, false, false, false, false, false, false, false, false] rfl rfl (by kernel_rfl) (fun _ _ _ h => h) (Or.inl ⟨by rfl, ?_⟩) ?_ ?_
    rotate_left
    ·
     intro w'
     go_simp
     with_reducible rfl
    rotate_left
    ·
     simp only [Act.put, List.setIfInBounds_toArray, List.set_cons_zero, List.set_cons_succ, i64_w, i32_w]
     rfl
    refine pure_ (i := 2) (N := some 72) (v := ?_) (a' := ?_) #[true, true, true, false, false, false, false, false, false, false, false, false, false, false, false, false, false] rfl rfl (by kernel_rfl) (fun _ _ _ h => h) (Or.inl ⟨by rfl, ?_⟩) ?_ ?_
    rotate_left
    ·
     intro w'
     go_simp
     with_reducible rfl
    rotate_left
    ·
     simp only [Act.put, List.setIfInBounds_toArray, List.set_cons_zero, List.set_cons_succ, i64_w, i32_w]
     rfl
    refine pure_ (i := 4) (N := some 74) (v := ?_) (a' := ?_) #[true, true, true, false, true, false, false, false, false, false, false, false, false, false, false, false, false] rfl rfl (by kernel_rfl) (fun _ _ _ h => h) (Or.inl ⟨by rfl, ?_⟩) ?_ ?_
    rotate_left
    ·
     intro w'
     go_simp
     with_reducible rfl
    rotate_left
    ·
     simp only [Act.put, List.setIfInBounds_toArray, List.set_cons_zero, List.set_cons_succ, i64_w, i32_w]
     rfl
    refine pure_ (i := 9) (N := some 79) (v := ?_) (a' := ?_) #[true, true, true, false, true, false, false, false, false, true, false, false, false, false, false, false, false] rfl rfl (by kernel_rfl) (fun _ _ _ h => h) (Or.inl ⟨by rfl, ?_⟩) ?_ ?_
    rotate_left
    ·
     intro w'
     go_simp
     with_reducible rfl
    rotate_left
    ·
     simp only [Act.put, List.setIfInBounds_toArray, List.set_cons_zero, List.set_cons_succ, i64_w, i32_w]
     rfl
    refine take_ (i := 3) (N := some 73) (v := ?_) (a' := ?_) #[true, true, true, true, true, false, false, false, false, true, false, false, false, false, false, false, false] rfl rfl (by kernel_rfl) (fun _ _ _ h => h) (Or.inl ⟨by rfl, ?_⟩) hHeld ?_ ?_
    rotate_left
    ·
     rintro w' ⟨s0, s1, s2, s3, s4⟩
     go_simp
     with_reducible rfl
    rotate_left
    ·
     simp only [Act.put, List.setIfInBounds_toArray, List.set_cons_zero, List.set_cons_succ, i64_w, i32_w]
     rfl
    refine take_ (i := 5) (N := some 75) (v := ?_) (a' := ?_) #[true, true, true, true, true, true, false, false, false, true, false, false, false, false, false, false, false] rfl rfl (by kernel_rfl) (fun _ _ _ h => h) (Or.inl ⟨by rfl, ?_⟩) hHeld ?_ ?_
    rotate_left
    ·
     rintro w' ⟨s0, s1, s2, s3, s4⟩
     go_simp
     with_reducible rfl
    rotate_left
    ·
     simp only [Act.put, List.setIfInBounds_toArray, List.set_cons_zero, List.set_cons_succ, i64_w, i32_w]
     rfl
    refine pure_ (i := 6) (N := some 76) (v := ?_) (a' := ?_) #[true, true, true, true, true, true, true, false, false, true, false, false, false, false, false, false, false] rfl rfl (by kernel_rfl) (fun _ _ _ h => h) (Or.inl ⟨by rfl, ?_⟩) ?_ ?_
    rotate_left
    ·
     intro w'
     go_simp
     with_reducible rfl
    rotate_left
    ·
     simp only [Act.put, List.setIfInBounds_toArray, List.set_cons_zero, List.set_cons_succ, i64_w, i32_w]
     rfl
    refine take_ (i := 7) (N := some 77) (v := ?_) (a' := ?_) #[true, true, true, true, true, true, true, true, false, true, false, false, false, false, false, false, false] rfl rfl (by kernel_rfl) (fun _ _ _ h => h) (Or.inl ⟨by rfl, ?_⟩) hHeld ?_ ?_
    rotate_left
    ·
     rintro w' ⟨s0, s1, s2, s3, s4⟩
     go_simp
     with_reducible rfl
    rotate_left
    ·
     simp only [Act.put, List.setIfInBounds_toArray, List.set_cons_zero, List.set_cons_succ, i64_w, i32_w]
     rfl
    refine pure_ (i := 8) (N := some 78) (v := ?_) (a' := ?_) #[true, true, true, true, true, true, true, true, true, true, false, false, false, false, false, false, false] rfl rfl (by kernel_rfl) (fun _ _ _ h => h) (Or.inl ⟨by rfl, ?_⟩) ?_ ?_
    rotate_left
    ·
     intro w'
     go_simp
     with_reducible rfl
    rotate_left
    ·
     simp only [Act.put, List.setIfInBounds_toArray, List.set_cons_zero, List.set_cons_succ, i64_w, i32_w]
     rfl
    refine take_ (i := 10) (N := some 80) (v := ?_) (a' := ?_) #[true, true, true, true, true, true, true, true, true, true, true, false, false, false, false, false, false] rfl rfl (by kernel_rfl) (fun _ _ _ h => h) (Or.inl ⟨by rfl, ?_⟩) hHeld ?_ ?_
    rotate_left
    ·
     rintro w' ⟨s0, s1, s2, s3, s4⟩
     go_simp
     with_reducible rfl
    rotate_left
    ·
     simp only [Act.put, List.setIfInBounds_toArray, List.set_cons_zero, List.set_cons_succ, i64_w, i32_w]
     rfl
    refine pure_ (i := 11) (N := some 81) (v := ?_) (a' := ?_) #[true, true, true, true, true, true, true, true, true, true, true, true, false, false, false, false, false] rfl rfl (by kernel_rfl) (fun _ _ _ h => h) (Or.inl ⟨by rfl, ?_⟩) ?_ ?_
    rotate_left
    ·
     intro w'
     go_simp
     with_reducible rfl
    rotate_left
    ·
     simp only [Act.put, List.setIfInBounds_toArray, List.set_cons_zero, List.set_cons_succ, i64_w, i32_w]
     rfl
    refine pure_ (i := 12) (N := some 82) (v := ?_) (a' := ?_) #[true, true, true, true, true, true, true, true, true, true, true, true, true, false, false, false, false] rfl rfl (by kernel_rfl) (fun _ _ _ h => h) (Or.inl ⟨by rfl, ?_⟩) ?_ ?_
    rotate_left
    ·
     intro w'
     go_simp
     with_reducible rfl
    rotate_left
    ·
     simp only [Act.put, List.setIfInBounds_toArray, List.set_cons_zero, List.set_cons_succ, i64_w, i32_w]
     rfl
    refine pure_ (i := 13) (N := some 83) (v := undef) (a' := ?_) #[true, true, true, true, true, true, true, true, true, true, true, true, true, true, false, false, false] rfl rfl (by kernel_rfl) (fun _ _ _ h => h) (Or.inr ⟨by rfl, rfl⟩) ?_ ?_
    rotate_left
    ·
     simp only [Act.put, List.setIfInBounds_toArray, List.set_cons_zero, List.set_cons_succ, i64_w, i32_w]
     rfl
    refine pure_ (i := 14) (N := some 84) (v := undef) (a' := ?_) #[true, true, true, true, true, true, true, true, true, true, true, true, true, true, true, false, false] rfl rfl (by kernel_rfl) (fun _ _ _ h => h) (Or.inr ⟨by rfl, rfl⟩) ?_ ?_
    rotate_left
    ·
     simp only [Act.put, List.setIfInBounds_toArray, List.set_cons_zero, List.set_cons_succ, i64_w, i32_w]
     rfl
    refine pure_ (i := 15) (N := some 85) (v := undef) (a' := ?_) #[true, true, true, true, true, true, true, true, true, true, true, true, true, true, true, true, false] rfl rfl (by kernel_rfl) (fun _ _ _ h => h) (Or.inr ⟨by rfl, rfl⟩) ?_ ?_
    rotate_left
    ·
     simp only [Act.put, List.setIfInBounds_toArray, List.set_cons_zero, List.set_cons_succ, i64_w, i32_w]
     rfl
    refine pure_ (i := 16) (N := some 86) (v := ?_) (a' := ?_) #[true, true, true, true, true, true, true, true, true, true, true, true, true, true, true, true, true] rfl rfl (by kernel_rfl) (fun _ _ _ h => h) (Or.inl ⟨by rfl, ?_⟩) ?_ ?_
    rotate_left
    ·
     intro w'
     go_simp
     with_reducible rfl
    rotate_left
    ·
     simp only [Act.put, List.setIfInBounds_toArray, List.set_cons_zero, List.set_cons_succ, i64_w, i32_w]
     rfl
    refine done_ (by kernel_rfl) ?_
    clear hHeld
    go_wp2_with (go_at_call 62; refine (j14_writer.write k e.f0 w0 _ gx T _ z s gb cb gf cf gs cs qa HS4.out HT.out.1 HT.out.2 HH2.out).mono ?_; rintro e' w6 ⟨rfl, hS⟩; have HSB := am hS; clear hS HS4 HGE4 hv1 he1 hcp hg0 hg1 k1 HH2 HBT HLM)
    go_loopw [12] (fun v wr => ∃ (m : Nat) (b : List (List S26)) (z : List Int) (s : List (List Int)), v = .int .i64 (m : Int) ∧ m ≤ fl.length ∧ Aside0 (flF j11_Encode.f k ((i : Int) + 1) (fl.drop m) b z s = some qb) ∧ Aside0 (j14_writer.St w0 gx T b z s gb cb gf cf gs cs wr)) (fun v _ => fl.length - (intOf v).toNat)
    case atStart => exact ⟨0, _, _, _, rfl, Nat.zero_le _, HQB, HSB⟩
    case round =>
     clear HQB HSB
     obtain ⟨m, b2, z2, s2, rfl, hmm, HR2, HS2⟩ := hrel
     have hq1 := (HS2.out.B.cell (World.block_lt_of_cell? w0 _ HP0.out.2.1)).trans HP0.out.2.1
     by_cases hlt : m < fl.length
     rotate_left
     ·
      have hr := HR2.out
      rw [List.drop_of_length_le (by omega)] at hr
      unfold flF at hr
      have HE := am (Option.some.inj hr)
      clear hr
      go_wp2
      have he := HE.out
      subst he
      have hj9 := HJ.out
      exact y18
     have hr := HR2.out
     rw [List.drop_eq_getElem_cons hlt] at hr
     unfold flF at hr
     obtain ⟨f, hf⟩ : ∃ f, fl[m] = f := ⟨_, rfl⟩
     rw [hf] at hr
     obtain ⟨ad, rfl, hx0, hx1⟩ := at_T57 HRF0.out (m : Int) (by omega) (by omega)
     rw [show rd_T57 fl (m : Int) = f from by rw [← hf]; simp [rd_T57, List.getD_eq_getElem?_getD, List.getElem?_eq_getElem hlt]] at hx0 hx1
     have hy0 := (HS2.out.B.cell (World.block_lt_of_cell? w0 _ hx0)).trans hx0
     have hy1 := (HS2.out.B.cell (World.block_lt_of_cell? w0 _ hx1)).trans hx1
     rw [Int.toNat_natCast] at hy0 hy1
     have hm8 : fl.length ≤ 9223372036854775807 := HRF0.out.2.1
     have HCC2 : Aside0 ((f.f0 == (i : Int) + 1) = false ∧ flF j11_Encode.f k ((i : Int) + 1) (fl.drop (m + 1)) b2 z2 s2 = some qb ∨ (f.f0 == (i : Int) + 1) = true ∧ 0 ≤ f.f1 ∧ f.f1 < (b2.length : Int) ∧ ∃ q, wrF j11_Encode.f k f.f1 b2 z2 s2 = some q ∧ flF j11_Encode.f k ((i : Int) + 1) (fl.drop (m + 1)) q.1 q.2.1 q.2.2 = some qb) := ⟨by
      by_cases x1 : f.f0 = (i : Int) + 1
      ·
       rw [if_pos x1] at hr
       by_cases x2 : 0 ≤ f.f1 ∧ f.f1 < (b2.length : Int)
       ·
        rw [if_pos x2] at hr
        obtain ⟨q, hq, hr⟩ := Option.bind_eq_some_iff.mp hr
        exact .inr ⟨beq_iff_eq.mpr x1, x2.1, x2.2, q, hq, hr⟩
       ·
        rw [if_neg x2] at hr
        cases hr
      ·
       rw [if_neg x1] at hr
       exact .inl ⟨beq_eq_false_iff_ne.mpr x1, hr⟩⟩
     clear hx0 hx1 hf hmm hr HR2
     rcases HCC2.out with ⟨k1, h⟩ | ⟨k1, h0, h1, q, hq, h⟩
     ·
      have HQ9 := am h
      clear HCC2 h
      go_wp2
      go_roundw
      case rel => exact y38
      case measure => simp [intOf]; omega
     ·
      have HQ9 := am h
      have HQ8 := am hq
      have HT9 := am (And.intro h0 (show f.f1 < (T : Int) by rw [HS2.out.len.1]; exact h1))
      clear HCC2 h hq h0 h1
      go_wp2_with (go_at_call 62; refine (j14_writer.write k f.f1 w0 _ gx T b2 z2 s2 gb cb gf cf gs cs q HS2.out HT9.out.1 HT9.out.2 HQ8.out).mono ?_; rintro e' w9 ⟨rfl, hS⟩; have HS9 := am hS; clear hS)
      go_roundw
      case rel => exact y36
      case measure => simp [intOf]; omega
   ·
    have HH2 := am h
    clear h HC
    refine start_ (n := 17) (S := fun w' => w'.cell? ⟨gx, 0, none⟩ = some (.slice (some ⟨gb, 0, none⟩) T cb) ∧ w'.cell? ⟨gb, e.f0.toNat, none⟩ = some (.slice A6 bn.length c6) ∧ w'.cell? ⟨gp, 0, none⟩ = some (.int .i64 cap) ∧ w'.cell? ⟨ge, 0, none⟩ = some (.int .i64 e.f0) ∧ w'.cell? ⟨ge, 1, none⟩ = some (.int .i64 e.f1)) (ds := []) #[false, false, false, false, false, false, false, false, false, false, false, false, false, false, false, false, false] (by kernel_rfl) rfl rfl y35 (fun hHeld => ?_)
    rw [HW4.out] at hHeld ⊢
    clear HW4
    refine pure_ (i := 0) (N := some 70) (v := ?_) (a' := ?_) #[true, false, false, false, false, false, false, false, false, false, false, false, false, false, false, false, false] rfl rfl (by kernel_rfl) (fun _ _ _ h => h) (Or.inl ⟨by rfl, ?_⟩) ?_ ?_
    rotate_left
    ·
     intro w'
     go_simp
     with_reducible rfl
    rotate_left
    ·
     simp only [Act.put, List.setIfInBounds_toArray, List.set_cons_zero, List.set_cons_succ, i64_w, i32_w]
     rfl
    refine pure_ (i := 1) (N := some 71) (v := ?_) (a' := ?_) #[true, true, false, false, false, false, false, false, false, false, false, false, false, false, false, false, false] rfl rfl (by kernel_rfl) (fun _ _ _ h => h) (Or.inl ⟨by rfl, ?_⟩) ?_ ?_
    rotate_left
    ·
     intro w'
     go_simp
     with_reducible rfl
    rotate_left
    ·
     simp only [Act.put, List.setIfInBounds_toArray, List.set_cons_zero, List.set_cons_succ, i64_w, i32_w]
     rfl
    refine pure_ (i := 2) (N := some 72) (v := ?_) (a' := ?_) #[true, true, true, false, false, false, false, false, false, false, false, false, false, false, false, false, false] rfl rfl (by kernel_rfl) (fun _ _ _ h => h) (Or.inl ⟨by rfl, ?_⟩) ?_ ?_
    rotate_left
    ·
     intro w'
     go_simp
     with_reducible rfl
    rotate_left
    ·
     simp only [Act.put, List.setIfInBounds_toArray, List.set_cons_zero, List.set_cons_succ, i64_w, i32_w]
     rfl
    refine pure_ (i := 4) (N := some 74) (v := ?_) (a' := ?_) #[true, true, true, false, true, false, false, false, false, false, false, false, false, false, false, false, false] rfl rfl (by kernel_rfl) (fun _ _ _ h => h) (Or.inl ⟨by rfl, ?_⟩) ?_ ?_
    rotate_left
    ·
     intro w'
     go_simp
     with_reducible rfl
    rotate_left
    ·
     simp only [Act.put, List.setIfInBounds_toArray, List.set_cons_zero, List.set_cons_succ, i64_w, i32_w]
     rfl
    refine pure_ (i := 9) (N := some 79) (v := ?_) (a' := ?_) #[true, true, true, false, true, false, false, false, false, true, false, false, false, false, false, false, false] rfl rfl (by kernel_rfl) (fun _ _ _ h => h) (Or.inl ⟨by rfl, ?_⟩) ?_ ?_
    rotate_left
    ·
     intro w'
     go_simp
     with_reducible rfl
    rotate_left
    ·
     simp only [Act.put, List.setIfInBounds_toArray, List.set_cons_zero, List.set_cons_succ, i64_w, i32_w]
     rfl
    refine take_ (i := 3) (N := some 73) (v := ?_) (a' := ?_) #[true, true, true, true, true, false, false, false, false, true, false, false, false, false, false, false, false] rfl rfl (by kernel_rfl) (fun _ _ _ h => h) (Or.inl ⟨by rfl, ?_⟩) hHeld ?_ ?_
    rotate_left
    ·
     rintro w' ⟨s0, s1, s2, s3, s4⟩
     go_simp
     with_reducible rfl
    rotate_left
    ·
     simp only [Act.put, List.setIfInBounds_toArray, List.set_cons_zero, List.set_cons_succ, i64_w, i32_w]
     rfl
    refine take_ (i := 5) (N := some 75) (v := ?_) (a' := ?_) #[true, true, true, true, true, true, false, false, false, true, false, false, false, false, false, false, false] rfl rfl (by kernel_rfl) (fun _ _ _ h => h) (Or.inl ⟨by rfl, ?_⟩) hHeld ?_ ?_
    rotate_left
    ·
     rintro w' ⟨s0, s1, s2, s3, s4⟩
     go_simp
     with_reducible rfl
    rotate_left
    ·
     simp only [Act.put, List.setIfInBounds_toArray, List.set_cons_zero, List.set_cons_succ, i64_w, i32_w]
     rfl
    refine pure_ (i := 6) (N := some 76) (v := ?_) (a' := ?_) #[true, true, true, true, true, true, true, false, false, true, false, false, false, false, false, false, false] rfl rfl (by kernel_rfl) (fun _ _ _ h => h) (Or.inl ⟨by rfl, ?_⟩) ?_ ?_
    rotate_left
    ·
     intro w'
     go_simp
     with_reducible rfl
    rotate_left
    ·
     simp only [Act.put, List.setIfInBounds_toArray, List.set_cons_zero, List.set_cons_succ, i64_w, i32_w]
     rfl
    refine take_ (i := 7) (N := some 77) (v := ?_) (a' := ?_) #[true, true, true, true, true, true, true, true, false, true, false, false, false, false, false, false, false] rfl rfl (by kernel_rfl) (fun _ _ _ h => h) (Or.inl ⟨by rfl, ?_⟩) hHeld ?_ ?_
    rotate_left
    ·
     rintro w' ⟨s0, s1, s2, s3, s4⟩
     go_simp
     with_reducible rfl
    rotate_left
    ·
     simp only [Act.put, List.setIfInBounds_toArray, List.set_cons_zero, List.set_cons_succ, i64_w, i32_w]
     rfl
    refine pure_ (i := 8) (N := some 78) (v := ?_) (a' := ?_) #[true, true, true, true, true, true, true, true, true, true, false, false, false, false, false, false, false] rfl rfl (by kernel_rfl) (fun _ _ _ h => h) (Or.inl ⟨by rfl, ?_⟩) ?_ ?_
    rotate_left
    ·
     intro w'
     go_simp
     with_reducible rfl
    rotate_left
    ·
     simp only [Act.put, List.setIfInBounds_toArray, List.set_cons_zero, List.set_cons_succ, i64_w, i32_w]
     rfl
    refine take_ (i := 10) (N := some 80) (v := ?_) (a' := ?_) #[true, true, true, true, true, true, true, true, true, true, true, false, false, false, false, false, false] rfl rfl (by kernel_rfl) (fun _ _ _ h => h) (Or.inl ⟨by rfl, ?_⟩) hHeld ?_ ?_
    rotate_left
    ·
     rintro w' ⟨s0, s1, s2, s3, s4⟩
     go_simp
     with_reducible rfl
    rotate_left
    ·
     simp only [Act.put, List.setIfInBounds_toArray, List.set_cons_zero, List.set_cons_succ, i64_w, i32_w]
     rfl
    refine pure_ (i := 11) (N := some 81) (v := ?_) (a' := ?_) #[true, true, true, true, true, true, true, true, true, true, true, true, false, false, false, false, false] rfl rfl (by kernel_rfl) (fun _ _ _ h => h) (Or.inl ⟨by rfl, ?_⟩) ?_ ?_
    rotate_left
    ·
     intro w'
     go_simp
     with_reducible rfl
    rotate_left
    ·
     simp only [Act.put, List.setIfInBounds_toArray, List.set_cons_zero, List.set_cons_succ, i64_w, i32_w]
     rfl
    refine pure_ (i := 12) (N := some 82) (v := ?_) (a' := ?_) #[true, true, true, true, true, true, true, true, true, true, true, true, true, false, false, false, false] rfl rfl (by kernel_rfl) (fun _ _ _ h => h) (Or.inl ⟨by rfl, ?_⟩) ?_ ?_
    rotate_left
    ·
     intro w'
     go_simp
     with_reducible rfl
    rotate_left
    ·
     simp only [Act.put, List.setIfInBounds_toArray, List.set_cons_zero, List.set_cons_succ, i64_w, i32_w]
     rfl
    refine pure_ (i := 13) (N := some 83) (v := ?_) (a' := ?_) #[true, true, true, true, true, true, true, true, true, true, true, true, true, true, false, false, false] rfl rfl (by kernel_rfl) (fun _ _ _ h => h) (Or.inl ⟨by rfl, ?_⟩) ?_ ?_
    rotate_left
    ·
     intro w'
     go_simp
     with_reducible rfl
    rotate_left
    ·
     simp only [Act.put, List.setIfInBounds_toArray, List.set_cons_zero, List.set_cons_succ, i64_w, i32_w]
     rfl
    refine take_ (i := 14) (N := some 84) (v := ?_) (a' := ?_) #[true, true, true, true, true, true, true, true, true, true, true, true, true, true, true, false, false] rfl rfl (by kernel_rfl) (fun _ _ _ h => h) (Or.inl ⟨by rfl, ?_⟩) hHeld ?_ ?_
    rotate_left
    ·
     rintro w' ⟨s0, s1, s2, s3, s4⟩
     go_simp
     with_reducible rfl
    rotate_left
    ·
     simp only [Act.put, List.setIfInBounds_toArray, List.set_cons_zero, List.set_cons_succ, i64_w, i32_w]
     rfl
    refine pure_ (i := 15) (N := some 85) (v := ?_) (a' := ?_) #[true, true, true, true, true, true, true, true, true, true, true, true, true, true, true, true, false] rfl rfl (by kernel_rfl) (fun _ _ _ h => h) (Or.inl ⟨by rfl, ?_⟩) ?_ ?_
    rotate_left
    ·
     intro w'
     go_simp
     with_reducible rfl
    rotate_left
    ·
     simp only [Act.put, List.setIfInBounds_toArray, List.set_cons_zero, List.set_cons_succ, i64_w, i32_w]
     rfl
    refine pure_ (i := 16) (N := some 86) (v := ?_) (a' := ?_) #[true, true, true, true, true, true, true, true, true, true, true, true, true, true, true, true, true] rfl rfl (by kernel_rfl) (fun _ _ _ h => h) (Or.inl ⟨by rfl, ?_⟩) ?_ ?_
    rotate_left
    ·
     intro w'
     go_simp
     with_reducible rfl
    rotate_left
    ·
     simp only [Act.put, List.setIfInBounds_toArray, List.set_cons_zero, List.set_cons_succ, i64_w, i32_w]
     rfl
    refine done_ (by kernel_rfl) ?_
    clear hHeld
    go_wp2_with (go_at_call 62; refine (j14_writer.write k e.f0 w0 _ gx T _ z s gb cb gf cf gs cs qa HS4.out HT.out.1 HT.out.2 HH2.out).mono ?_; rintro e' w6 ⟨rfl, hS⟩; have HSB := am hS; clear hS HS4 HGE4 hv1 he1 hcp hg0 hg1 k1 k2 HH2 HBT HLM)
    go_loopw [12] (fun v wr => ∃ (m : Nat) (b : List (List S26)) (z : List Int) (s : List (List Int)), v = .int .i64 (m : Int) ∧ m ≤ fl.length ∧ Aside0 (flF j11_Encode.f k ((i : Int) + 1) (fl.drop m) b z s = some qb) ∧ Aside0 (j14_writer.St w0 gx T b z s gb cb gf cf gs cs wr)) (fun v _ => fl.length - (intOf v).toNat)
    case atStart => exact ⟨0, _, _, _, rfl, Nat.zero_le _, HQB, HSB⟩
    case round =>
     clear HQB HSB
     obtain ⟨m, b2, z2, s2, rfl, hmm, HR2, HS2⟩ := hrel
     have hq1 := (HS2.out.B.cell (World.block_lt_of_cell? w0 _ HP0.out.2.1)).trans HP0.out.2.1
     by_cases hlt : m < fl.length
     rotate_left
     ·
      have hr := HR2.out
      rw [List.drop_of_length_le (by omega)] at hr
      unfold flF at hr
      have HE := am (Option.some.inj hr)
      clear hr
      go_wp2
      have he := HE.out
      subst he
      have hj9 := HJ.out
      exact y18
     have hr := HR2.out
     rw [List.drop_eq_getElem_cons hlt] at hr
     unfold flF at hr
     obtain ⟨f, hf⟩ : ∃ f, fl[m] = f := ⟨_, rfl⟩
     rw [hf] at hr
     obtain ⟨ad, rfl, hx0, hx1⟩ := at_T57 HRF0.out (m : Int) (by omega) (by omega)
     rw [show rd_T57 fl (m : Int) = f from by rw [← hf]; simp [rd_T57, List.getD_eq_getElem?_getD, List.getElem?_eq_getElem hlt]] at hx0 hx1
     have hy0 := (HS2.out.B.cell (World.block_lt_of_cell? w0 _ hx0)).trans hx0
     have hy1 := (HS2.out.B.cell (World.block_lt_of_cell? w0 _ hx1)).trans hx1
     rw [Int.toNat_natCast] at hy0 hy1
     have hm8 : fl.length ≤ 9223372036854775807 := HRF0.out.2.1
     have HCC2 : Aside0 ((f.f0 == (i : Int) + 1) = false ∧ flF j11_Encode.f k ((i : Int) + 1) (fl.drop (m + 1)) b2 z2 s2 = some qb ∨ (f.f0 == (i : Int) + 1) = true ∧ 0 ≤ f.f1 ∧ f.f1 < (b2.length : Int) ∧ ∃ q, wrF j11_Encode.f k f.f1 b2 z2 s2 = some q ∧ flF j11_Encode.f k ((i : Int) + 1) (fl.drop (m + 1)) q.1 q.2.1 q.2.2 = some qb) := ⟨by
      by_cases x1 : f.f0 = (i : Int) + 1
      ·
       rw [if_pos x1] at hr
       by_cases x2 : 0 ≤ f.f1 ∧ f.f1 < (b2.length : Int)
       ·
        rw [if_pos x2] at hr
        obtain ⟨q, hq, hr⟩ := Option.bind_eq_some_iff.mp hr
        exact .inr ⟨beq_iff_eq.mpr x1, x2.1, x2.2, q, hq, hr⟩
       ·
        rw [if_neg x2] at hr
        cases hr
      ·
       rw [if_neg x1] at hr
       exact .inl ⟨beq_eq_false_iff_ne.mpr x1, hr⟩⟩
     clear hx0 hx1 hf hmm hr HR2
     rcases HCC2.out with ⟨k1, h⟩ | ⟨k1, h0, h1, q, hq, h⟩
     ·
      have HQ9 := am h
      clear HCC2 h
      go_wp2
      go_roundw
      case rel => exact y38
      case measure => simp [intOf]; omega
     ·
      have HQ9 := am h
      have HQ8 := am hq
      have HT9 := am (And.intro h0 (show f.f1 < (T : Int) by rw [HS2.out.len.1]; exact h1))
      clear HCC2 h hq h0 h1
      go_wp2_with (go_at_call 62; refine (j14_writer.write k f.f1 w0 _ gx T b2 z2 s2 gb cb gf cf gs cs q HS2.out HT9.out.1 HT9.out.2 HQ8.out).mono ?_; rintro e' w9 ⟨rfl, hS⟩; have HS9 := am hS; clear hS)
      go_roundw
      case rel => exact y36
      case measure => simp [intOf]; omega
   ·
    have HH2 := am h
    clear h HC
    refine start_ (n := 17) (S := fun w' => w'.cell? ⟨gx, 0, none⟩ = some (.slice (some ⟨gb, 0, none⟩) T cb) ∧ w'.cell? ⟨gb, e.f0.toNat, none⟩ = some (.slice A6 bn.length c6) ∧ w'.cell? ⟨gp, 0, none⟩ = some (.int .i64 cap) ∧ w'.cell? ⟨ge, 0, none⟩ = some (.int .i64 e.f0) ∧ w'.cell? ⟨ge, 1, none⟩ = some (.int .i64 e.f1)) (ds := []) #[false, false, false, false, false, false, false, false, false, false, false, false, false, false, false, false, false] (by kernel_rfl) rfl rfl y35 (fun hHeld => ?_)
    rw [HW4.out] at hHeld ⊢
    clear HW4
    refine pure_ (i := 0) (N := some 70) (v := ?_) (a' := ?_) #[true, false, false, false, false, false, false, false, false, false, false, false, false, false, false, false, false] rfl rfl (by kernel_rfl) (fun _ _ _ h => h) (Or.inl ⟨by rfl, ?_⟩) ?_ ?_
    rotate_left
    ·
     intro w'
     go_simp
     with_reducible rfl
    rotate_left
    ·
     simp only [Act.put, List.setIfInBounds_toArray, List.set_cons_zero, List.set_cons_succ, i64_w, i32_w]
     rfl
    refine pure_ (i := 1) (N := some 71) (v := ?_) (a' := ?_) #[true, true, false, false, false, false, false, false, false, false, false, false, false, false, false, false, false] rfl rfl (by kernel_rfl) (fun _ _ _ h => h) (Or.inl ⟨by rfl, ?_⟩) ?_ ?_
    rotate_left
    ·
     intro w'
     go_simp
     with_reducible rfl
    rotate_left
    ·
     simp only [Act.put, List.setIfInBounds_toArray, List.set_cons_zero, List.set_cons_succ, i64_w, i32_w]
     rfl
    refine pure_ (i := 2) (N := some 72) (v := ?_) (a' := ?_) #[true, true, true, false, false, false, false, false, false, false, false, false, false, false, false, false, false] rfl rfl (by kernel_rfl) (fun _ _ _ h => h) (Or.inl ⟨by rfl, ?_⟩) ?_ ?_
    rotate_left
    ·
     intro w'
     go_simp
     with_reducible rfl
    rotate_left
    ·
     simp only [Act.put, List.setIfInBounds_toArray, List.set_cons_zero, List.set_cons_succ, i64_w, i32_w]
     rfl
    refine pure_ (i := 4) (N := some 74) (v := ?_) (a' := ?_) #[true, true, true, false, true, false, false, false, false, false, false, false, false, false, false, false, false] rfl rfl (by kernel_rfl) (fun _ _ _ h => h) (Or.inl ⟨by rfl, ?_⟩) ?_ ?_
    rotate_left
    ·
     intro w'
     go_simp
     with_reducible rfl
    rotate_left
    ·
     simp only [Act.put, List.setIfInBounds_toArray, List.set_cons_zero, List.set_cons_succ, i64_w, i32_w]
     rfl
    refine pure_ (i := 9) (N := some 79) (v := ?_) (a' := ?_) #[true, true, true, false, true, false, false, false, false, true, false, false, false, false, false, false, false] rfl rfl (by kernel_rfl) (fun _ _ _ h => h) (Or.inl ⟨by rfl, ?_⟩) ?_ ?_
    rotate_left
    ·
     intro w'
     go_simp
     with_reducible rfl
    rotate_left
    ·
     simp only [Act.put, List.setIfInBounds_toArray, List.set_cons_zero, List.set_cons_succ, i64_w, i32_w]
     rfl
    refine take_ (i := 3) (N := some 73) (v := ?_) (a' := ?_) #[true, true, true, true, true, false, false, false, false, true, false, false, false, false, false, false, false] rfl rfl (by kernel_rfl) (fun _ _ _ h => h) (Or.inl ⟨by rfl, ?_⟩) hHeld ?_ ?_
    rotate_left
    ·
     rintro w' ⟨s0, s1, s2, s3, s4⟩
     go_simp
     with_reducible rfl
    rotate_left
    ·
     simp only [Act.put, List.setIfInBounds_toArray, List.set_cons_zero, List.set_cons_succ, i64_w, i32_w]
     rfl
    refine take_ (i := 5) (N := some 75) (v := ?_) (a' := ?_) #[true, true, true, true, true, true, false, false, false, true, false, false, false, false, false, false, false] rfl rfl (by kernel_rfl) (fun _ _ _ h => h) (Or.inl ⟨by rfl, ?_⟩) hHeld ?_ ?_
    rotate_left
    ·
     rintro w' ⟨s0, s1, s2, s3, s4⟩
     go_simp
     with_reducible rfl
    rotate_left
    ·
     simp only [Act.put, List.setIfInBounds_toArray, List.set_cons_zero, List.set_cons_succ, i64_w, i32_w]
     rfl
    refine pure_ (i := 6) (N := some 76) (v := ?_) (a' := ?_) #[true, true, true, true, true, true, true, false, false, true, false, false, false, false, false, false, false] rfl rfl (by kernel_rfl) (fun _ _ _ h => h) (Or.inl ⟨by rfl, ?_⟩) ?_ ?_
    rotate_left
    ·
     intro w'
     go_simp
     with_reducible rfl
    rotate_left
    ·
     simp only [Act.put, List.setIfInBounds_toArray, List.set_cons_zero, List.set_cons_succ, i64_w, i32_w]
     rfl
    refine take_ (i := 7) (N := some 77) (v := ?_) (a' := ?_) #[true, true, true, true, true, true, true, true, false, true, false, false, false, false, false, false, false] rfl rfl (by kernel_rfl) (fun _ _ _ h => h) (Or.inl ⟨by rfl, ?_⟩) hHeld ?_ ?_
    rotate_left
    ·
     rintro w' ⟨s0, s1, s2, s3, s4⟩
     go_simp
     with_reducible rfl
    rotate_left
    ·
     simp only [Act.put, List.setIfInBounds_toArray, List.set_cons_zero, List.set_cons_succ, i64_w, i32_w]
     rfl
    refine pure_ (i := 8) (N := some 78) (v := ?_) (a' := ?_) #[true, true, true, true, true, true, true, true, true, true, false, false, false, false, false, false, false] rfl rfl (by kernel_rfl) (fun _ _ _ h => h) (Or.inl ⟨by rfl, ?_⟩) ?_ ?_
    rotate_left
    ·
     intro w'
     go_simp
     with_reducible rfl
    rotate_left
    ·
     simp only [Act.put, List.setIfInBounds_toArray, List.set_cons_zero, List.set_cons_succ, i64_w, i32_w]
     rfl
    refine take_ (i := 10) (N := some 80) (v := ?_) (a' := ?_) #[true, true, true, true, true, true, true, true, true, true, true, false, false, false, false, false, false] rfl rfl (by kernel_rfl) (fun _ _ _ h => h) (Or.inl ⟨by rfl, ?_⟩) hHeld ?_ ?_
    rotate_left
    ·
     rintro w' ⟨s0, s1, s2, s3, s4⟩
     go_simp
     with_reducible rfl
    rotate_left
    ·
     simp only [Act.put, List.setIfInBounds_toArray, List.set_cons_zero, List.set_cons_succ, i64_w, i32_w]
     rfl
    refine pure_ (i := 11) (N := some 81) (v := ?_) (a' := ?_) #[true, true, true, true, true, true, true, true, true, true, true, true, false, false, false, false, false] rfl rfl (by kernel_rfl) (fun _ _ _ h => h) (Or.inl ⟨by rfl, ?_⟩) ?_ ?_
    rotate_left
    ·
     intro w'
     go_simp
     with_reducible rfl
    rotate_left
    ·
     simp only [Act.put, List.setIfInBounds_toArray, List.set_cons_zero, List.set_cons_succ, i64_w, i32_w]
     rfl
    refine pure_ (i := 12) (N := some 82) (v := ?_) (a' := ?_) #[true, true, true, true, true, true, true, true, true, true, true, true, true, false, false, false, false] rfl rfl (by kernel_rfl) (fun _ _ _ h => h) (Or.inl ⟨by rfl, ?_⟩) ?_ ?_
    rotate_left
    ·
     intro w'
     go_simp
     with_reducible rfl
    rotate_left
    ·
     simp only [Act.put, List.setIfInBounds_toArray, List.set_cons_zero, List.set_cons_succ, i64_w, i32_w]
     rfl
    refine pure_ (i := 13) (N := some 83) (v := ?_) (a' := ?_) #[true, true, true, true, true, true, true, true, true, true, true, true, true, true, false, false, false] rfl rfl (by kernel_rfl) (fun _ _ _ h => h) (Or.inl ⟨by rfl, ?_⟩) ?_ ?_
    rotate_left
    ·
     intro w'
     go_simp
     with_reducible rfl
    rotate_left
    ·
     simp only [Act.put, List.setIfInBounds_toArray, List.set_cons_zero, List.set_cons_succ, i64_w, i32_w]
     rfl
    refine take_ (i := 14) (N := some 84) (v := ?_) (a' := ?_) #[true, true, true, true, true, true, true, true, true, true, true, true, true, true, true, false, false] rfl rfl (by kernel_rfl) (fun _ _ _ h => h) (Or.inl ⟨by rfl, ?_⟩) hHeld ?_ ?_
    rotate_left
    ·
     rintro w' ⟨s0, s1, s2, s3, s4⟩
     go_simp
     with_reducible rfl
    rotate_left
    ·
     simp only [Act.put, List.setIfInBounds_toArray, List.set_cons_zero, List.set_cons_succ, i64_w, i32_w]
     rfl
    refine pure_ (i := 15) (N := some 85) (v := ?_) (a' := ?_) #[true, true, true, true, true, true, true, true, true, true, true, true, true, true, true, true, false] rfl rfl (by kernel_rfl) (fun _ _ _ h => h) (Or.inl ⟨by rfl, ?_⟩) ?_ ?_
    rotate_left
    ·
     intro w'
     go_simp
     with_reducible rfl
    rotate_left
    ·
     simp only [Act.put, List.setIfInBounds_toArray, List.set_cons_zero, List.set_cons_succ, i64_w, i32_w]
     rfl
    refine pure_ (i := 16) (N := some 86) (v := ?_) (a' := ?_) #[true, true, true, true, true, true, true, true, true, true, true, true, true, true, true, true, true] rfl rfl (by kernel_rfl) (fun _ _ _ h => h) (Or.inl ⟨by rfl, ?_⟩) ?_ ?_
    rotate_left
    ·
     intro w'
     go_simp
     with_reducible rfl
    rotate_left
    ·
     simp only [Act.put, List.setIfInBounds_toArray, List.set_cons_zero, List.set_cons_succ, i64_w, i32_w]
     rfl
    refine done_ (by kernel_rfl) ?_
    clear hHeld
    go_wp2
    have hqq := HH2.out
    subst hqq
    have HSB := HS4
    clear HS4 HGE4 hv1 he1 hcp hg0 hg1 k1 k2 HH2 HBT HLM
    go_loopw [12] (fun v wr => ∃ (m : Nat) (b : List (List S26)) (z : List Int) (s : List (List Int)), v = .int .i64 (m : Int) ∧ m ≤ fl.length ∧ Aside0 (flF j11_Encode.f k ((i : Int) + 1) (fl.drop m) b z s = some qb) ∧ Aside0 (j14_writer.St w0 gx T b z s gb cb gf cf gs cs wr)) (fun v _ => fl.length - (intOf v).toNat)
    case atStart => exact ⟨0, _, _, _, rfl, Nat.zero_le _, HQB, HSB⟩
    case round =>
     clear HQB HSB
     obtain ⟨m, b2, z2, s2, rfl, hmm, HR2, HS2⟩ := hrel
     have hq1 := (HS2.out.B.cell (World.block_lt_of_cell? w0 _ HP0.out.2.1)).trans HP0.out.2.1
     by_cases hlt : m < fl.length
     rotate_left
     ·
      have hr := HR2.out
      rw [List.drop_of_length_le (by omega)] at hr
      unfold flF at hr
      have HE := am (Option.some.inj hr)
      clear hr
      go_wp2
      have he := HE.out
      subst he
      have hj9 := HJ.out
      exact y18
     have hr := HR2.out
     rw [List.drop_eq_getElem_cons hlt] at hr
     unfold flF at hr
     obtain ⟨f, hf⟩ : ∃ f, fl[m] = f := ⟨_, rfl⟩
     rw [hf] at hr
     obtain ⟨ad, rfl, hx0, hx1⟩ := at_T57 HRF0.out (m : Int) (by omega) (by omega)
     rw [show rd_T57 fl (m : Int) = f from by rw [← hf]; simp [rd_T57, List.getD_eq_getElem?_getD, List.getElem?_eq_getElem hlt]] at hx0 hx1
     have hy0 := (HS2.out.B.cell (World.block_lt_of_cell? w0 _ hx0)).trans hx0
     have hy1 := (HS2.out.B.cell (World.block_lt_of_cell? w0 _ hx1)).trans hx1
     rw [Int.toNat_natCast] at hy0 hy1
     have hm8 : fl.length ≤ 9223372036854775807 := HRF0.out.2.1
     have HCC2 : Aside0 ((f.f0 == (i : Int) + 1) = false ∧ flF j11_Encode.f k ((i : Int) + 1) (fl.drop (m + 1)) b2 z2 s2 = some qb ∨ (f.f0 == (i : Int) + 1) = true ∧ 0 ≤ f.f1 ∧ f.f1 < (b2.length : Int) ∧ ∃ q, wrF j11_Encode.f k f.f1 b2 z2 s2 = some q ∧ flF j11_Encode.f k ((i : Int) + 1) (fl.drop (m + 1)) q.1 q.2.1 q.2.2 = some qb) := ⟨by
      by_cases x1 : f.f0 = (i : Int) + 1
      ·
       rw [if_pos x1] at hr
       by_cases x2 : 0 ≤ f.f1 ∧ f.f1 < (b2.length : Int)
       ·
        rw [if_pos x2] at hr
        obtain ⟨q, hq, hr⟩ := Option.bind_eq_some_iff.mp hr
        exact .inr ⟨beq_iff_eq.mpr x1, x2.1, x2.2, q, hq, hr⟩
       ·
        rw [if_neg x2] at hr
        cases hr
      ·
       rw [if_neg x1] at hr
       exact .inl ⟨beq_eq_false_iff_ne.mpr x1, hr⟩⟩
     clear hx0 hx1 hf hmm hr HR2
     rcases HCC2.out with ⟨k1, h⟩ | ⟨k1, h0, h1, q, hq, h⟩
     ·
      have HQ9 := am h
      clear HCC2 h
      go_wp2
      go_roundw
      case rel => exact y38
      case measure => simp [intOf]; omega
     ·
      have HQ9 := am h
      have HQ8 := am hq
      have HT9 := am (And.intro h0 (show f.f1 < (T : Int) by rw [HS2.out.len.1]; exact h1))
      clear HCC2 h hq h0 h1
      go_wp2_with (go_at_call 62; refine (j14_writer.write k f.f1 w0 _ gx T b2 z2 s2 gb cb gf cf gs cs q HS2.out HT9.out.1 HT9.out.2 HQ8.out).mono ?_; rintro e' w9 ⟨rfl, hS⟩; have HS9 := am hS; clear hS)
      go_roundw
      case rel => exact y36
      case measure => simp [intOf]; omega
end Go.Proofs.Ytnmmkgagbfniiaa.A
end
