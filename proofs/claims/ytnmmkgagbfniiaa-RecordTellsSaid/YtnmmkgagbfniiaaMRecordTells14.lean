/- MRecordTells14: texts of this session and of the kit's printer on the road to the statement RecordTells, laid into one and rid of what it doesn't need. No condition beyond what each fact names. -/
import Derived.Test.YtnmmkgagbfniiaaMRecordTells6
import Derived.Test.YtnmmkgagbfniiaaMRecordTells11
import Derived.Test.YtnmmkgagbfniiaaMRecordTells13
import Derived.Test.YtnmmkgagbfniiaaMRecordTells4
import Derived.Test.YtnmmkgagbfniiaaMRecordTells3
import Derived.Test.YtnmmkgagbfniiaaMRecordTells12
section
namespace Go.Proofs.Ytnmmkgagbfniiaa.Pl
open Go.RowKit Go.Proofs.YtnmmkgagbfniiaaW.PrintWords Go.Proofs.YtnmmkgagbfniiaaW.PrintMore Go.Proofs.Ytnmmkgagbfniiaa.A
set_option linter.unusedVariables false
structure Inv (N n m : Nat) (b : List (List S26)) (z : List Int) (s : List (List Int)) : Prop where
 lb : b.length = N
 lz : z.length = N
 ls : s.length = N
 hb : ∀ x ∈ b, x.length ≤ n ∧ ∀ r ∈ x, RecOk r
 hs : ∀ x ∈ s, x.length ≤ 1100004 * m
theorem Inv.up {N n m m' : Nat} {b : List (List S26)} {z : List Int} {s : List (List Int)} (I : Inv N n m b z s) (h : m ≤ m') : Inv N n m' b z s := ⟨I.lb, I.lz, I.ls, I.hb, fun x hx => Nat.le_trans (I.hs x hx) (Nat.mul_le_mul_left _ h)⟩
theorem gd {α : Type} {xs : List (List α)} {P : List α → Prop} (h0 : P []) (h : ∀ x ∈ xs, P x) (i : Nat) : P (xs.getD i []) := by
 rw [List.getD_eq_getElem?_getD]
 cases e : xs[i]? with
 | none => exact h0
 | some x => exact h x (List.mem_of_getElem? e)
theorem setAll {α : Type} {xs : List (List α)} {P : List α → Prop} {y : List α} (hy : P y) (h : ∀ x ∈ xs, P x) (i : Nat) : ∀ x ∈ xs.set i y, P x := fun x hx => by
 rcases List.mem_or_eq_of_mem_set hx with h1 | h1
 ·
  exact h x h1
 ·
  rw [h1]; exact hy
theorem wr_both {N n m : Nat} {t : Int} {b : List (List S26)} {z : List Int} {s : List (List Int)} (I : Inv N n m b z s) (hm : 1100004 * (m + 1) < 140737488355328) :
  ∃ q : List (List S26) × List Int × List (List Int), Ev (fun k => wrF block_Encode.f k t b z s) q ∧ Ev (fun k => wrF j11_Encode.f k t b z s) q ∧ Inv N n (m + 1) q.1 q.2.1 q.2.2 := by
 have hb := gd (P := fun x => x.length ≤ n ∧ ∀ r ∈ x, RecOk r) ⟨Nat.zero_le _, by simp⟩ I.hb t.toNat
 have hs := gd (P := fun x => x.length ≤ 1100004 * m) (Nat.zero_le _) I.hs t.toNat
 by_cases c : (b.getD t.toNat []).length = 0
 ·
  exact ⟨(b, z, s), Ev.congr (fun k => if_pos c) (Ev.now _), Ev.congr (fun k => if_pos c) (Ev.now _), I.up (Nat.le_succ _)⟩
 ·
  have he := encS_len (th := t) (first := rd z t) hb.2
  have hc : (s.getD t.toNat []).length + (encS t (rd z t) (b.getD t.toNat [])).1.length < 140737488355328 := by omega
  refine ⟨_, Ev.congr (fun k => if_neg c) (Ev.bind (encode_f _ _ _ hb.2) (Ev.congr (fun k => if_pos hc) (Ev.now _))), Ev.congr (fun k => if_neg c) (Ev.bind (refEncode_f _ _ _ hb.2) (Ev.congr (fun k => if_pos hc) (Ev.now _))), ⟨?_, ?_, ?_, ?_, ?_⟩⟩
  ·
   show (b.set _ _).length = N; rw [List.length_set]; exact I.lb
  ·
   show (z.set _ _).length = N; rw [List.length_set]; exact I.lz
  ·
   show (s.set _ _).length = N; rw [List.length_set]; exact I.ls
  ·
   exact setAll ⟨Nat.zero_le _, by simp⟩ I.hb _
  ·
   exact setAll (P := fun x => x.length ≤ 1100004 * (m + 1)) (by rw [List.length_append]; omega) (fun x hx => Nat.le_trans (I.hs x hx) (by omega)) _
theorem ad_both {N n m : Nat} {e : S24} {seq cap : Int} {b : List (List S26)} {z : List Int} {s : List (List Int)} (I : Inv N n m b z s) (hm : 1100004 * (m + 1) < 140737488355328) (hn : n < 1466015503701) (h0 : 0 ≤ e.f0) (h1 : e.f0 < (N : Int)) (hr : RecOk ⟨seq, e⟩) :
  ∃ q : List (List S26) × List Int × List (List Int), Ev (fun k => adF block_Encode.f k e seq cap b z s) q ∧ Ev (fun k => adF j11_Encode.f k e seq cap b z s) q ∧ Inv N (n + 1) (m + 1) q.1 q.2.1 q.2.2 := by
 have hb := gd (P := fun x => x.length ≤ n ∧ ∀ r ∈ x, RecOk r) ⟨Nat.zero_le _, by simp⟩ I.hb e.f0.toNat
 have hg : 0 ≤ e.f0 ∧ e.f0 < (b.length : Int) ∧ (b.getD e.f0.toNat []).length < 1466015503701 := ⟨h0, by rw [I.lb]; exact h1, by omega⟩
 have J : Inv N (n + 1) m (b.set e.f0.toNat (b.getD e.f0.toNat [] ++ [(⟨seq, e⟩ : S26)])) z s := by
  refine ⟨by rw [List.length_set]; exact I.lb, I.lz, I.ls, setAll (P := fun x => x.length ≤ n + 1 ∧ ∀ r ∈ x, RecOk r) ⟨?_, fun r h => ?_⟩ (fun x hx => ⟨by have := (I.hb x hx).1; omega, (I.hb x hx).2⟩) _, I.hs⟩
  ·
   rw [List.length_append, List.length_singleton]; omega
  ·
   rcases List.mem_append.1 h with h | h
   ·
    exact hb.2 r h
   ·
    rw [List.mem_singleton.1 h]; exact hr
 by_cases c : ((b.getD e.f0.toNat [] ++ [(⟨seq, e⟩ : S26)]).length : Int) = cap ∨ e.f1 = 2
 ·
  obtain ⟨q, q1, q2, q3⟩ := wr_both (t := e.f0) J hm
  exact ⟨q, Ev.congr (fun k => (if_pos hg).trans (if_pos c)) q1, Ev.congr (fun k => (if_pos hg).trans (if_pos c)) q2, q3⟩
 ·
  exact ⟨_, Ev.congr (fun k => (if_pos hg).trans (if_neg c)) (Ev.now _), Ev.congr (fun k => (if_pos hg).trans (if_neg c)) (Ev.now _), J.up (Nat.le_succ _)⟩
theorem flF_cons (enc : Nat → Int → Int → List S26 → Option (List Int × Int)) (k : Nat) (n : Int) (f : S57) (fs : List S57) (b : List (List S26)) (i : List Int) (s : List (List Int)) : flF enc k n (f :: fs) b i s = if f.f0 = n then (if 0 ≤ f.f1 ∧ f.f1 < (b.length : Int) then (wrF enc k f.f1 b i s).bind fun q => flF enc k n fs q.1 q.2.1 q.2.2 else none) else flF enc k n fs b i s := rfl
theorem fl_both {N n : Nat} (t : Int) : ∀ (fs : List S57) (m : Nat) (b : List (List S26)) (z : List Int) (s : List (List Int)), (∀ f ∈ fs, 0 ≤ f.f1 ∧ f.f1 < (N : Int)) → Inv N n m b z s → 1100004 * (m + fs.length) < 140737488355328 →
  ∃ q : List (List S26) × List Int × List (List Int), Ev (fun k => flF block_Encode.f k t fs b z s) q ∧ Ev (fun k => flF j11_Encode.f k t fs b z s) q ∧ Inv N n (m + fs.length) q.1 q.2.1 q.2.2 := by
 intro fs
 induction fs with
 | nil => intro m b z s _ I _; exact ⟨(b, z, s), Ev.now _, Ev.now _, I⟩
 | cons f fs ih =>
  intro m b z s hf I hm
  rw [List.length_cons] at hm
  have hf' : ∀ g ∈ fs, 0 ≤ g.f1 ∧ g.f1 < (N : Int) := fun g hg => hf g (List.mem_cons_of_mem _ hg)
  by_cases c : f.f0 = t
  ·
   obtain ⟨q, q1, q2, q3⟩ := wr_both (t := f.f1) I (by omega)
   obtain ⟨p, p1, p2, p3⟩ := ih (m + 1) q.1 q.2.1 q.2.2 hf' q3 (by omega)
   have hg : 0 ≤ f.f1 ∧ f.f1 < (b.length : Int) := by rw [I.lb]; exact hf f (List.mem_cons_self ..)
   exact ⟨p, Ev.congr (fun k => (flF_cons ..).trans ((if_pos c).trans (if_pos hg))) (Ev.bind q1 p1), Ev.congr (fun k => (flF_cons ..).trans ((if_pos c).trans (if_pos hg))) (Ev.bind q2 p2), p3.up (by rw [List.length_cons]; omega)⟩
  ·
   obtain ⟨p, p1, p2, p3⟩ := ih m b z s hf' I (by omega)
   exact ⟨p, Ev.congr (fun k => (flF_cons ..).trans (if_neg c)) p1, Ev.congr (fun k => (flF_cons ..).trans (if_neg c)) p2, p3.up (by rw [List.length_cons]; omega)⟩
theorem rnF_succ (enc : Nat → Int → Int → List S26 → Option (List Int × Int)) (k : Nat) (l : List S24) (cap : Int) (fl : List S57) (d : Nat) (n : Int) (b : List (List S26)) (z : List Int) (s : List (List Int)) : rnF enc k l cap fl (d + 1) n b z s = (adF enc k (rd_T24 l (n - 1)) (n - 1) cap b z s).bind fun q => (flF enc k n fl q.1 q.2.1 q.2.2).bind fun q => rnF enc k l cap fl d (n + 1) q.1 q.2.1 q.2.2 := rfl
theorem rn_both {N : Nat} (l : List S24) (cap : Int) (fl : List S57) (hl : l.length ≤ 400) (hf : ∀ f ∈ fl, 0 ≤ f.f1 ∧ f.f1 < (N : Int)) (he : ∀ e ∈ l, 0 ≤ e.f0 ∧ e.f0 < (N : Int) ∧ I64 e.f1 ∧ I64 e.f2 ∧ I64 e.f3 ∧ I64 e.f4) {F : Nat} (hF : fl.length + 1 ≤ F) : ∀ (d i m : Nat) (b : List (List S26)) (z : List Int) (s : List (List Int)), i + d ≤ l.length → Inv N i m b z s → 1100004 * (m + d * F) < 140737488355328 →
  ∃ q : List (List S26) × List Int × List (List Int), Ev (fun k => rnF block_Encode.f k l cap fl d ((i + 1 : Nat) : Int) b z s) q ∧ Ev (fun k => rnF j11_Encode.f k l cap fl d ((i + 1 : Nat) : Int) b z s) q ∧ Inv N (i + d) (m + d * F) q.1 q.2.1 q.2.2 := by
 intro d
 induction d with
 | zero => intro i m b z s _ I _; exact ⟨(b, z, s), Ev.now _, Ev.now _, by rw [Nat.zero_mul]; exact I⟩
 | succ d ih =>
  intro i m b z s hi I hm
  rw [Nat.succ_mul d F] at hm
  have hlt : i < l.length := by omega
  obtain ⟨h0, h1, h2, h3, h4, h5⟩ := he l[i] (List.getElem_mem hlt)
  have e1 : ((i + 1 : Nat) : Int) - 1 = (i : Int) := by omega
  have e2 : ((i + 1 : Nat) : Int) + 1 = ((i + 1 + 1 : Nat) : Int) := by omega
  have hI : I64 (i : Int) := by unfold I64; omega
  obtain ⟨q, q1, q2, q3⟩ := ad_both (e := l[i]) (seq := (i : Int)) (cap := cap) I (by omega) (by omega) h0 h1 ⟨hI, h2, h3, h4, h5⟩
  obtain ⟨p, p1, p2, p3⟩ := fl_both ((i + 1 : Nat) : Int) fl (m + 1) q.1 q.2.1 q.2.2 hf q3 (by omega)
  obtain ⟨o, o1, o2, o3⟩ := ih (i + 1) (m + F) p.1 p.2.1 p.2.2 (by omega) (p3.up (by omega)) (by omega)
  refine ⟨o, Ev.congr (fun k => (rnF_succ ..).trans (by rw [e1, e2, at24 hlt])) (Ev.bind q1 (Ev.bind p1 o1)), Ev.congr (fun k => (rnF_succ ..).trans (by rw [e1, e2, at24 hlt])) (Ev.bind q2 (Ev.bind p2 o2)), ?_⟩
  rw [Nat.succ_mul d F, show i + (d + 1) = i + 1 + d by omega, show m + (d * F + F) = m + F + d * F by omega]
  exact o3
theorem cut_eq {c n : Int} (h0 : 0 ≤ c) (h1 : I64 c) (h2 : 0 ≤ n) (h3 : n < 140737488355328) : record_Files.cut c n = j14_Files.cut c n ∧ 0 ≤ j14_Files.cut c n ∧ j14_Files.cut c n ≤ n := by
 unfold I64 at h1
 unfold record_Files.cut j14_Files.cut
 rw [wrap64_id (by omega) (by omega)]
 unfold mx mn
 repeat' split
 all_goals omega
theorem ct_both : ∀ (cs : List Int) (t B : Nat) (s : List (List Int)), (∀ c ∈ cs, 0 ≤ c ∧ I64 c) → t + cs.length ≤ s.length → (∀ x ∈ s, x.length ≤ B) → B < 140737488355328 →
  ∃ s', ctF record_Files.cut cs t s = some s' ∧ ctF j14_Files.cut cs t s = some s' ∧ s'.length = s.length ∧ ∀ x ∈ s', x.length ≤ B := by
 intro cs
 induction cs with
 | nil => intro t B s _ _ hs _; exact ⟨s, rfl, rfl, rfl, hs⟩
 | cons c cs ih =>
  intro t B s hc ht hs hB
  rw [List.length_cons] at ht
  obtain ⟨h0, h1⟩ := hc c (List.mem_cons_self ..)
  have hs1 := gd (P := fun x => x.length ≤ B) (Nat.zero_le _) hs t
  obtain ⟨g0, g1, g2⟩ := cut_eq (n := ((s.getD t []).length : Int)) h0 h1 (by omega) (by omega)
  obtain ⟨s', e1, e2, e3, e4⟩ := ih (t + 1) B (s.set t ((s.getD t []).take (j14_Files.cut c ((s.getD t []).length : Int)).toNat)) (fun x hx => hc x (List.mem_cons_of_mem _ hx)) (by rw [List.length_set]; omega) (setAll (P := fun x => x.length ≤ B) (by rw [List.length_take]; omega) hs _) hB
  have hg : t < s.length ∧ 0 ≤ j14_Files.cut c ((s.getD t []).length : Int) ∧ j14_Files.cut c ((s.getD t []).length : Int) ≤ ((s.getD t []).length : Int) := ⟨by omega, g1, g2⟩
  refine ⟨s', ?_, ?_, by rw [e3, List.length_set], e4⟩
  ·
   rw [ctF, g0, if_pos hg]; exact e1
  ·
   rw [ctF, if_pos hg]; exact e2
theorem chS_zero {l : List S24} {a1 cap stop : Int} {fs : List S57} {cs : List Int} (h : chS l a1 cap fs stop cs = 0) : 1 ≤ a1 ∧ a1 ≤ 4 ∧ 0 ≤ stop ∧ (cs.length : Int) ≤ a1 ∧ l.length ≤ 400 ∧ (∀ f ∈ fs, 0 ≤ f.f1 ∧ f.f1 < a1) ∧ (∀ c ∈ cs, 0 ≤ c) ∧ ∀ e ∈ l, 0 ≤ e.f0 ∧ e.f0 < a1 := by
 unfold chS at h
 split at h
 ·
  omega
 ·
  rename_i hc
  unfold chF at h
  split at h
  ·
   omega
  ·
   rename_i hf
   unfold chC at h
   split at h
   ·
    omega
   ·
    rename_i hk
    unfold chL at h
    split at h
    ·
     omega
    ·
     rename_i hl
     unfold chE at h
     split at h
     ·
      omega
     ·
      rename_i he
      simp only [not_or] at hc
      refine ⟨by omega, by omega, by omega, by omega, by omega, fun f hm => ?_, fun c hm => ?_, fun e hm => ?_⟩
      ·
       have := fun x => hf (List.any_eq_true.2 ⟨f, hm, x⟩)
       unfold badF at this
       simp at this
       omega
      ·
       have := fun x => hk (List.any_eq_true.2 ⟨c, hm, x⟩)
       simp at this
       omega
      ·
       have := fun x => he (List.any_eq_true.2 ⟨e, hm, x⟩)
       unfold badE at this
       simp at this
       omega
theorem allRep {α : Type} {P : List α → Prop} (h : P []) (n : Nat) : ∀ x ∈ List.replicate n ([] : List α), P x := fun x hx => by rw [List.eq_of_mem_replicate hx]; exact h
theorem files_err {l : List S24} {a1 cap stop : Int} {fl : List S57} {cuts : List Int} {e : Int} (hl : l.length ≤ 140737488355328) (hc : cuts.length ≤ 140737488355328) (hf : fl.length ≤ 140737488355328) (h : chS l a1 cap fl stop cuts = e) (h0 : e ≠ 0) : Ev (fun k => record_Files.f k l a1 cap fl stop cuts) ([], e) := by
 have := rec_check a1 l cap stop cuts fl hl hc hf
 rw [h] at this
 exact Ev.bind this (Ev.congr (fun k => if_neg h0) (Ev.now _))
theorem refFiles_err {l : List S24} {a1 cap stop : Int} {fl : List S57} {cuts : List Int} {e : Int} (hl : l.length ≤ 140737488355328) (hc : cuts.length ≤ 140737488355328) (hf : fl.length ≤ 140737488355328) (h : chS l a1 cap fl stop cuts = e) (h0 : e ≠ 0) : Ev (fun k => j14_Files.f k l a1 cap fl stop cuts) ([], e) := by
 have := ref_plan a1 l cap stop cuts fl hl hc hf
 rw [h] at this
 exact Ev.bind this (Ev.congr (fun k => if_neg h0) (Ev.now _))
theorem files_both (l : List S24) (a1 cap : Int) (fl : List S57) (stop : Int) (cuts : List Int) (hl : l.length ≤ 140737488355328) (hc : cuts.length ≤ 140737488355328) (hf : fl.length ≤ 50) (hI : ∀ c ∈ cuts, I64 c) (he : ∀ e ∈ l, I64 e.f1 ∧ I64 e.f2 ∧ I64 e.f3 ∧ I64 e.f4) :
  ∃ r : List (List Int) × Int, Ev (fun k => record_Files.f k l a1 cap fl stop cuts) r ∧ Ev (fun k => j14_Files.f k l a1 cap fl stop cuts) r ∧ r.1.length ≤ 4 ∧ ∀ x ∈ r.1, x.length ≤ 140737488355328 := by
 by_cases e : chS l a1 cap fl stop cuts = 0
 ·
  have hr := rec_check a1 l cap stop cuts fl hl hc (by omega)
  have hp := ref_plan a1 l cap stop cuts fl hl hc (by omega)
  rw [e] at hr hp
  obtain ⟨ha, hb, hs, hn, h4, h5, h6, h7⟩ := chS_zero e
  have hN : ((a1.toNat : Nat) : Int) = a1 := by omega
  have hF : ∀ f ∈ fl, 0 ≤ f.f1 ∧ f.f1 < ((a1.toNat : Nat) : Int) := by rw [hN]; exact h5
  have hE : ∀ e ∈ l, 0 ≤ e.f0 ∧ e.f0 < ((a1.toNat : Nat) : Int) ∧ I64 e.f1 ∧ I64 e.f2 ∧ I64 e.f3 ∧ I64 e.f4 := by rw [hN]; exact fun e hm => ⟨(h7 e hm).1, (h7 e hm).2, he e hm⟩
  have I0 : Inv a1.toNat 0 0 (List.replicate a1.toNat []) (List.replicate a1.toNat 0) (List.replicate a1.toNat []) := ⟨List.length_replicate, List.length_replicate, List.length_replicate, allRep ⟨Nat.le_refl _, by simp⟩ _, allRep (P := fun x => x.length ≤ 1100004 * 0) (Nat.zero_le _) _⟩
  have hmn : (mn stop (l.length : Int)).toNat ≤ l.length := by unfold mn; split <;> omega
  generalize hd : (mn stop (l.length : Int)).toNat = d at hmn
  obtain ⟨q, q1, q2, q3⟩ := fl_both 0 fl 0 _ _ _ hF I0 (by omega)
  obtain ⟨p, p1, p2, p3⟩ := rn_both l cap fl h4 hF hE (F := 51) (by omega) d 0 (0 + fl.length) q.1 q.2.1 q.2.2 (by omega) q3 (by omega)
  obtain ⟨s, s1, s2, s3, s4⟩ := ct_both cuts 0 (1100004 * (0 + fl.length + d * 51)) p.2.2 (fun c hm => ⟨h6 c hm, hI c hm⟩) (by rw [p3.ls]; omega) p3.hs (by omega)
  have hg : 1 ≤ a1 ∧ a1 ≤ 4 ∧ 0 ≤ stop ∧ l.length ≤ 400 := ⟨ha, hb, hs, h4⟩
  refine ⟨(s, 0), Ev.bind hr (Ev.congr (fun k => (if_pos rfl).trans (if_pos hg)) ?_), Ev.bind hp (Ev.congr (fun k => (if_pos rfl).trans (if_pos hg)) ?_), by show s.length ≤ 4; rw [s3, p3.ls]; omega, fun x hx => Nat.le_trans (s4 x hx) (by omega)⟩
  ·
   rw [hd]
   exact Ev.bind q1 (Ev.bind p1 (Ev.congr (fun k => by rw [s1]; rfl) (Ev.now _)))
  ·
   rw [hd]
   exact Ev.bind q2 (Ev.bind p2 (Ev.congr (fun k => by rw [s2]; rfl) (Ev.now _)))
 ·
  exact ⟨([], chS l a1 cap fl stop cuts), files_err hl hc (by omega) rfl e, refFiles_err hl hc (by omega) rfl e, by simp, by simp⟩
def awE : S24 := (⟨0, 2, 0, 0, 0, ([] : List Int), ([] : List Int)⟩ : S24)
def awB : List S26 := [] ++ [(⟨0, awE⟩ : S26)]
theorem awB_ok : ∀ r ∈ awB, RecOk r := by
 intro r hr
 rw [List.mem_singleton.1 hr]
 unfold RecOk I64 awE
 decide
theorem aw_check : chS [awE] 1 1 [] 1 [] = 0 := by decide +kernel
theorem aw_len : 10 < (encS 0 0 awB).1.length ∧ (encS 0 0 awB).1.length < 1000 := by decide +kernel
theorem aw_files : Ev (fun k => record_Files.f k [awE] 1 1 [] 1 []) ([[] ++ (encS 0 0 awB).1], 0) := by
 have hr := rec_check 1 [awE] 1 1 [] [] (by decide) (by decide) (by decide)
 rw [aw_check] at hr
 have hl := aw_len
 have hw : Ev (fun k => wrF block_Encode.f k 0 [awB] [0] [[]]) (([[]], [wrap64 (0 + 1)], [[] ++ (encS 0 0 awB).1]) : List (List S26) × List Int × List (List Int)) := by
  have hc : ([] : List Int).length + (encS 0 0 awB).1.length < 140737488355328 := by rw [List.length_nil]; omega
  exact Ev.congr (fun k => if_neg (by decide)) (Ev.bind (encode_f 0 0 awB awB_ok) (Ev.congr (fun k => if_pos hc) (Ev.now _)))
 have ha : Ev (fun k => adF block_Encode.f k awE 0 1 [[]] [0] [[]]) (([[]], [wrap64 (0 + 1)], [[] ++ (encS 0 0 awB).1]) : List (List S26) × List Int × List (List Int)) :=
  Ev.congr (fun k => (if_pos (by decide)).trans (if_pos (by decide))) hw
 refine Ev.bind hr (Ev.congr (fun k => (if_pos rfl).trans (if_pos (by decide))) ?_)
 refine Ev.bind (Ev.now (([[]], [0], [[]]) : List (List S26) × List Int × List (List Int))) ?_
 refine Ev.bind (a := (([[]], [wrap64 (0 + 1)], [[] ++ (encS 0 0 awB).1]) : List (List S26) × List Int × List (List Int))) (Ev.congr (f := fun k => (adF block_Encode.f k awE 0 1 [[]] [0] [[]]).bind fun q => some q) (fun k => ?_) (Ev.bind ha (Ev.now _))) (Ev.now _)
 rfl
end Go.Proofs.Ytnmmkgagbfniiaa.Pl
end
section
namespace Go.Proofs.Ytnmmkgagbfniiaa.A
open Go.RowKit Go.Proofs.YtnmmkgagbfniiaaW.PrintWords Go.Proofs.YtnmmkgagbfniiaaW.PrintLast Go.Proofs.YtnmmkgagbfniiaaW.PrintMore
attribute [local go_sem] max2_int min2_int max_two min_two max_three min_three max_four min_four
set_option linter.unusedVariables false
set_option linter.unusedSimpArgs false
def l14_awake.f (k : Nat)  : Option (Bool) := (record_Files.f k (([(⟨0, 2, 0, 0, 0, ([] : List Int), ([] : List Int)⟩ : S24)] : List (S24))) 1 1 ([] : List (S57)) 1 ([] : List Int)).bind fun bt482 => (if bt482.2 = 0 then (if (bt482.1.length : Int) = 1 then (if 0 < (bt482.1.length : Int) then (some (decide (((rd_L5 bt482.1 0).length : Int) > 10))) else (none)) else (some false)) else (some false))
theorem l14_awake.mono : ∀ k, LeO (l14_awake.f k ) (l14_awake.f (k + 1) ) := by
 intro  k
 unfold l14_awake.f
 exact zM
set_option maxHeartbeats 8000000 in
set_option maxRecDepth 100000 in
theorem l14_awake.calls (k : Nat)  (r : Bool) (w : World) (h : l14_awake.f k  = some r) :
  Calls Try.prog 28 #[] w fun e w' => e = .returned (.bool r) ∧ Below w.heap.size w w' := by
 have hu24 := Try.underlying24
 have hu49 := Try.underlying49
 have HB := am (Below.refl w.heap.size w)
 have H : ((record_Files.f k (([(⟨0, 2, 0, 0, 0, ([] : List Int), ([] : List Int)⟩ : S24)] : List (S24))) 1 1 ([] : List (S57)) 1 ([] : List Int)).bind fun bt482 => (if bt482.2 = 0 then (if (bt482.1.length : Int) = 1 then (if 0 < (bt482.1.length : Int) then (some (decide (((rd_L5 bt482.1 0).length : Int) > 10))) else (none)) else (some false)) else (some false))) = some r := h
 clear h
 obtain ⟨y479, hy479⟩ : ∃ y_ : List (S24), y_ = (([(⟨0, 2, 0, 0, 0, ([] : List Int), ([] : List Int)⟩ : S24)] : List (S24))) := ⟨_, rfl⟩
 replace H : ((record_Files.f k y479 1 1 ([] : List (S57)) 1 ([] : List Int)).bind fun bt482 => (if bt482.2 = 0 then (if (bt482.1.length : Int) = 1 then (if 0 < (bt482.1.length : Int) then (some (decide (((rd_L5 bt482.1 0).length : Int) > 10))) else (none)) else (some false)) else (some false))) = some r := by first | (rw [hy479]; with_reducible exact H) | (have H2_ := (Option.bind_some _ _).symm.trans H; rw [hy479]; with_reducible exact H2_) | (have H2_ := (Option.bind_some _ _).symm.trans H; with_reducible exact H2_) | with_reducible exact H | (rw [hy479]; exact H) | exact H
 have Ny479 := am hy479
 clear hy479
 replace H := Option.bind_eq_some_iff.mp H
 obtain ⟨⟨t482, t485⟩, A10, H⟩ := H
 (try dsimp only at H)
 have A1 := am A10
 clear A10
 by_cases c2 : t485 = 0
 ·
  rw [if_pos c2] at H
  obtain ⟨c2b0, c2b1⟩ := zt c2
  clear c2
  by_cases c3 : (t482.length : Int) = 1
  ·
   rw [if_pos c3] at H
   obtain ⟨c3b0, c3b1⟩ := zt c3
   clear c3
   by_cases c4 : 0 < (t482.length : Int)
   ·
    rw [if_pos c4] at H
    have c4b0 := decide_eq_true c4
    have c4b1 : decide (0 < t482.length) = true := decide_eq_true (by omega)
    clear c4
    obtain rfl := Option.some.inj H
    go_enter Try.func28, Try.ntmps28
    go_wp2_with (first | ((with_reducible refine gate_dst (N := 5) rfl ?_); (try (refine gate_guard (by rfl) ?_; dsimp only)); refine Kd.S_lit k24 _ 24 ?hg (N := 5) ?hd (xs := ([(⟨0, 2, 0, 0, 0, ([] : List Int), ([] : List Int)⟩ : S24)] : List (S24))) (inner := [.int .i64 0, .int .i64 2, .int .i64 0, .int .i64 0, .int .i64 0, .slice none 0 0, .slice none 0 0]) (ok := fun _ => True) (okp := fun _ => True) ?hr ?hp (fun _ hk => hk) trivial (Below.refl _ _) (Nat.le_refl _) (by simp) ?_; (case hd => rfl); (case hg => rfl); (case hr => exact y21); (case hp => exact y6); intro v480 w5 ho6 hb hg_ hnew_; clear hg_ hnew_; (first | rw [← Ny479.out] at ho6 | (simp only [Int.reduceToNat] at ho6; rw [← Ny479.out] at ho6)); have HO481 := am (Kd.S_lower ho6 (below_size (zb HB))); replace HB := am (below_step (zb HB) hb); clear hb ho6; obtain ⟨Ao7, co7, eo7⟩ := Kd.S_slice HO481.out; subst eo7) | ((with_reducible refine gate_callee (f := 25) rfl ?_); refine goesL_ (some 7) rfl rfl Try.func25 (by kernel_rfl) rfl #[.slice Ao7 y479.length co7, .int .i64 1, .agg #[.int .i64 1, .slice none 0 0, .int .i64 1, .slice none 0 0]] rfl zg ?_; (refine (record_Files.calls k _ _ y479 1 1 _ _ ([] : List (S57)) 1 _ _ ([] : List Int) t482 t485 _ ?side1 ?side2 ?side3 ?side4 ?side5 ?side6 A1.out).mono ?_); (case side1 => exact zC ((Kd.S_reads' HO481.out).2.2)); (case side2 => exact (Kd.S_reads' HO481.out).2.1); (case side3 => exact Kd.C_nil _ _); (case side4 => exact Nat.le_refl _); (case side5 => exact Kd.C_nil _ _); (case side6 => exact Nat.le_refl _); rintro e w8 ⟨v483, rfl, ho0, hb⟩; refine ⟨_, rfl, ?_⟩; replace HO481 := am (Kd.S_below (zS HO481.out) hb); have HO484 := am (Kd.S_lower ho0 (below_size (zb HB))); replace HB := am (below_step (zb HB) hb); clear hb ho0; obtain ⟨Ao9, co9, eo9⟩ := Kd.S_slice HO484.out; subst eo9; have p486 : 0 ≤ (0 : Int) := (by omega); have q486 : 0 < (t482.length : Int) := zo; obtain ⟨ad486, A486_0, c486_0, e486, hx486_0, hl486_0, hi486_0⟩ := at_L5 (Kd.S_reads' HO484.out).2.2 0 p486 q486; cases e486; obtain ⟨ce486, hce486, hMe486, hcc486⟩ := Kd.S_get HO484.out [] 0 p486 (by first | exact q486 | exact zo | (have e_ := (Kd.S_reads' HO484.out).1; omega)); obtain ⟨ve486_0, rfl, ge486_0⟩ := hMe486; have hv486_0 := hcc486 0 _ rfl; rw [Nat.add_zero, show ((Kd.slice 5 (Kd.int .u8))).sz = 1 from rfl, Nat.mul_one] at hv486_0; replace hv486_0 := Option.some.inj (hv486_0.symm.trans hx486_0); rw [hv486_0] at ge486_0; have HL486_0 := am (show Kd.R (Kd.int .u8) 5 _ _ _ _ (rd_L5 t482 0) from ge486_0); clear hv486_0 ge486_0; clear hcc486 hce486; have qi486 : (0 < t482.length) = True := eq_true (by omega); (try rw [show ((0 : Int)).toNat = 0 from rfl] at hx486_0); (try rw [Addr.add_zero'] at hx486_0); have HR486_0 := am hi486_0; have HC486_0 := am hl486_0; clear hi486_0 hl486_0; replace p486 := eq_true p486; replace q486 := eq_true q486))
    go_ret
    exact ⟨ze, zb HB⟩
   ·
    rw [if_neg c4] at H
    exact absurd H (by simp)
  ·
   rw [if_neg c3] at H
   obtain ⟨c3b0, c3b1⟩ := zs c3
   obtain rfl := Option.some.inj H
   go_enter Try.func28, Try.ntmps28
   go_wp2_with (first | ((with_reducible refine gate_dst (N := 5) rfl ?_); (try (refine gate_guard (by rfl) ?_; dsimp only)); refine Kd.S_lit k24 _ 24 ?hg (N := 5) ?hd (xs := ([(⟨0, 2, 0, 0, 0, ([] : List Int), ([] : List Int)⟩ : S24)] : List (S24))) (inner := [.int .i64 0, .int .i64 2, .int .i64 0, .int .i64 0, .int .i64 0, .slice none 0 0, .slice none 0 0]) (ok := fun _ => True) (okp := fun _ => True) ?hr ?hp (fun _ hk => hk) trivial (Below.refl _ _) (Nat.le_refl _) (by simp) ?_; (case hd => rfl); (case hg => rfl); (case hr => exact y21); (case hp => exact y6); intro v480 w10 ho11 hb hg_ hnew_; clear hg_ hnew_; (first | rw [← Ny479.out] at ho11 | (simp only [Int.reduceToNat] at ho11; rw [← Ny479.out] at ho11)); have HO481 := am (Kd.S_lower ho11 (below_size (zb HB))); replace HB := am (below_step (zb HB) hb); clear hb ho11; obtain ⟨Ao12, co12, eo12⟩ := Kd.S_slice HO481.out; subst eo12) | ((with_reducible refine gate_callee (f := 25) rfl ?_); refine goesL_ (some 7) rfl rfl Try.func25 (by kernel_rfl) rfl #[.slice Ao12 y479.length co12, .int .i64 1, .agg #[.int .i64 1, .slice none 0 0, .int .i64 1, .slice none 0 0]] rfl zg ?_; (refine (record_Files.calls k _ _ y479 1 1 _ _ ([] : List (S57)) 1 _ _ ([] : List Int) t482 t485 _ ?side1 ?side2 ?side3 ?side4 ?side5 ?side6 A1.out).mono ?_); (case side1 => exact zC ((Kd.S_reads' HO481.out).2.2)); (case side2 => exact (Kd.S_reads' HO481.out).2.1); (case side3 => exact Kd.C_nil _ _); (case side4 => exact Nat.le_refl _); (case side5 => exact Kd.C_nil _ _); (case side6 => exact Nat.le_refl _); rintro e w13 ⟨v483, rfl, ho0, hb⟩; refine ⟨_, rfl, ?_⟩; replace HO481 := am (Kd.S_below (zS HO481.out) hb); have HO484 := am (Kd.S_lower ho0 (below_size (zb HB))); replace HB := am (below_step (zb HB) hb); clear hb ho0; obtain ⟨Ao14, co14, eo14⟩ := Kd.S_slice HO484.out; subst eo14))
   go_ret
   exact ⟨ze, zb HB⟩
 ·
  rw [if_neg c2] at H
  obtain ⟨c2b0, c2b1⟩ := zs c2
  obtain rfl := Option.some.inj H
  go_enter Try.func28, Try.ntmps28
  go_wp2_with (first | ((with_reducible refine gate_dst (N := 5) rfl ?_); (try (refine gate_guard (by rfl) ?_; dsimp only)); refine Kd.S_lit k24 _ 24 ?hg (N := 5) ?hd (xs := ([(⟨0, 2, 0, 0, 0, ([] : List Int), ([] : List Int)⟩ : S24)] : List (S24))) (inner := [.int .i64 0, .int .i64 2, .int .i64 0, .int .i64 0, .int .i64 0, .slice none 0 0, .slice none 0 0]) (ok := fun _ => True) (okp := fun _ => True) ?hr ?hp (fun _ hk => hk) trivial (Below.refl _ _) (Nat.le_refl _) (by simp) ?_; (case hd => rfl); (case hg => rfl); (case hr => exact y21); (case hp => exact y6); intro v480 w15 ho16 hb hg_ hnew_; clear hg_ hnew_; (first | rw [← Ny479.out] at ho16 | (simp only [Int.reduceToNat] at ho16; rw [← Ny479.out] at ho16)); have HO481 := am (Kd.S_lower ho16 (below_size (zb HB))); replace HB := am (below_step (zb HB) hb); clear hb ho16; obtain ⟨Ao17, co17, eo17⟩ := Kd.S_slice HO481.out; subst eo17) | ((with_reducible refine gate_callee (f := 25) rfl ?_); refine goesL_ (some 7) rfl rfl Try.func25 (by kernel_rfl) rfl #[.slice Ao17 y479.length co17, .int .i64 1, .agg #[.int .i64 1, .slice none 0 0, .int .i64 1, .slice none 0 0]] rfl zg ?_; (refine (record_Files.calls k _ _ y479 1 1 _ _ ([] : List (S57)) 1 _ _ ([] : List Int) t482 t485 _ ?side1 ?side2 ?side3 ?side4 ?side5 ?side6 A1.out).mono ?_); (case side1 => exact zC ((Kd.S_reads' HO481.out).2.2)); (case side2 => exact (Kd.S_reads' HO481.out).2.1); (case side3 => exact Kd.C_nil _ _); (case side4 => exact Nat.le_refl _); (case side5 => exact Kd.C_nil _ _); (case side6 => exact Nat.le_refl _); rintro e w18 ⟨v483, rfl, ho0, hb⟩; refine ⟨_, rfl, ?_⟩; replace HO481 := am (Kd.S_below (zS HO481.out) hb); have HO484 := am (Kd.S_lower ho0 (below_size (zb HB))); replace HB := am (below_step (zb HB) hb); clear hb ho0))
  go_ret
  exact ⟨ze, zb HB⟩
end Go.Proofs.Ytnmmkgagbfniiaa.A
end
section
namespace Go.Proofs.Ytnmmkgagbfniiaa.Pl
open Go.RowKit Go.Proofs.YtnmmkgagbfniiaaW.PrintWords Go.Proofs.YtnmmkgagbfniiaaW.PrintMore Go.Proofs.Ytnmmkgagbfniiaa.A
set_option linter.unusedVariables false
theorem record_awake : Ev (fun k => l14_awake.f k) true := by
 have hl := aw_len
 have hd : decide (((rd_L5 [[] ++ (encS 0 0 awB).1] 0).length : Int) > 10) = true := decide_eq_true (by rw [show rd_L5 [[] ++ (encS 0 0 awB).1] 0 = [] ++ (encS 0 0 awB).1 from rfl, List.nil_append]; omega)
 refine Ev.bind aw_files (Ev.congr (fun k => (if_pos rfl).trans ((if_pos rfl).trans (if_pos (by show (0 : Int) < 1; decide)))) ?_)
 show Ev (fun _ => some (decide (((rd_L5 [[] ++ (encS 0 0 awB).1] 0).length : Int) > 10))) true
 rw [hd]
 exact Ev.now _
end Go.Proofs.Ytnmmkgagbfniiaa.Pl
end
section
namespace Go.Proofs.Ytnmmkgagbfniiaa.A
open Go.RowKit Go.Proofs.YtnmmkgagbfniiaaW.PrintWords Go.Proofs.YtnmmkgagbfniiaaW.PrintLast Go.Proofs.YtnmmkgagbfniiaaW.PrintMore
attribute [local go_sem] max2_int min2_int max_two min_two max_three min_three max_four min_four
set_option linter.unusedVariables false
set_option linter.unusedSimpArgs false
def l14_large.l0 : Nat → List (S24) → Int → Int → Int → List (S57) → Int → List Int → Option (Bool)
 | 0, _, _, _, _, _, _, _ => none
 | k + 1, x0, x5, x6, x430000, x430001, x430002, x430003 => if x6 < (x0.length : Int) then (if 0 ≤ x6 then (if (wrap64 ((wrap64 (x5 + (((rd_T24 x0 x6).f5).length : Int))) + (((rd_T24 x0 x6).f6).length : Int))) > 2000 then (some true) else (l14_large.l0 k x0 (wrap64 ((wrap64 (x5 + (((rd_T24 x0 x6).f5).length : Int))) + (((rd_T24 x0 x6).f6).length : Int))) (wrap64 (x6 + 1)) x430000 x430001 x430002 x430003)) else (none)) else (if (x0.length : Int) > 500 then (some true) else (if (x430001.length : Int) > 50 then (some true) else (some (decide ((x430003.length : Int) > 10)))))
def l14_large.f (k : Nat) (l0 : List (S24)) (a1_0 : Int) (l1_1 : List (S57)) (a1_2 : Int) (l1_3 : List Int) : Option (Bool) := l14_large.l0 k l0 0 0 a1_0 l1_1 a1_2 l1_3
theorem l14_large.mono_l : ∀ k, (∀ y0 y1 y2 y3 y4 y5 y6, LeO (l14_large.l0 k y0 y1 y2 y3 y4 y5 y6) (l14_large.l0 (k + 1) y0 y1 y2 y3 y4 y5 y6))
 | 0 => fun _ _ _ _ _ _ _ r h => by simp [l14_large.l0] at h
 | k + 1 => by
  have ih0 := l14_large.mono_l k
  ·
   intro y0 y1 y2 y3 y4 y5 y6
   unfold l14_large.l0
   exact zM
theorem l14_large.mono : ∀ a0 a1 a2 a3 a4 k, LeO (l14_large.f k a0 a1 a2 a3 a4) (l14_large.f (k + 1) a0 a1 a2 a3 a4) := by
 intro a0 a1 a2 a3 a4 k
 have ih0 := l14_large.mono_l k
 unfold l14_large.f
 exact zM
set_option maxHeartbeats 8000000 in
set_option maxRecDepth 100000 in
theorem l14_large.calls (k : Nat) (A0 : Option Addr) (c0 : Nat) (l0 : List (S24)) (a1_0 : Int) (A1_1 : Option Addr) (c1_1 : Nat) (l1_1 : List (S57)) (a1_2 : Int) (A1_3 : Option Addr) (c1_3 : Nat) (l1_3 : List Int) (r : Bool) (w : World) (hr0 : Kd.C k24 w A0 l0.length l0) (hc0 : l0.length ≤ c0) (hr1_1 : Kd.C k57 w A1_1 l1_1.length l1_1) (hc1_1 : l1_1.length ≤ c1_1) (hr1_3 : Kd.C (Kd.int .i64) w A1_3 l1_3.length l1_3) (hc1_3 : l1_3.length ≤ c1_3) (h : l14_large.f k l0 a1_0 l1_1 a1_2 l1_3 = some r) :
  Calls Try.prog 24 #[.slice A0 l0.length c0, .agg #[.int .i64 a1_0, .slice A1_1 l1_1.length c1_1, .int .i64 a1_2, .slice A1_3 l1_3.length c1_3]] w fun e w' => e = .returned (.bool r) ∧ Below w.heap.size w w' := by
 have hu49 := Try.underlying49
 have HR0 := am hr0
 have HC0 := am hc0
 clear hr0 hc0
 have HR1_1 := am hr1_1
 have HC1_1 := am hc1_1
 clear hr1_1 hc1_1
 have HR1_3 := am hr1_3
 have HC1_3 := am hc1_3
 clear hr1_3 hc1_3
 have HB := am (Below.refl w.heap.size w)
 have H : (l14_large.l0 k l0 0 0 a1_0 l1_1 a1_2 l1_3) = some r := h
 clear h
 have H' := am H
 clear H
 go_enter Try.func24, Try.ntmps24
 go_wp2_with (first | ((with_reducible refine gate_dst (N := 3) rfl ?_); (try (refine gate_guard (by rfl) ?_; dsimp only)); refine zB 3 #[.int .i64 a1_0, .slice A1_1 l1_1.length c1_1, .int .i64 a1_2, .slice A1_3 l1_3.length c1_3] 49 ?_; intro gb429 hg w3 hbox hb; have BK429 := am (hbox); have GE429 := zG hg (zb HB); replace HB := am (below_step (zb HB) hb); clear hb hbox hg))
 repeat (go_quiet (first | ((with_reducible refine gate_dst (N := 3) rfl ?_); (try (refine gate_guard (by rfl) ?_; dsimp only)); refine zB 3 #[.int .i64 a1_0, .slice A1_1 l1_1.length c1_1, .int .i64 a1_2, .slice A1_3 l1_3.length c1_3] 49 ?_; intro gb429 hg w3 hbox hb; have BK429 := am (hbox); have GE429 := zG hg (zb HB); replace HB := am (below_step (zb HB) hb); clear hb hbox hg)); try go_wp2_with (first | ((with_reducible refine gate_dst (N := 3) rfl ?_); (try (refine gate_guard (by rfl) ?_; dsimp only)); refine zB 3 #[.int .i64 a1_0, .slice A1_1 l1_1.length c1_1, .int .i64 a1_2, .slice A1_3 l1_3.length c1_3] 49 ?_; intro gb429 hg w3 hbox hb; have BK429 := am (hbox); have GE429 := zG hg (zb HB); replace HB := am (below_step (zb HB) hb); clear hb hbox hg)))
 go_loopg [5, 6] k (fun kq v5 v6 w' => ∃ (x5_1 : Int) (x6_1 : Int), v5 = .int .i64 x5_1 ∧ v6 = .int .i64 x6_1 ∧ Aside0 (l14_large.l0 kq l0 x5_1 x6_1 a1_0 l1_1 a1_2 l1_3 = some r) ∧ Aside0 (kq ≤ k) ∧ Aside0 (w'.heap[gb429]? = some (.cells #[.int .i64 a1_0, (.slice A1_1 l1_1.length c1_1), .int .i64 a1_2, (.slice A1_3 l1_3.length c1_3)] 49 (0, 0))) ∧ Aside0 (Below w.heap.size w w'))
 case atStart => exact ⟨(0), (0), zr, zr, H', ⟨Nat.le_refl _⟩, ⟨by refine zu ?_; exact BK429.out⟩, ⟨zb HB⟩⟩
 case round =>
  clear H'
  obtain ⟨x5_1, x6_1, rfl, rfl, HA, HK1, BK429, HB⟩ := hrel
  cases gk with
  | zero => exact absurd HA.out (by simp [l14_large.l0])
  | succ k1 =>
   have H := HA.out
   clear HA
   simp only [l14_large.l0] at H
   by_cases c4 : x6_1 < (l0.length : Int)
   ·
    rw [if_pos c4] at H
    have c4b0 := decide_eq_true c4
    clear c4
    by_cases c5 : 0 ≤ x6_1
    ·
     rw [if_pos c5] at H
     have c5b0 := decide_eq_true c5
     clear c5
     by_cases c6 : (wrap64 ((wrap64 (x5_1 + (((rd_T24 l0 x6_1).f5).length : Int))) + (((rd_T24 l0 x6_1).f6).length : Int))) > 2000
     ·
      rw [if_pos c6] at H
      have c6b0 : decide (2000 < (wrap64 ((wrap64 (x5_1 + (((rd_T24 l0 x6_1).f5).length : Int))) + (((rd_T24 l0 x6_1).f6).length : Int)))) = true := decide_eq_true c6
      clear c6
      obtain rfl := Option.some.inj H
      have p430 : 0 ≤ (x6_1 : Int) := zo
      have q430 : x6_1 < (l0.length : Int) := zo
      obtain ⟨ad430, A430_5, c430_5, A430_6, c430_6, e430, hx430_0, hx430_1, hx430_2, hx430_3, hx430_4, hx430_5, hx430_6, hl430_5, hi430_5, hl430_6, hi430_6⟩ := at_T24 HR0.out x6_1 p430 q430
      cases e430
      replace hx430_0 := zx HB hx430_0
      replace hx430_1 := zx HB hx430_1
      replace hx430_2 := zx HB hx430_2
      replace hx430_3 := zx HB hx430_3
      replace hx430_4 := zx HB hx430_4
      replace hx430_5 := zx HB hx430_5
      replace hx430_6 := zx HB hx430_6
      have HR430_5 := am hi430_5
      have HC430_5 := am hl430_5
      clear hi430_5 hl430_5
      have HR430_6 := am hi430_6
      have HC430_6 := am hl430_6
      clear hi430_6 hl430_6
      replace p430 := eq_true p430
      replace q430 := eq_true q430
      have p431 : 0 ≤ (x6_1 : Int) := zo
      have q431 : x6_1 < (l0.length : Int) := zo
      obtain ⟨ad431, A431_5, c431_5, A431_6, c431_6, e431, hx431_0, hx431_1, hx431_2, hx431_3, hx431_4, hx431_5, hx431_6, hl431_5, hi431_5, hl431_6, hi431_6⟩ := at_T24 HR0.out x6_1 p431 q431
      obtain rfl : ad430 = ad431 := (by injection e431)
      replace hx431_0 := zx HB hx431_0
      replace hx431_1 := zx HB hx431_1
      replace hx431_2 := zx HB hx431_2
      replace hx431_3 := zx HB hx431_3
      replace hx431_4 := zx HB hx431_4
      replace hx431_5 := zx HB hx431_5
      replace hx431_6 := zx HB hx431_6
      have HR431_5 := am hi431_5
      have HC431_5 := am hl431_5
      clear hi431_5 hl431_5
      have HR431_6 := am hi431_6
      have HC431_6 := am hl431_6
      clear hi431_6 hl431_6
      replace p431 := eq_true p431
      replace q431 := eq_true q431
      have ea_ := Option.some.inj (hx430_5.symm.trans hx431_5)
      injection ea_ with ea_ en_ ec_
      subst ea_
      subst ec_
      clear en_
      have ea_ := Option.some.inj (hx430_6.symm.trans hx431_6)
      injection ea_ with ea_ en_ ec_
      subst ea_
      subst ec_
      clear en_
      go_wp2
      repeat (go_quiet (fail); try go_wp2)
      go_ret
      exact ⟨ze, zb HB⟩
     ·
      rw [if_neg c6] at H
      have c6b0 : decide (2000 < (wrap64 ((wrap64 (x5_1 + (((rd_T24 l0 x6_1).f5).length : Int))) + (((rd_T24 l0 x6_1).f6).length : Int)))) = false := decide_eq_false c6
      clear c6
      have H' := am H
      clear H
      have p430 : 0 ≤ (x6_1 : Int) := zo
      have q430 : x6_1 < (l0.length : Int) := zo
      obtain ⟨ad430, A430_5, c430_5, A430_6, c430_6, e430, hx430_0, hx430_1, hx430_2, hx430_3, hx430_4, hx430_5, hx430_6, hl430_5, hi430_5, hl430_6, hi430_6⟩ := at_T24 HR0.out x6_1 p430 q430
      cases e430
      replace hx430_0 := zx HB hx430_0
      replace hx430_1 := zx HB hx430_1
      replace hx430_2 := zx HB hx430_2
      replace hx430_3 := zx HB hx430_3
      replace hx430_4 := zx HB hx430_4
      replace hx430_5 := zx HB hx430_5
      replace hx430_6 := zx HB hx430_6
      have HR430_5 := am hi430_5
      have HC430_5 := am hl430_5
      clear hi430_5 hl430_5
      have HR430_6 := am hi430_6
      have HC430_6 := am hl430_6
      clear hi430_6 hl430_6
      replace p430 := eq_true p430
      replace q430 := eq_true q430
      have p431 : 0 ≤ (x6_1 : Int) := zo
      have q431 : x6_1 < (l0.length : Int) := zo
      obtain ⟨ad431, A431_5, c431_5, A431_6, c431_6, e431, hx431_0, hx431_1, hx431_2, hx431_3, hx431_4, hx431_5, hx431_6, hl431_5, hi431_5, hl431_6, hi431_6⟩ := at_T24 HR0.out x6_1 p431 q431
      obtain rfl : ad430 = ad431 := (by injection e431)
      replace hx431_0 := zx HB hx431_0
      replace hx431_1 := zx HB hx431_1
      replace hx431_2 := zx HB hx431_2
      replace hx431_3 := zx HB hx431_3
      replace hx431_4 := zx HB hx431_4
      replace hx431_5 := zx HB hx431_5
      replace hx431_6 := zx HB hx431_6
      have HR431_5 := am hi431_5
      have HC431_5 := am hl431_5
      clear hi431_5 hl431_5
      have HR431_6 := am hi431_6
      have HC431_6 := am hl431_6
      clear hi431_6 hl431_6
      replace p431 := eq_true p431
      replace q431 := eq_true q431
      have ea_ := Option.some.inj (hx430_5.symm.trans hx431_5)
      injection ea_ with ea_ en_ ec_
      subst ea_
      subst ec_
      clear en_
      have ea_ := Option.some.inj (hx430_6.symm.trans hx431_6)
      injection ea_ with ea_ en_ ec_
      subst ea_
      subst ec_
      clear en_
      go_wp2
      repeat (go_quiet (fail); try go_wp2)
      go_roundg k1
      case measure => have := HK1.out; omega
      case rel => exact ⟨(wrap64 ((wrap64 (x5_1 + (((rd_T24 l0 x6_1).f5).length : Int))) + (((rd_T24 l0 x6_1).f6).length : Int))), (wrap64 (x6_1 + 1)), zr, zr, H', ⟨by have := HK1.out; omega⟩, ⟨by refine zu ?_; exact BK429.out⟩, ⟨zb HB⟩⟩
    ·
     rw [if_neg c5] at H
     exact absurd H (by simp)
   ·
    rw [if_neg c4] at H
    have c4b0 := decide_eq_false c4
    clear c4
    by_cases c7 : (l0.length : Int) > 500
    ·
     rw [if_pos c7] at H
     have c7b0 : decide (500 < (l0.length : Int)) = true := decide_eq_true c7
     have c7b1 : decide (500 < l0.length) = true := decide_eq_true (by omega)
     clear c7
     obtain rfl := Option.some.inj H
     go_wp2
     repeat (go_quiet (fail); try go_wp2)
     go_ret
     exact ⟨ze, zb HB⟩
    ·
     rw [if_neg c7] at H
     have c7b0 : decide (500 < (l0.length : Int)) = false := decide_eq_false c7
     have c7b1 : decide (500 < l0.length) = false := decide_eq_false (by omega)
     clear c7
     by_cases c8 : (l1_1.length : Int) > 50
     ·
      rw [if_pos c8] at H
      have c8b0 : decide (50 < (l1_1.length : Int)) = true := decide_eq_true c8
      have c8b1 : decide (50 < l1_1.length) = true := decide_eq_true (by omega)
      clear c8
      obtain rfl := Option.some.inj H
      obtain ⟨_, _, _, _, _, _, _, _⟩ := zq4 BK429
      go_wp2
      repeat (go_quiet (fail); try go_wp2)
      go_ret
      exact ⟨ze, zb HB⟩
     ·
      rw [if_neg c8] at H
      have c8b0 : decide (50 < (l1_1.length : Int)) = false := decide_eq_false c8
      have c8b1 : decide (50 < l1_1.length) = false := decide_eq_false (by omega)
      clear c8
      obtain rfl := Option.some.inj H
      obtain ⟨_, _, _, _, _, _, _, _⟩ := zq4 BK429
      go_wp2
      repeat (go_quiet (fail); try go_wp2)
      go_ret
      exact ⟨ze, zb HB⟩
def l14_same.l0 : Nat → List (List Int) → List (List Int) → Int → Option (Bool)
 | 0, _, _, _ => none
 | k + 1, x0, x1, x5 => if x5 < (x0.length : Int) then (if 0 ≤ x5 then (if x5 < (x1.length : Int) then ((j11_SameBytes.f k (rd_L5 x0 x5) (rd_L5 x1 x5)).bind fun t478 => (if t478 = true then (l14_same.l0 k x0 x1 (wrap64 (x5 + 1))) else (some false))) else (none)) else (none)) else (some true)
def l14_same.f (k : Nat) (l0 : List (List Int)) (l1 : List (List Int)) : Option (Bool) := if (l0.length : Int) = (l1.length : Int) then (l14_same.l0 k l0 l1 0) else (some false)
theorem l14_same.mono_l : ∀ k, (∀ y0 y1 y2, LeO (l14_same.l0 k y0 y1 y2) (l14_same.l0 (k + 1) y0 y1 y2))
 | 0 => fun _ _ _ r h => by simp [l14_same.l0] at h
 | k + 1 => by
  have ih0 := l14_same.mono_l k
  ·
   intro y0 y1 y2
   unfold l14_same.l0
   exact zM
theorem l14_same.mono : ∀ a0 a1 k, LeO (l14_same.f k a0 a1) (l14_same.f (k + 1) a0 a1) := by
 intro a0 a1 k
 have ih0 := l14_same.mono_l k
 unfold l14_same.f
 exact zM
set_option maxHeartbeats 8000000 in
set_option maxRecDepth 100000 in
theorem l14_same.calls (k : Nat) (A0 : Option Addr) (c0 : Nat) (l0 : List (List Int)) (A1 : Option Addr) (c1 : Nat) (l1 : List (List Int)) (r : Bool) (w : World) (hr0 : Kd.C (Kd.slice 5 (Kd.int .u8)) w A0 l0.length l0) (hc0 : l0.length ≤ c0) (hr1 : Kd.C (Kd.slice 5 (Kd.int .u8)) w A1 l1.length l1) (hc1 : l1.length ≤ c1) (h : l14_same.f k l0 l1 = some r) :
  Calls Try.prog 27 #[.slice A0 l0.length c0, .slice A1 l1.length c1] w fun e w' => e = .returned (.bool r) ∧ Drawn0 w w' := by
 have HR0 := am hr0
 have HC0 := am hc0
 clear hr0 hc0
 have HR1 := am hr1
 have HC1 := am hc1
 clear hr1 hc1
 have H : (if (l0.length : Int) = (l1.length : Int) then (l14_same.l0 k l0 l1 0) else (some false)) = some r := h
 clear h
 by_cases c3 : (l0.length : Int) = (l1.length : Int)
 ·
  rw [if_pos c3] at H
  obtain ⟨c3b0, c3b1⟩ := zt c3
  have c3b2 : (l0.length == l1.length) = true := by first | simpa using c3 | (simp at c3 ⊢; omega)
  clear c3
  have H' := am H
  clear H
  go_enter Try.func27, Try.ntmps27
  go_wp2
  repeat (go_quiet (fail); try go_wp2)
  go_loopg [5] k (fun kq v5 w' => ∃ (x5_1 : Int), v5 = .int .i64 x5_1 ∧ Aside0 (l14_same.l0 kq l0 l1 x5_1 = some r) ∧ Aside0 (kq ≤ k) ∧ Drawn0 w w')
  case atStart => exact ⟨(0), zr, H', ⟨Nat.le_refl _⟩, by repeat (first | exact Drawn0.refl _ | apply Drawn0.step)⟩
  case round =>
   clear H'
   obtain ⟨x5_1, rfl, HA, HK1, ⟨m1, rfl⟩⟩ := hrel
   cases gk with
   | zero => exact absurd HA.out (by simp [l14_same.l0])
   | succ k1 =>
    have H := HA.out
    clear HA
    simp only [l14_same.l0] at H
    by_cases c4 : x5_1 < (l0.length : Int)
    ·
     rw [if_pos c4] at H
     have c4b0 := decide_eq_true c4
     clear c4
     by_cases c5 : 0 ≤ x5_1
     ·
      rw [if_pos c5] at H
      have c5b0 := decide_eq_true c5
      clear c5
      by_cases c6 : x5_1 < (l1.length : Int)
      ·
       rw [if_pos c6] at H
       have c6b0 := decide_eq_true c6
       clear c6
       replace H := Option.bind_eq_some_iff.mp H
       obtain ⟨t478, A70, H⟩ := H
       (try dsimp only at H)
       have A7 := am A70
       clear A70
       by_cases c8 : t478 = true
       ·
        subst c8
        have H1 : (l14_same.l0 k1 l0 l1 (wrap64 (x5_1 + 1))) = some r := by rw [if_pos rfl] at H; exact H
        clear H
        have H := H1
        clear H1
        have H' := am H
        clear H
        have p476 : 0 ≤ (x5_1 : Int) := zo
        have q476 : x5_1 < (l0.length : Int) := zo
        obtain ⟨ad476, A476_0, c476_0, e476, hx476_0, hl476_0, hi476_0⟩ := at_L5 HR0.out x5_1 p476 q476
        cases e476
        have HR476_0 := am hi476_0
        have HC476_0 := am hl476_0
        clear hi476_0 hl476_0
        replace p476 := eq_true p476
        replace q476 := eq_true q476
        have p477 : 0 ≤ (x5_1 : Int) := zo
        have q477 : x5_1 < (l1.length : Int) := zo
        obtain ⟨ad477, A477_0, c477_0, e477, hx477_0, hl477_0, hi477_0⟩ := at_L5 HR1.out x5_1 p477 q477
        cases e477
        have HR477_0 := am hi477_0
        have HC477_0 := am hl477_0
        clear hi477_0 hl477_0
        replace p477 := eq_true p477
        replace q477 := eq_true q477
        go_wp2_with (first | (go_at_call 18; (with_reducible refine (j11_SameBytes.calls k1 _ _ (rd_L5 l0 x5_1) _ _ (rd_L5 l1 x5_1) true _ ?side1 ?side2 ?side3 ?side4 A7.out).mono ?_); (case side1 => exact zC (HR476_0.out)); (case side2 => exact HC476_0.out); (case side3 => exact zC (HR477_0.out)); (case side4 => exact HC477_0.out); rintro e w' ⟨rfl, ⟨nd, rfl⟩⟩; (try first | exact ⟨rfl, _, World.drewN_drewN _ _ _⟩ | exact ⟨rfl, _, Eq.trans (World.drewN_drewN _ _ _) (congrArg (World.drewN _) (Nat.add_assoc _ _ _))⟩)))
        repeat (go_quiet (first | (go_at_call 18; (with_reducible refine (j11_SameBytes.calls k1 _ _ (rd_L5 l0 x5_1) _ _ (rd_L5 l1 x5_1) true _ ?side1 ?side2 ?side3 ?side4 A7.out).mono ?_); (case side1 => exact zC (HR476_0.out)); (case side2 => exact HC476_0.out); (case side3 => exact zC (HR477_0.out)); (case side4 => exact HC477_0.out); rintro e w' ⟨rfl, ⟨nd, rfl⟩⟩; (try first | exact ⟨rfl, _, World.drewN_drewN _ _ _⟩ | exact ⟨rfl, _, Eq.trans (World.drewN_drewN _ _ _) (congrArg (World.drewN _) (Nat.add_assoc _ _ _))⟩))); try go_wp2_with (first | (go_at_call 18; (with_reducible refine (j11_SameBytes.calls k1 _ _ (rd_L5 l0 x5_1) _ _ (rd_L5 l1 x5_1) true _ ?side1 ?side2 ?side3 ?side4 A7.out).mono ?_); (case side1 => exact zC (HR476_0.out)); (case side2 => exact HC476_0.out); (case side3 => exact zC (HR477_0.out)); (case side4 => exact HC477_0.out); rintro e w' ⟨rfl, ⟨nd, rfl⟩⟩; (try first | exact ⟨rfl, _, World.drewN_drewN _ _ _⟩ | exact ⟨rfl, _, Eq.trans (World.drewN_drewN _ _ _) (congrArg (World.drewN _) (Nat.add_assoc _ _ _))⟩))))
        go_roundg k1
        case measure => have := HK1.out; omega
        case rel => exact y33
       ·
        replace c8 := Bool.eq_false_iff.mpr c8
        subst c8
        have H1 : (some false) = some r := by rw [if_neg (show ¬ (false = true) by decide)] at H; exact H
        clear H
        have H := H1
        clear H1
        obtain rfl := Option.some.inj H
        have p476 : 0 ≤ (x5_1 : Int) := zo
        have q476 : x5_1 < (l0.length : Int) := zo
        obtain ⟨ad476, A476_0, c476_0, e476, hx476_0, hl476_0, hi476_0⟩ := at_L5 HR0.out x5_1 p476 q476
        cases e476
        have HR476_0 := am hi476_0
        have HC476_0 := am hl476_0
        clear hi476_0 hl476_0
        replace p476 := eq_true p476
        replace q476 := eq_true q476
        have p477 : 0 ≤ (x5_1 : Int) := zo
        have q477 : x5_1 < (l1.length : Int) := zo
        obtain ⟨ad477, A477_0, c477_0, e477, hx477_0, hl477_0, hi477_0⟩ := at_L5 HR1.out x5_1 p477 q477
        cases e477
        have HR477_0 := am hi477_0
        have HC477_0 := am hl477_0
        clear hi477_0 hl477_0
        replace p477 := eq_true p477
        replace q477 := eq_true q477
        go_wp2_with (first | (go_at_call 18; (with_reducible refine (j11_SameBytes.calls k1 _ _ (rd_L5 l0 x5_1) _ _ (rd_L5 l1 x5_1) false _ ?side1 ?side2 ?side3 ?side4 A7.out).mono ?_); (case side1 => exact zC (HR476_0.out)); (case side2 => exact HC476_0.out); (case side3 => exact zC (HR477_0.out)); (case side4 => exact HC477_0.out); rintro e w' ⟨rfl, ⟨nd, rfl⟩⟩; (try first | exact ⟨rfl, _, World.drewN_drewN _ _ _⟩ | exact ⟨rfl, _, Eq.trans (World.drewN_drewN _ _ _) (congrArg (World.drewN _) (Nat.add_assoc _ _ _))⟩)))
        repeat (go_quiet (first | (go_at_call 18; (with_reducible refine (j11_SameBytes.calls k1 _ _ (rd_L5 l0 x5_1) _ _ (rd_L5 l1 x5_1) false _ ?side1 ?side2 ?side3 ?side4 A7.out).mono ?_); (case side1 => exact zC (HR476_0.out)); (case side2 => exact HC476_0.out); (case side3 => exact zC (HR477_0.out)); (case side4 => exact HC477_0.out); rintro e w' ⟨rfl, ⟨nd, rfl⟩⟩; (try first | exact ⟨rfl, _, World.drewN_drewN _ _ _⟩ | exact ⟨rfl, _, Eq.trans (World.drewN_drewN _ _ _) (congrArg (World.drewN _) (Nat.add_assoc _ _ _))⟩))); try go_wp2_with (first | (go_at_call 18; (with_reducible refine (j11_SameBytes.calls k1 _ _ (rd_L5 l0 x5_1) _ _ (rd_L5 l1 x5_1) false _ ?side1 ?side2 ?side3 ?side4 A7.out).mono ?_); (case side1 => exact zC (HR476_0.out)); (case side2 => exact HC476_0.out); (case side3 => exact zC (HR477_0.out)); (case side4 => exact HC477_0.out); rintro e w' ⟨rfl, ⟨nd, rfl⟩⟩; (try first | exact ⟨rfl, _, World.drewN_drewN _ _ _⟩ | exact ⟨rfl, _, Eq.trans (World.drewN_drewN _ _ _) (congrArg (World.drewN _) (Nat.add_assoc _ _ _))⟩))))
        go_ret
        exact y3
      ·
       rw [if_neg c6] at H
       exact absurd H (by simp)
     ·
      rw [if_neg c5] at H
      exact absurd H (by simp)
    ·
     rw [if_neg c4] at H
     have c4b0 := decide_eq_false c4
     clear c4
     obtain rfl := Option.some.inj H
     go_wp2
     repeat (go_quiet (fail); try go_wp2)
     go_ret
     exact y3
 ·
  rw [if_neg c3] at H
  obtain ⟨c3b0, c3b1⟩ := zs c3
  have c3b2 : (l0.length == l1.length) = false := by first | simpa using c3 | (simp at c3 ⊢; omega)
  obtain rfl := Option.some.inj H
  go_enter Try.func27, Try.ntmps27
  go_wp2
  repeat (go_quiet (fail); try go_wp2)
  go_ret
  exact y3
def l14_RecordTells.f (k : Nat) (l0 : List (S24)) (a1 : Int) (a2_0 : Int) (l2_1 : List (S57)) (a2_2 : Int) (l2_3 : List Int) : Option (Bool) := (l14_large.f k l0 a2_0 l2_1 a2_2 l2_3).bind fun t488 => (if t488 = true then (some true) else ((record_Files.f k l0 a1 a2_0 l2_1 a2_2 l2_3).bind fun bt489 => ((j14_Files.f k l0 a1 a2_0 l2_1 a2_2 l2_3).bind fun bt493 => ((l14_same.f k bt489.1 bt493.1).bind fun t497 => (if t497 = true then (if bt489.2 = bt493.2 then ((l14_awake.f k).bind fun t498 => (some t498)) else (some false)) else (some false))))))
theorem l14_RecordTells.mono : ∀ a0 a1 a2 a3 a4 a5 k, LeO (l14_RecordTells.f k a0 a1 a2 a3 a4 a5) (l14_RecordTells.f (k + 1) a0 a1 a2 a3 a4 a5) := by
 intro a0 a1 a2 a3 a4 a5 k
 unfold l14_RecordTells.f
 exact zM
set_option maxHeartbeats 8000000 in
set_option maxRecDepth 100000 in
theorem l14_RecordTells.calls (k : Nat) (A0 : Option Addr) (c0 : Nat) (l0 : List (S24)) (a1 : Int) (a2_0 : Int) (A2_1 : Option Addr) (c2_1 : Nat) (l2_1 : List (S57)) (a2_2 : Int) (A2_3 : Option Addr) (c2_3 : Nat) (l2_3 : List Int) (r : Bool) (w : World) (hr0 : Kd.C k24 w A0 l0.length l0) (hc0 : l0.length ≤ c0) (hr2_1 : Kd.C k57 w A2_1 l2_1.length l2_1) (hc2_1 : l2_1.length ≤ c2_1) (hr2_3 : Kd.C (Kd.int .i64) w A2_3 l2_3.length l2_3) (hc2_3 : l2_3.length ≤ c2_3) (h : l14_RecordTells.f k l0 a1 a2_0 l2_1 a2_2 l2_3 = some r) :
  Calls Try.prog 6 #[.slice A0 l0.length c0, .int .i64 a1, .agg #[.int .i64 a2_0, .slice A2_1 l2_1.length c2_1, .int .i64 a2_2, .slice A2_3 l2_3.length c2_3]] w fun e w' => e = .returned (.bool r) ∧ Below w.heap.size w w' := by
 have hu49 := Try.underlying49
 have HR0 := am hr0
 have HC0 := am hc0
 clear hr0 hc0
 have HR2_1 := am hr2_1
 have HC2_1 := am hc2_1
 clear hr2_1 hc2_1
 have HR2_3 := am hr2_3
 have HC2_3 := am hc2_3
 clear hr2_3 hc2_3
 have HB := am (Below.refl w.heap.size w)
 have H : ((l14_large.f k l0 a2_0 l2_1 a2_2 l2_3).bind fun t488 => (if t488 = true then (some true) else ((record_Files.f k l0 a1 a2_0 l2_1 a2_2 l2_3).bind fun bt489 => ((j14_Files.f k l0 a1 a2_0 l2_1 a2_2 l2_3).bind fun bt493 => ((l14_same.f k bt489.1 bt493.1).bind fun t497 => (if t497 = true then (if bt489.2 = bt493.2 then ((l14_awake.f k).bind fun t498 => (some t498)) else (some false)) else (some false))))))) = some r := h
 clear h
 replace H := Option.bind_eq_some_iff.mp H
 obtain ⟨t488, A40, H⟩ := H
 (try dsimp only at H)
 have A4 := am A40
 clear A40
 by_cases c5 : t488 = true
 ·
  subst c5
  have H1 : (some true) = some r := by rw [if_pos rfl] at H; exact H
  clear H
  have H := H1
  clear H1
  obtain rfl := Option.some.inj H
  go_enter Try.func6, Try.ntmps6
  go_wp2_with (first | ((with_reducible refine gate_dst (N := 5) rfl ?_); refine zB 5 #[.int .i64 a2_0, .slice A2_1 l2_1.length c2_1, .int .i64 a2_2, .slice A2_3 l2_3.length c2_3] 49 ?_; intro gb487 hg w6 hbox hb; have BK487 := am (hbox); have GE487 := zG hg (zb HB); replace HB := am (below_step (zb HB) hb); clear hb hbox hg; obtain ⟨_, _, _, _, _, _, _, _⟩ := zq4 BK487) | ((with_reducible refine gate_callee (f := 24) rfl ?_); refine goesL_ (some 13) rfl rfl Try.func24 (by kernel_rfl) rfl #[.slice A0 l0.length c0, .agg #[.int .i64 a2_0, .slice A2_1 l2_1.length c2_1, .int .i64 a2_2, .slice A2_3 l2_3.length c2_3]] rfl zg ?_; (with_reducible refine (l14_large.calls k _ _ l0 a2_0 _ _ l2_1 a2_2 _ _ l2_3 true _ ?side1 ?side2 ?side3 ?side4 ?side5 ?side6 A4.out).mono ?_); (case side1 => exact y11); (case side2 => exact HC0.out); (case side3 => exact y22); (case side4 => exact HC2_1.out); (case side5 => exact y23); (case side6 => exact HC2_3.out); rintro e w8 ⟨rfl, hb⟩; refine ⟨_, rfl, ?_⟩; replace BK487 := zk BK487 hb; replace HB := am (below_step (zb HB) hb); clear hb))
  go_ret
  exact ⟨ze, zb HB⟩
 ·
  replace c5 := Bool.eq_false_iff.mpr c5
  subst c5
  have H1 : ((record_Files.f k l0 a1 a2_0 l2_1 a2_2 l2_3).bind fun bt489 => ((j14_Files.f k l0 a1 a2_0 l2_1 a2_2 l2_3).bind fun bt493 => ((l14_same.f k bt489.1 bt493.1).bind fun t497 => (if t497 = true then (if bt489.2 = bt493.2 then ((l14_awake.f k).bind fun t498 => (some t498)) else (some false)) else (some false))))) = some r := by rw [if_neg (show ¬ (false = true) by decide)] at H; exact H
  clear H
  have H := H1
  clear H1
  replace H := Option.bind_eq_some_iff.mp H
  obtain ⟨⟨t489, t492⟩, A90, H⟩ := H
  (try dsimp only at H)
  have A9 := am A90
  clear A90
  replace H := Option.bind_eq_some_iff.mp H
  obtain ⟨⟨t493, t496⟩, A100, H⟩ := H
  (try dsimp only at H)
  have A10 := am A100
  clear A100
  replace H := Option.bind_eq_some_iff.mp H
  obtain ⟨t497, A110, H⟩ := H
  (try dsimp only at H)
  have A11 := am A110
  clear A110
  by_cases c12 : t497 = true
  ·
   subst c12
   have H1 : (if t492 = t496 then ((l14_awake.f k).bind fun t498 => (some t498)) else (some false)) = some r := by rw [if_pos rfl] at H; exact H
   clear H
   have H := H1
   clear H1
   by_cases c13 : t492 = t496
   ·
    rw [if_pos c13] at H
    obtain ⟨c13b0, c13b1⟩ := zt c13
    clear c13
    replace H := Option.bind_eq_some_iff.mp H
    obtain ⟨t498, A140, H⟩ := H
    (try dsimp only at H)
    have A14 := am A140
    clear A140
    obtain rfl := Option.some.inj H
    go_enter Try.func6, Try.ntmps6
    go_wp2_with (first | ((with_reducible refine gate_dst (N := 5) rfl ?_); refine zB 5 #[.int .i64 a2_0, .slice A2_1 l2_1.length c2_1, .int .i64 a2_2, .slice A2_3 l2_3.length c2_3] 49 ?_; intro gb487 hg w15 hbox hb; have BK487 := am (hbox); have GE487 := zG hg (zb HB); replace HB := am (below_step (zb HB) hb); clear hb hbox hg; obtain ⟨_, _, _, _, _, _, _, _⟩ := zq4 BK487) | ((with_reducible refine gate_callee (f := 24) rfl ?_); refine goesL_ (some 13) rfl rfl Try.func24 (by kernel_rfl) rfl #[.slice A0 l0.length c0, .agg #[.int .i64 a2_0, .slice A2_1 l2_1.length c2_1, .int .i64 a2_2, .slice A2_3 l2_3.length c2_3]] rfl zg ?_; (with_reducible refine (l14_large.calls k _ _ l0 a2_0 _ _ l2_1 a2_2 _ _ l2_3 false _ ?side1 ?side2 ?side3 ?side4 ?side5 ?side6 A4.out).mono ?_); (case side1 => exact y11); (case side2 => exact HC0.out); (case side3 => exact y22); (case side4 => exact HC2_1.out); (case side5 => exact y23); (case side6 => exact HC2_3.out); rintro e w17 ⟨rfl, hb⟩; refine ⟨_, rfl, ?_⟩; replace BK487 := zk BK487 hb; replace HB := am (below_step (zb HB) hb); clear hb; obtain ⟨_, _, _, _, _, _, _, _⟩ := zq4 BK487) | ((with_reducible refine gate_callee (f := 25) rfl ?_); refine goesL_ (some 18) rfl rfl Try.func25 (by kernel_rfl) rfl #[.slice A0 l0.length c0, .int .i64 a1, .agg #[.int .i64 a2_0, .slice A2_1 l2_1.length c2_1, .int .i64 a2_2, .slice A2_3 l2_3.length c2_3]] rfl zg ?_; (with_reducible refine (record_Files.calls k _ _ l0 a1 a2_0 _ _ l2_1 a2_2 _ _ l2_3 t489 t492 _ ?side1 ?side2 ?side3 ?side4 ?side5 ?side6 A9.out).mono ?_); (case side1 => exact y11); (case side2 => exact HC0.out); (case side3 => exact y22); (case side4 => exact HC2_1.out); (case side5 => exact y23); (case side6 => exact HC2_3.out); rintro e w19 ⟨v490, rfl, ho0, hb⟩; refine ⟨_, rfl, ?_⟩; have HO491 := am (Kd.S_lower ho0 (below_size (zb HB))); replace BK487 := zk BK487 hb; replace HB := am (below_step (zb HB) hb); clear hb ho0; obtain ⟨_, _, _, _, _, _, _, _⟩ := zq4 BK487) | ((with_reducible refine gate_callee (f := 26) rfl ?_); refine goesL_ (some 25) rfl rfl Try.func26 (by kernel_rfl) rfl #[.slice A0 l0.length c0, .int .i64 a1, .agg #[.int .i64 a2_0, .slice A2_1 l2_1.length c2_1, .int .i64 a2_2, .slice A2_3 l2_3.length c2_3]] rfl zg ?_; (with_reducible refine (j14_Files.calls k _ _ l0 a1 a2_0 _ _ l2_1 a2_2 _ _ l2_3 t493 t496 _ ?side1 ?side2 ?side3 ?side4 ?side5 ?side6 A10.out).mono ?_); (case side1 => exact y11); (case side2 => exact HC0.out); (case side3 => exact y22); (case side4 => exact HC2_1.out); (case side5 => exact y23); (case side6 => exact HC2_3.out); rintro e w21 ⟨v494, rfl, ho0, hb⟩; refine ⟨_, rfl, ?_⟩; have HO495 := am (Kd.S_lower (Kd.S_new' ho0 (Kd.S_lt (zS HO491.out))) (below_size (zb HB))); replace HO491 := am (Kd.S_elder' (zS HO491.out) (Kd.S_base ho0) hb); replace BK487 := zk BK487 hb; replace HB := am (below_step (zb HB) hb); clear hb ho0; obtain ⟨Ao22, co22, eo22⟩ := Kd.S_slice HO491.out; subst eo22; obtain ⟨Ao23, co23, eo23⟩ := Kd.S_slice HO495.out; subst eo23) | ((with_reducible refine gate_callee (f := 27) rfl ?_); refine goesL_ (some 30) rfl rfl Try.func27 (by kernel_rfl) rfl #[.slice Ao22 t489.length co22, .slice Ao23 t493.length co23] rfl zg ?_; (with_reducible refine (l14_same.calls k _ _ t489 _ _ t493 true _ ?side1 ?side2 ?side3 ?side4 A11.out).mono ?_); (case side1 => exact zC ((Kd.S_reads' HO491.out).2.2)); (case side2 => exact (Kd.S_reads' HO491.out).2.1); (case side3 => exact zC ((Kd.S_reads' HO495.out).2.2)); (case side4 => exact (Kd.S_reads' HO495.out).2.1); rintro e w' ⟨rfl, ⟨nd, rfl⟩⟩; refine ⟨_, rfl, ?_⟩) | (go_at_call 28; (with_reducible refine (l14_awake.calls k  t498 _ A14.out).mono ?_); rintro e w24 ⟨rfl, hb⟩; replace HO491 := am (Kd.S_below (zS HO491.out) hb); replace HO495 := am (Kd.S_below (zS HO495.out) hb); replace BK487 := zk BK487 hb; replace HB := am (below_step (zb HB) hb); clear hb))
    go_ret
    exact ⟨ze, zb HB⟩
   ·
    rw [if_neg c13] at H
    obtain ⟨c13b0, c13b1⟩ := zs c13
    obtain rfl := Option.some.inj H
    go_enter Try.func6, Try.ntmps6
    go_wp2_with (first | ((with_reducible refine gate_dst (N := 5) rfl ?_); refine zB 5 #[.int .i64 a2_0, .slice A2_1 l2_1.length c2_1, .int .i64 a2_2, .slice A2_3 l2_3.length c2_3] 49 ?_; intro gb487 hg w25 hbox hb; have BK487 := am (hbox); have GE487 := zG hg (zb HB); replace HB := am (below_step (zb HB) hb); clear hb hbox hg; obtain ⟨_, _, _, _, _, _, _, _⟩ := zq4 BK487) | ((with_reducible refine gate_callee (f := 24) rfl ?_); refine goesL_ (some 13) rfl rfl Try.func24 (by kernel_rfl) rfl #[.slice A0 l0.length c0, .agg #[.int .i64 a2_0, .slice A2_1 l2_1.length c2_1, .int .i64 a2_2, .slice A2_3 l2_3.length c2_3]] rfl zg ?_; (with_reducible refine (l14_large.calls k _ _ l0 a2_0 _ _ l2_1 a2_2 _ _ l2_3 false _ ?side1 ?side2 ?side3 ?side4 ?side5 ?side6 A4.out).mono ?_); (case side1 => exact y11); (case side2 => exact HC0.out); (case side3 => exact y22); (case side4 => exact HC2_1.out); (case side5 => exact y23); (case side6 => exact HC2_3.out); rintro e w27 ⟨rfl, hb⟩; refine ⟨_, rfl, ?_⟩; replace BK487 := zk BK487 hb; replace HB := am (below_step (zb HB) hb); clear hb; obtain ⟨_, _, _, _, _, _, _, _⟩ := zq4 BK487) | ((with_reducible refine gate_callee (f := 25) rfl ?_); refine goesL_ (some 18) rfl rfl Try.func25 (by kernel_rfl) rfl #[.slice A0 l0.length c0, .int .i64 a1, .agg #[.int .i64 a2_0, .slice A2_1 l2_1.length c2_1, .int .i64 a2_2, .slice A2_3 l2_3.length c2_3]] rfl zg ?_; (with_reducible refine (record_Files.calls k _ _ l0 a1 a2_0 _ _ l2_1 a2_2 _ _ l2_3 t489 t492 _ ?side1 ?side2 ?side3 ?side4 ?side5 ?side6 A9.out).mono ?_); (case side1 => exact y11); (case side2 => exact HC0.out); (case side3 => exact y22); (case side4 => exact HC2_1.out); (case side5 => exact y23); (case side6 => exact HC2_3.out); rintro e w29 ⟨v490, rfl, ho0, hb⟩; refine ⟨_, rfl, ?_⟩; have HO491 := am (Kd.S_lower ho0 (below_size (zb HB))); replace BK487 := zk BK487 hb; replace HB := am (below_step (zb HB) hb); clear hb ho0; obtain ⟨_, _, _, _, _, _, _, _⟩ := zq4 BK487) | ((with_reducible refine gate_callee (f := 26) rfl ?_); refine goesL_ (some 25) rfl rfl Try.func26 (by kernel_rfl) rfl #[.slice A0 l0.length c0, .int .i64 a1, .agg #[.int .i64 a2_0, .slice A2_1 l2_1.length c2_1, .int .i64 a2_2, .slice A2_3 l2_3.length c2_3]] rfl zg ?_; (with_reducible refine (j14_Files.calls k _ _ l0 a1 a2_0 _ _ l2_1 a2_2 _ _ l2_3 t493 t496 _ ?side1 ?side2 ?side3 ?side4 ?side5 ?side6 A10.out).mono ?_); (case side1 => exact y11); (case side2 => exact HC0.out); (case side3 => exact y22); (case side4 => exact HC2_1.out); (case side5 => exact y23); (case side6 => exact HC2_3.out); rintro e w31 ⟨v494, rfl, ho0, hb⟩; refine ⟨_, rfl, ?_⟩; have HO495 := am (Kd.S_lower (Kd.S_new' ho0 (Kd.S_lt (zS HO491.out))) (below_size (zb HB))); replace HO491 := am (Kd.S_elder' (zS HO491.out) (Kd.S_base ho0) hb); replace BK487 := zk BK487 hb; replace HB := am (below_step (zb HB) hb); clear hb ho0; obtain ⟨Ao32, co32, eo32⟩ := Kd.S_slice HO491.out; subst eo32; obtain ⟨Ao33, co33, eo33⟩ := Kd.S_slice HO495.out; subst eo33) | ((with_reducible refine gate_callee (f := 27) rfl ?_); refine goesL_ (some 30) rfl rfl Try.func27 (by kernel_rfl) rfl #[.slice Ao32 t489.length co32, .slice Ao33 t493.length co33] rfl zg ?_; (with_reducible refine (l14_same.calls k _ _ t489 _ _ t493 true _ ?side1 ?side2 ?side3 ?side4 A11.out).mono ?_); (case side1 => exact zC ((Kd.S_reads' HO491.out).2.2)); (case side2 => exact (Kd.S_reads' HO491.out).2.1); (case side3 => exact zC ((Kd.S_reads' HO495.out).2.2)); (case side4 => exact (Kd.S_reads' HO495.out).2.1); rintro e w' ⟨rfl, ⟨nd, rfl⟩⟩; refine ⟨_, rfl, ?_⟩))
    go_ret
    exact ⟨ze, zb HB⟩
  ·
   replace c12 := Bool.eq_false_iff.mpr c12
   subst c12
   have H1 : (some false) = some r := by rw [if_neg (show ¬ (false = true) by decide)] at H; exact H
   clear H
   have H := H1
   clear H1
   obtain rfl := Option.some.inj H
   go_enter Try.func6, Try.ntmps6
   go_wp2_with (first | ((with_reducible refine gate_dst (N := 5) rfl ?_); refine zB 5 #[.int .i64 a2_0, .slice A2_1 l2_1.length c2_1, .int .i64 a2_2, .slice A2_3 l2_3.length c2_3] 49 ?_; intro gb487 hg w34 hbox hb; have BK487 := am (hbox); have GE487 := zG hg (zb HB); replace HB := am (below_step (zb HB) hb); clear hb hbox hg; obtain ⟨_, _, _, _, _, _, _, _⟩ := zq4 BK487) | ((with_reducible refine gate_callee (f := 24) rfl ?_); refine goesL_ (some 13) rfl rfl Try.func24 (by kernel_rfl) rfl #[.slice A0 l0.length c0, .agg #[.int .i64 a2_0, .slice A2_1 l2_1.length c2_1, .int .i64 a2_2, .slice A2_3 l2_3.length c2_3]] rfl zg ?_; (with_reducible refine (l14_large.calls k _ _ l0 a2_0 _ _ l2_1 a2_2 _ _ l2_3 false _ ?side1 ?side2 ?side3 ?side4 ?side5 ?side6 A4.out).mono ?_); (case side1 => exact y11); (case side2 => exact HC0.out); (case side3 => exact y22); (case side4 => exact HC2_1.out); (case side5 => exact y23); (case side6 => exact HC2_3.out); rintro e w36 ⟨rfl, hb⟩; refine ⟨_, rfl, ?_⟩; replace BK487 := zk BK487 hb; replace HB := am (below_step (zb HB) hb); clear hb; obtain ⟨_, _, _, _, _, _, _, _⟩ := zq4 BK487) | ((with_reducible refine gate_callee (f := 25) rfl ?_); refine goesL_ (some 18) rfl rfl Try.func25 (by kernel_rfl) rfl #[.slice A0 l0.length c0, .int .i64 a1, .agg #[.int .i64 a2_0, .slice A2_1 l2_1.length c2_1, .int .i64 a2_2, .slice A2_3 l2_3.length c2_3]] rfl zg ?_; (with_reducible refine (record_Files.calls k _ _ l0 a1 a2_0 _ _ l2_1 a2_2 _ _ l2_3 t489 t492 _ ?side1 ?side2 ?side3 ?side4 ?side5 ?side6 A9.out).mono ?_); (case side1 => exact y11); (case side2 => exact HC0.out); (case side3 => exact y22); (case side4 => exact HC2_1.out); (case side5 => exact y23); (case side6 => exact HC2_3.out); rintro e w38 ⟨v490, rfl, ho0, hb⟩; refine ⟨_, rfl, ?_⟩; have HO491 := am (Kd.S_lower ho0 (below_size (zb HB))); replace BK487 := zk BK487 hb; replace HB := am (below_step (zb HB) hb); clear hb ho0; obtain ⟨_, _, _, _, _, _, _, _⟩ := zq4 BK487) | ((with_reducible refine gate_callee (f := 26) rfl ?_); refine goesL_ (some 25) rfl rfl Try.func26 (by kernel_rfl) rfl #[.slice A0 l0.length c0, .int .i64 a1, .agg #[.int .i64 a2_0, .slice A2_1 l2_1.length c2_1, .int .i64 a2_2, .slice A2_3 l2_3.length c2_3]] rfl zg ?_; (with_reducible refine (j14_Files.calls k _ _ l0 a1 a2_0 _ _ l2_1 a2_2 _ _ l2_3 t493 t496 _ ?side1 ?side2 ?side3 ?side4 ?side5 ?side6 A10.out).mono ?_); (case side1 => exact y11); (case side2 => exact HC0.out); (case side3 => exact y22); (case side4 => exact HC2_1.out); (case side5 => exact y23); (case side6 => exact HC2_3.out); rintro e w40 ⟨v494, rfl, ho0, hb⟩; refine ⟨_, rfl, ?_⟩; have HO495 := am (Kd.S_lower (Kd.S_new' ho0 (Kd.S_lt (zS HO491.out))) (below_size (zb HB))); replace HO491 := am (Kd.S_elder' (zS HO491.out) (Kd.S_base ho0) hb); replace BK487 := zk BK487 hb; replace HB := am (below_step (zb HB) hb); clear hb ho0; obtain ⟨Ao41, co41, eo41⟩ := Kd.S_slice HO491.out; subst eo41; obtain ⟨Ao42, co42, eo42⟩ := Kd.S_slice HO495.out; subst eo42) | ((with_reducible refine gate_callee (f := 27) rfl ?_); refine goesL_ (some 30) rfl rfl Try.func27 (by kernel_rfl) rfl #[.slice Ao41 t489.length co41, .slice Ao42 t493.length co42] rfl zg ?_; (with_reducible refine (l14_same.calls k _ _ t489 _ _ t493 false _ ?side1 ?side2 ?side3 ?side4 A11.out).mono ?_); (case side1 => exact zC ((Kd.S_reads' HO491.out).2.2)); (case side2 => exact (Kd.S_reads' HO491.out).2.1); (case side3 => exact zC ((Kd.S_reads' HO495.out).2.2)); (case side4 => exact (Kd.S_reads' HO495.out).2.1); rintro e w' ⟨rfl, ⟨nd, rfl⟩⟩; refine ⟨_, rfl, ?_⟩))
   go_ret
   exact ⟨ze, zb HB⟩
end Go.Proofs.Ytnmmkgagbfniiaa.A
end
section
namespace Go.Proofs.Ytnmmkgagbfniiaa.A
open Go.RowKit Go.Proofs.YtnmmkgagbfniiaaW.PrintWords Go.Proofs.Ytnmmkgagbfniiaa.OpenKd
set_option linter.unusedVariables false
def l14_RecordTells.Pure : Prop := ∀ (x0 : List (S24)) (x1 : Int) (x2 : S49), (fun xs => xs.length ≤ maxLen ∧ xs.length * 88 ≤ 140737488351232 ∧ ∀ x ∈ xs, J24 x) x0 → (fun n => (Lit.int .i64 n).wf = true) x1 → J49 x2 → ∃ k, l14_RecordTells.f k x0 x1 (x2.f0) (x2.f1) (x2.f2) (x2.f3) = some true
end Go.Proofs.Ytnmmkgagbfniiaa.A
end
section
namespace Go.Proofs.Ytnmmkgagbfniiaa.Pl
open Go.RowKit Go.Proofs.YtnmmkgagbfniiaaW.PrintWords Go.Proofs.YtnmmkgagbfniiaaW.PrintMore Go.Proofs.Ytnmmkgagbfniiaa.A
set_option linter.unusedVariables false
theorem large14_loop (l : List S24) (fl : List S57) (cuts : List Int) (b c : Int) (hl : l.length ≤ 140737488355328) : ∀ (d i : Nat) (n : Int), i + d = l.length → ∃ r, Ev (fun k => l14_large.l0 k l n (i : Int) b fl c cuts) r ∧ (r = false → fl.length ≤ 50) := by
 intro d
 induction d with
 | zero =>
  intro i n hi
  have h0 : ∀ k, l14_large.l0 (k + 1) l n (i : Int) b fl c cuts = (if (l.length : Int) > 500 then (some true) else (if (fl.length : Int) > 50 then (some true) else (some (decide ((cuts.length : Int) > 10))))) := fun k => by
   simp only [l14_large.l0]
   rw [if_neg (by omega)]
  by_cases x1 : (l.length : Int) > 500
  ·
   exact ⟨true, Ev.step h0 (Ev.congr (fun k => if_pos x1) (Ev.now _)), fun h => by cases h⟩
  by_cases x2 : (fl.length : Int) > 50
  ·
   exact ⟨true, Ev.step h0 (Ev.congr (fun k => (if_neg x1).trans (if_pos x2)) (Ev.now _)), fun h => by cases h⟩
  ·
   exact ⟨_, Ev.step h0 (Ev.congr (fun k => (if_neg x1).trans (if_neg x2)) (Ev.now _)), fun _ => by omega⟩
 | succ d ih =>
  intro i n hi
  have hw : wrap64 ((i : Int) + 1) = ((i + 1 : Nat) : Int) := by rw [wrap64_id (by omega) (by omega)]; omega
  obtain ⟨m, hm⟩ : ∃ m, m = wrap64 ((wrap64 (n + (((rd_T24 l (i : Int)).f5).length : Int))) + (((rd_T24 l (i : Int)).f6).length : Int)) := ⟨_, rfl⟩
  have h0 : ∀ k, l14_large.l0 (k + 1) l n (i : Int) b fl c cuts = if m > 2000 then some true else l14_large.l0 k l m ((i + 1 : Nat) : Int) b fl c cuts := fun k => by
   simp only [l14_large.l0]
   rw [if_pos (by omega), if_pos (by omega), ← hm, hw]
  by_cases x : m > 2000
  ·
   exact ⟨true, Ev.step h0 (Ev.congr (fun k => if_pos x) (Ev.now _)), fun h => by cases h⟩
  ·
   obtain ⟨r, h1, h2⟩ := ih (i + 1) m (by omega)
   exact ⟨r, Ev.step h0 (Ev.congr (fun k => if_neg x) h1), h2⟩
theorem large14_f (l : List S24) (fl : List S57) (cuts : List Int) (b c : Int) (hl : l.length ≤ 140737488355328) : ∃ r, Ev (fun k => l14_large.f k l b fl c cuts) r ∧ (r = false → fl.length ≤ 50) := large14_loop l fl cuts b c hl l.length 0 0 (by omega)
theorem same14_loop (x : List (List Int)) (hl : x.length ≤ 4) (hx : ∀ r ∈ x, r.length ≤ 140737488355328) : ∀ (d i : Nat), i + d = x.length → Ev (fun k => l14_same.l0 k x x (i : Int)) true := by
 intro d
 induction d with
 | zero =>
  intro i hi
  exact Ev.step (fun k => by simp only [l14_same.l0]; rw [if_neg (by omega)]) (Ev.now _)
 | succ d ih =>
  intro i hi
  have hw : wrap64 ((i : Int) + 1) = ((i + 1 : Nat) : Int) := by rw [wrap64_id (by omega) (by omega)]; omega
  have h1 : (i : Int) < (x.length : Int) := by omega
  have hr := same_yes (rd_L5 x (i : Int)) (gd (P := fun r => r.length ≤ 140737488355328) (Nat.zero_le _) hx (i : Int).toNat)
  refine Ev.step (fun k => by simp only [l14_same.l0]; rw [if_pos h1, if_pos (by omega), if_pos h1, hw]) (Ev.bind hr ?_)
  exact Ev.congr (fun k => if_pos rfl) (ih (i + 1) (by omega))
theorem same14_yes (x : List (List Int)) (hl : x.length ≤ 4) (hx : ∀ r ∈ x, r.length ≤ 140737488355328) : Ev (fun k => l14_same.f k x x) true :=
 Ev.congr (fun k => if_pos rfl) (same14_loop x hl hx x.length 0 (by omega))
end Go.Proofs.Ytnmmkgagbfniiaa.Pl
namespace Go.Proofs.Ytnmmkgagbfniiaa.Pure
open Go.RowKit Go.Proofs.YtnmmkgagbfniiaaW.PrintWords Go.Proofs.YtnmmkgagbfniiaaW.PrintMore Go.Proofs.Ytnmmkgagbfniiaa.A Go.Proofs.Ytnmmkgagbfniiaa.Pl
set_option linter.unusedVariables false
theorem RecordTells : l14_RecordTells.Pure := by
 intro l a1 x hl ha hx
 obtain ⟨hl1, _, hl2⟩ := hl
 obtain ⟨_, ⟨hf1, _, _⟩, _, hc1, _, hc2⟩ := hx
 unfold maxLen at hl1 hf1 hc1
 obtain ⟨r, hb, hr⟩ := large14_f l x.f1 x.f3 x.f0 x.f2 (by omega)
 refine Ev.rounds (Ev.bind hb ?_)
 cases r with
 | true => exact Ev.congr (fun k => if_pos rfl) (Ev.now _)
 | false =>
  refine Ev.congr (fun k => if_neg (by decide)) ?_
  obtain ⟨q, q1, q2, q3, q4⟩ := files_both l a1 x.f0 x.f1 x.f2 x.f3 (by omega) (by omega) (hr rfl) (fun c h => i64_of (hc2 c h)) (fun e h => by obtain ⟨_, hk, ho, hv, hs, _⟩ := hl2 e h; exact ⟨i64_of hk, i64_of ho, i64_of hv, i64_of hs⟩)
  refine Ev.bind q1 (Ev.bind q2 (Ev.bind (same14_yes q.1 q3 q4) ?_))
  exact Ev.congr (fun k => (if_pos rfl).trans (if_pos rfl)) (Ev.bind record_awake (Ev.now _))
end Go.Proofs.Ytnmmkgagbfniiaa.Pure
end
