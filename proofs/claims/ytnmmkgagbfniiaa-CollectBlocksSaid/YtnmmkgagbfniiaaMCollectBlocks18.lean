/- MCollectBlocks18: texts of this session and of the kit's printer on the road to the statement CollectBlocks, laid into one and rid of what it doesn't need. No condition beyond what each fact names. -/
import Derived.Test.YtnmmkgagbfniiaaMCollectBlocks17
import Derived.Test.YtnmmkgagbfniiaaMCollectBlocks16
import Derived.Test.YtnmmkgagbfniiaaMCollectBlocks2
import Derived.Deep.Slices
import Derived.ChangeOld
import Derived.SizedLaws
import Derived.WideShapes
import Derived.Carry
import Derived.Test.YtnmmkgagbfniiaaMCollectBlocks1
import Derived.KernelRfl
import Derived.Test.YtnmmkgagbfniiaaMCollectBlocks7
import Derived.Test.YtnmmkgagbfniiaaMCollectBlocks5
import Derived.Test.YtnmmkgagbfniiaaMCollectBlocks8
import Derived.Test.YtnmmkgagbfniiaaMCollectBlocks10
import Derived.Test.YtnmmkgagbfniiaaMCollectBlocks14
import Derived.Test.YtnmmkgagbfniiaaMCollectBlocks9
import Derived.Test.YtnmmkgagbfniiaaMCollectBlocks13
import Derived.Test.YtnmmkgagbfniiaaMCollectBlocks15
section
namespace Go.Proofs.Ytnmmkgagbfniiaa.Pl
open Go.RowKit Go.Proofs.YtnmmkgagbfniiaaW.PrintWords Go.Proofs.YtnmmkgagbfniiaaW.PrintMore Go.Proofs.Ytnmmkgagbfniiaa.A
set_option linter.unusedVariables false
theorem rdT {l : List S26} {i : Nat} (h : i < l.length) : rd_T26 l (i : Int) = l[i] := by simp [rd_T26, List.getD_eq_getElem?_getD, List.getElem?_eq_getElem h]
def recB (r : S26) (q : Int) : List Int := encR (wrap64 (r.f0 - q)) r.f1.f1 r.f1.f2 r.f1.f3 r.f1.f4 r.f1.f5 r.f1.f6
def payS : Int → List S26 → List Int
 | _, [] => []
 | q, r :: rs => recB r q ++ payS r.f0 rs
def fit (th : Int) : Int → List S26 → Bool
 | _, [] => true
 | last, r :: rs => decide (r.f1.f0 = th ∧ last < r.f0 ∧ r.f1.f5.length ≤ 400 ∧ r.f1.f6.length ≤ 400) && fit th r.f0 rs
def chk (th first : Int) (l : List S26) : Int :=
 if 64 < l.length then 2 else if l.length = 0 ∨ th < 0 ∨ 4 ≤ th ∨ first < 0 ∨ 400 < first then 1 else if fit th (-1) l then 0 else 1
def RecOk (r : S26) : Prop := I64 r.f0 ∧ I64 r.f1.f1 ∧ I64 r.f1.f2 ∧ I64 r.f1.f3 ∧ I64 r.f1.f4
theorem check_loop (th first : Int) (l : List S26) (hl : l.length ≤ 140737488355328) : ∀ (d i : Nat) (last : Int), i + d = l.length →
  Ev (fun k => block_check.l0 k last l (l.length : Int) (i : Int) th first l) (if fit th last (l.drop i) then 0 else 1) := by
 intro d
 induction d with
 | zero =>
  intro i last hi
  refine Ev.step (f := fun _ => some _) (fun k => ?_) (Ev.now _)
  simp only [block_check.l0]
  rw [if_neg (by omega), List.drop_of_length_le (by omega)]
  rfl
 | succ d ih =>
  intro i last hi
  have hlt : i < l.length := by omega
  have hw : wrap64 ((i : Int) + 1) = ((i + 1 : Nat) : Int) := by rw [wrap64_id (by omega) (by omega)]; omega
  rw [List.drop_eq_getElem_cons hlt, fit]
  by_cases c : (l[i].f1.f0 = th ∧ last < l[i].f0 ∧ l[i].f1.f5.length ≤ 400 ∧ l[i].f1.f6.length ≤ 400)
  ·
   rw [decide_eq_true c, Bool.true_and]
   obtain ⟨c1, c2, c3, c4⟩ := c
   refine Ev.step (fun k => ?_) (ih (i + 1) l[i].f0 (by omega))
   simp only [block_check.l0]
   rw [if_pos (by omega), if_pos (by omega), if_pos (by omega), rdT hlt, if_pos c1, if_neg (by omega), if_neg (by omega), if_neg (by omega), hw]
  ·
   simp only [decide_eq_false c, Bool.false_and, Bool.false_eq_true, if_false]
   refine Ev.step (f := fun _ => some 1) (fun k => ?_) (Ev.now _)
   simp only [block_check.l0]
   rw [if_pos (by omega), if_pos (by omega), if_pos (by omega), rdT hlt]
   by_cases c1 : l[i].f1.f0 = th
   ·
    rw [if_pos c1]
    by_cases c2 : l[i].f0 ≤ last
    ·
     rw [if_pos c2]
    ·
     rw [if_neg c2]
     by_cases c3 : (l[i].f1.f5.length : Int) > 400
     ·
      rw [if_pos c3]
     ·
      rw [if_neg c3, if_pos (Decidable.byContradiction fun c4 => c ⟨c1, by omega, by omega, by omega⟩)]
   ·
    rw [if_neg c1]
theorem check_f (th first : Int) (l : List S26) : Ev (fun k => block_check.f k th first l) (chk th first l) := by
 unfold chk
 by_cases c0 : 64 < l.length
 ·
  rw [if_pos c0]
  refine Ev.congr (f := fun _ => some 2) (fun k => ?_) (Ev.now _)
  unfold block_check.f
  rw [if_pos (by omega)]
 ·
  rw [if_neg c0]
  have hb : Ev (fun k => block_check.j0 k true th first l) 1 := Ev.step (f := fun _ => some 1) (fun k => by simp only [block_check.j0]; exact if_pos trivial) (Ev.now _)
  by_cases c : l.length = 0 ∨ th < 0 ∨ 4 ≤ th ∨ first < 0 ∨ 400 < first
  ·
   rw [if_pos c]
   refine Ev.congr (fun k => ?_) hb
   unfold block_check.f
   rw [if_neg (by omega)]
   by_cases a1 : (l.length : Int) = 0
   ·
    rw [if_pos a1]
   ·
    rw [if_neg a1]
    by_cases a2 : th < 0
    ·
     rw [if_pos a2]
    ·
     rw [if_neg a2]
     by_cases a3 : th ≥ 4
     ·
      rw [if_pos a3]
     ·
      rw [if_neg a3]
      by_cases a4 : first < 0
      ·
       rw [if_pos a4]
      ·
       rw [if_neg a4, decide_eq_true (by omega)]
  ·
   rw [if_neg c]
   have := check_loop th first l (by omega) l.length 0 (-1) (by omega)
   rw [List.drop_zero] at this
   refine Ev.congr (f := fun k => block_check.j0 k false th first l) (fun k => ?_) (Ev.step (fun k => ?_) this)
   ·
    unfold block_check.f
    rw [if_neg (by omega), if_neg (by omega), if_neg (by omega), if_neg (by omega), if_neg (by omega), decide_eq_false (by omega)]
   ·
    simp only [block_check.j0]
    exact if_neg (by decide)
theorem fits_loop (th first : Int) (l : List S26) (hl : l.length ≤ 140737488355328) : ∀ (d i : Nat) (last : Int), i + d = l.length → -1 ≤ last → (i = 0 → last = -1) → (0 < i → last = (rd_T26 l ((i : Int) - 1)).f0) →
  Ev (fun k => j11_Fits.l0 k (i : Int) th first l) (if fit th last (l.drop i) then 0 else 1) := by
 intro d
 induction d with
 | zero =>
  intro i last hi _ _ _
  refine Ev.step (f := fun _ => some _) (fun k => ?_) (Ev.now _)
  simp only [j11_Fits.l0]
  rw [if_neg (by omega), List.drop_of_length_le (by omega)]
  rfl
 | succ d ih =>
  intro i last hi h1 hz hp
  have hlt : i < l.length := by omega
  have hw : wrap64 ((i : Int) + 1) = ((i + 1 : Nat) : Int) := by rw [wrap64_id (by omega) (by omega)]; omega
  have hv : 0 < i → wrap64 ((i : Int) - 1) = (i : Int) - 1 := fun h => wrap64_id (by omega) (by omega)
  rw [List.drop_eq_getElem_cons hlt, fit]
  by_cases c : (l[i].f1.f0 = th ∧ last < l[i].f0 ∧ l[i].f1.f5.length ≤ 400 ∧ l[i].f1.f6.length ≤ 400)
  ·
   rw [decide_eq_true c, Bool.true_and]
   obtain ⟨c1, c2, c3, c4⟩ := c
   refine Ev.step (fun k => ?_) (ih (i + 1) l[i].f0 (by omega) (by omega) (by omega) (fun _ => by rw [show (((i + 1 : Nat) : Int) - 1) = (i : Int) by omega, rdT hlt]))
   simp only [j11_Fits.l0]
   rw [if_pos (by omega), if_pos (by omega), rdT hlt, if_pos c1, if_neg (by omega), hw]
   by_cases cz : 0 < i
   ·
    have := hp cz
    rw [if_pos (by omega), hv cz, if_pos (by omega), if_pos (by omega), if_neg (by omega), if_neg (by omega), if_neg (by omega)]
   ·
    rw [if_neg (by omega), if_neg (by omega), if_neg (by omega)]
  ·
   simp only [decide_eq_false c, Bool.false_and, Bool.false_eq_true, if_false]
   refine Ev.step (f := fun _ => some 1) (fun k => ?_) (Ev.now _)
   simp only [j11_Fits.l0]
   rw [if_pos (by omega), if_pos (by omega), rdT hlt]
   by_cases c1 : l[i].f1.f0 = th
   ·
    rw [if_pos c1]
    by_cases c2 : l[i].f0 < 0
    ·
     rw [if_pos c2]
    ·
     rw [if_neg c2]
     have fin : last < l[i].f0 → (if (l[i].f1.f5.length : Int) > 400 then some (1 : Int) else if (l[i].f1.f6.length : Int) > 400 then some 1 else j11_Fits.l0 k (wrap64 ((i : Int) + 1)) th first l) = some 1 := by
      intro c3
      by_cases c4 : (l[i].f1.f5.length : Int) > 400
      ·
       rw [if_pos c4]
      ·
       rw [if_neg c4, if_pos (Decidable.byContradiction fun c5 => c ⟨c1, c3, by omega, by omega⟩)]
     by_cases cz : 0 < i
     ·
      have := hp cz
      rw [if_pos (by omega), hv cz, if_pos (by omega), if_pos (by omega), ← this]
      by_cases c3 : l[i].f0 ≤ last
      ·
       rw [if_pos c3]
      ·
       rw [if_neg c3, fin (by omega)]
     ·
      have := hz (by omega)
      rw [if_neg (by omega), fin (by omega)]
   ·
    rw [if_neg c1]
theorem fits_f (th first : Int) (l : List S26) : Ev (fun k => j11_Fits.f k th first l) (chk th first l) := by
 unfold chk
 by_cases c0 : 64 < l.length
 ·
  rw [if_pos c0]
  refine Ev.congr (f := fun _ => some 2) (fun k => ?_) (Ev.now _)
  unfold j11_Fits.f
  rw [if_pos (by omega)]
 ·
  rw [if_neg c0]
  have hb : Ev (fun k => j11_Fits.j0 k true th first l) 1 := Ev.step (f := fun _ => some 1) (fun k => by simp only [j11_Fits.j0]; exact if_pos trivial) (Ev.now _)
  by_cases c : l.length = 0 ∨ th < 0 ∨ 4 ≤ th ∨ first < 0 ∨ 400 < first
  ·
   rw [if_pos c]
   refine Ev.congr (fun k => ?_) hb
   unfold j11_Fits.f
   rw [if_neg (by omega)]
   by_cases a1 : (l.length : Int) = 0
   ·
    rw [if_pos a1]
   ·
    rw [if_neg a1]
    by_cases a2 : th < 0
    ·
     rw [if_pos a2]
    ·
     rw [if_neg a2]
     by_cases a3 : th ≥ 4
     ·
      rw [if_pos a3]
     ·
      rw [if_neg a3]
      by_cases a4 : first < 0
      ·
       rw [if_pos a4]
      ·
       rw [if_neg a4, decide_eq_true (by omega)]
  ·
   rw [if_neg c]
   have := fits_loop th first l (by omega) l.length 0 (-1) (by omega) (by omega) (fun _ => rfl) (by omega)
   rw [List.drop_zero] at this
   refine Ev.congr (f := fun k => j11_Fits.j0 k false th first l) (fun k => ?_) (Ev.step (fun k => ?_) this)
   ·
    unfold j11_Fits.f
    rw [if_neg (by omega), if_neg (by omega), if_neg (by omega), if_neg (by omega), if_neg (by omega), decide_eq_false (by omega)]
   ·
    simp only [j11_Fits.j0]
    exact if_neg (by decide)
theorem recB_len {r : S26} (q : Int) (h : RecOk r) (h5 : r.f1.f5.length ≤ 400) (h6 : r.f1.f6.length ≤ 400) : (recB r q).length ≤ 8070 := by
 have := encR_len (wrap64 (r.f0 - q)) r.f1.f1 r.f1.f2 r.f1.f3 r.f1.f4 r.f1.f5 r.f1.f6 (wrap64_I64 _) h.2.1 h.2.2.1 h.2.2.2.1 h.2.2.2.2 h5 h6
 unfold recB
 omega
theorem fit_cons {th last : Int} {r : S26} {rs : List S26} (h : fit th last (r :: rs) = true) : (r.f1.f0 = th ∧ last < r.f0 ∧ r.f1.f5.length ≤ 400 ∧ r.f1.f6.length ≤ 400) ∧ fit th r.f0 rs = true := by
 rw [fit, Bool.and_eq_true] at h
 exact ⟨of_decide_eq_true h.1, h.2⟩
theorem payS_len {th : Int} : ∀ {l : List S26} {q : Int}, fit th q l = true → (∀ r ∈ l, RecOk r) → (payS q l).length ≤ 8070 * l.length
 | [], _, _, _ => by simp [payS]
 | r :: rs, q, h, hr => by
  obtain ⟨⟨_, _, h5, h6⟩, h'⟩ := fit_cons h
  have h1 := recB_len q (hr r (by simp)) h5 h6
  have h2 := payS_len h' (fun r' h' => hr r' (by simp [h']))
  rw [payS, List.length_append, List.length_cons]
  omega
theorem payS_bytes : ∀ (l : List S26) (q : Int), ∀ c ∈ payS q l, 0 ≤ c ∧ c < 256
 | [], _, c, hc => by simp [payS] at hc
 | r :: rs, q, c, hc => by
  rw [payS] at hc
  rcases List.mem_append.1 hc with hc | hc
  ·
   exact encR_bytes _ _ _ _ _ _ _ c hc
  ·
   exact payS_bytes rs _ c hc
theorem refPayload_loop (th first : Int) (l : List S26) (hl : l.length ≤ 64) (hr : ∀ r ∈ l, RecOk r) : ∀ (d i : Nat) (x : List Int) (q : Int), i + d = l.length → fit th q (l.drop i) = true → x.length + 8070 * d ≤ 1000000 →
  Ev (fun k => j11_Payload.l0 k x q (i : Int) th first l) (x ++ payS q (l.drop i)) := by
 intro d
 induction d with
 | zero =>
  intro i x q hi _ _
  refine Ev.step (f := fun _ => some _) (fun k => ?_) (Ev.now _)
  simp only [j11_Payload.l0]
  rw [if_neg (by omega), List.drop_of_length_le (by omega), payS, List.append_nil]
 | succ d ih =>
  intro i x q hi hf hx
  have hlt : i < l.length := by omega
  have hw : wrap64 ((i : Int) + 1) = ((i + 1 : Nat) : Int) := by rw [wrap64_id (by omega) (by omega)]; omega
  rw [List.drop_eq_getElem_cons hlt] at hf ⊢
  obtain ⟨⟨_, _, h5, h6⟩, hf'⟩ := fit_cons hf
  have hk := hr l[i] (List.getElem_mem hlt)
  have hlen := recB_len q hk h5 h6
  refine Ev.step (f := fun k => (j11_Append.f k x l[i].f0 l[i].f1.f0 l[i].f1.f1 l[i].f1.f2 l[i].f1.f3 l[i].f1.f4 l[i].f1.f5 l[i].f1.f6 q).bind fun t => j11_Payload.l0 k t l[i].f0 ((i + 1 : Nat) : Int) th first l) (fun k => ?_) ?_
  ·
   simp only [j11_Payload.l0]
   rw [if_pos (by omega), if_pos (by omega), rdT hlt, hw]
  ·
   refine Ev.bind (refAppend_f x l[i].f0 l[i].f1.f0 l[i].f1.f1 l[i].f1.f2 l[i].f1.f3 l[i].f1.f4 l[i].f1.f5 l[i].f1.f6 q (by omega) hk.2.1 hk.2.2.1 hk.2.2.2.1 hk.2.2.2.2 h5 h6) ?_
   have := ih (i + 1) (x ++ recB l[i] q) l[i].f0 (by omega) hf' (by rw [List.length_append]; omega)
   rw [payS, ← List.append_assoc]
   exact this
theorem refPayload_f (th first : Int) (l : List S26) (hl : l.length ≤ 64) (hr : ∀ r ∈ l, RecOk r) (hf : fit th (-1) l = true) : Ev (fun k => j11_Payload.f k th first l) (payS (-1) l) := by
 have := refPayload_loop th first l hl hr l.length 0 [] (-1) (by omega) (by rw [List.drop_zero]; exact hf) (by simp only [List.length_nil]; omega)
 rw [List.drop_zero, List.nil_append] at this
 exact this
def encs : List Int → List Int
 | [] => []
 | a :: t => enc a ++ encs t
def headS (th first n : Int) (p : List Int) : List Int := [84, th % 256] ++ encs [first, n, (p.length : Int), ((packS p).length : Int)]
def bodyS (th first : Int) (l : List S26) : List Int := headS th first (l.length : Int) (payS (-1) l) ++ packS (payS (-1) l)
def sumB (b : List Int) : List Int := [((sumS b : Nat) : Int) / 16777216 % 256, ((sumS b : Nat) : Int) / 65536 % 256, ((sumS b : Nat) : Int) / 256 % 256, ((sumS b : Nat) : Int) % 256]
def encS (th first : Int) (l : List S26) : List Int × Int := if chk th first l = 0 then (bodyS th first l ++ sumB (bodyS th first l), 0) else ([], chk th first l)
theorem encs_len : ∀ (l : List Int), (∀ a ∈ l, I64 a) → (encs l).length ≤ 10 * l.length
 | [], _ => by simp [encs]
 | a :: t, h => by
  have h1 := enc_le (h a (by simp))
  have h2 := encs_len t (fun b hb => h b (by simp [hb]))
  rw [encs, List.length_append, List.length_cons]
  omega
theorem encs_bytes : ∀ (l : List Int), ∀ c ∈ encs l, 0 ≤ c ∧ c < 256
 | [], c, hc => by simp [encs] at hc
 | a :: t, c, hc => by
  rw [encs] at hc
  rcases List.mem_append.1 hc with hc | hc
  ·
   exact enc_bytes _ c hc
  ·
   exact encs_bytes t c hc
theorem chk_zero {th first : Int} {l : List S26} (h : chk th first l = 0) : l.length ≤ 64 ∧ 0 < l.length ∧ 0 ≤ th ∧ th < 4 ∧ 0 ≤ first ∧ first ≤ 400 ∧ fit th (-1) l = true := by
 unfold chk at h
 by_cases c0 : 64 < l.length
 ·
  rw [if_pos c0] at h
  omega
 ·
  rw [if_neg c0] at h
  by_cases c : l.length = 0 ∨ th < 0 ∨ 4 ≤ th ∨ first < 0 ∨ 400 < first
  ·
   rw [if_pos c] at h
   omega
  ·
   rw [if_neg c] at h
   cases hf : fit th (-1) l with
   | true => exact ⟨by omega, by omega, by omega, by omega, by omega, by omega, rfl⟩
   | false => rw [hf] at h; exact absurd h (by decide)
theorem packS_bytes {p : List Int} (hp : ∀ c ∈ p, 0 ≤ c ∧ c < 256) : ∀ c ∈ packS p, 0 ≤ c ∧ c < 256 := ch_bytes hp (packS_ch p)
theorem bodyS_bytes (th first : Int) (l : List S26) : ∀ c ∈ bodyS th first l, 0 ≤ c ∧ c < 256 := by
 intro c hc
 unfold bodyS headS at hc
 rcases List.mem_append.1 hc with hc | hc
 ·
  rcases List.mem_append.1 hc with hc | hc
  ·
   simp only [List.mem_cons, List.not_mem_nil, or_false] at hc
   omega
  ·
   exact encs_bytes _ c hc
 ·
  exact packS_bytes (payS_bytes l (-1)) c hc
theorem headS_len {th first n : Int} {p : List Int} (h1 : I64 first) (h2 : I64 n) (h3 : p.length ≤ 1000000) : (headS th first n p).length ≤ 42 := by
 have h4 := packS_length p
 have := encs_len [first, n, (p.length : Int), ((packS p).length : Int)] (fun a ha => by
  simp only [List.mem_cons, List.not_mem_nil, or_false] at ha
  rcases ha with rfl | rfl | rfl | rfl
  ·
   exact h1
  ·
   exact h2
  ·
   unfold I64; omega
  ·
   unfold I64; omega)
 unfold headS
 rw [List.length_append]
 simp only [List.length_cons, List.length_nil] at this ⊢
 omega
theorem bodyS_len {th first : Int} {l : List S26} (hr : ∀ r ∈ l, RecOk r) (h : chk th first l = 0) : (bodyS th first l).length ≤ 1100000 := by
 obtain ⟨h1, _, h2, h3, h4, h5, h6⟩ := chk_zero h
 have h7 := payS_len h6 hr
 have h8 := packS_length (payS (-1) l)
 have h9 := headS_len (th := th) (first := first) (n := (l.length : Int)) (p := payS (-1) l) (by unfold I64; omega) (by unfold I64; omega) (by omega)
 unfold bodyS
 rw [List.length_append]
 omega
theorem seal_f (b : List Int) (hm : b.length ≤ 1100000) (hb : ∀ c ∈ b, 0 ≤ c ∧ c < 256) : Ev (fun k => block_seal.f k b) (((sumS b : Nat) : Int) / 16777216 % 256, ((sumS b : Nat) : Int) / 65536 % 256, ((sumS b : Nat) : Int) / 256 % 256, ((sumS b : Nat) : Int) % 256) :=
 Ev.bind (sum_f b (by omega) hb) (Ev.now _)
theorem heads_loop {pkd vals : List Int} {R : List Int × Int} (hv : ∀ a ∈ vals, I64 a) (hl : vals.length ≤ 1000) : ∀ (d i : Nat) (x : List Int), i + d = vals.length → x.length + 10 * d ≤ 1000000 →
  Ev (fun k => if (x ++ encs (vals.drop i)).length + pkd.length < 140737488355328 then ((some (x ++ encs (vals.drop i) ++ pkd : List Int)).bind fun y => ((block_seal.f k y).bind fun bt => (if y.length + [bt.1, bt.2.1, bt.2.2.1, bt.2.2.2].length < 140737488355328 then (some ((y ++ [bt.1, bt.2.1, bt.2.2.1, bt.2.2.2]), 0)) else (none)))) else (none)) R →
  Ev (fun k => block_Encode.l1 k pkd x vals (vals.length : Int) (i : Int)) R := by
 intro d
 induction d with
 | zero =>
  intro i x hi _ h
  rw [List.drop_of_length_le (by omega), encs, List.append_nil] at h
  refine Ev.step (fun k => ?_) h
  simp only [block_Encode.l1]
  rw [if_neg (by omega)]
 | succ d ih =>
  intro i x hi hx h
  have hlt : i < vals.length := by omega
  have hw : wrap64 ((i : Int) + 1) = ((i + 1 : Nat) : Int) := by rw [wrap64_id (by omega) (by omega)]; omega
  have hq := hv vals[i] (List.getElem_mem hlt)
  have h10 := enc_le hq
  rw [List.drop_eq_getElem_cons hlt, encs, ← List.append_assoc] at h
  refine Ev.step (f := fun k => (event_PutInt.f k x vals[i]).bind fun t => block_Encode.l1 k pkd t vals (vals.length : Int) ((i + 1 : Nat) : Int)) (fun k => ?_) ?_
  ·
   simp only [block_Encode.l1]
   rw [if_pos (by omega), if_pos (by omega), if_pos (by omega), rd_at hlt, hw]
  ·
   exact Ev.bind (putInt_f hq.1 hq.2 x (by omega)) (ih (i + 1) (x ++ enc vals[i]) (by omega) (by rw [List.length_append]; omega) h)
theorem encode_loop (th first : Int) (l : List S26) (hl : l.length ≤ 64) (hr : ∀ r ∈ l, RecOk r) {R : List Int × Int} : ∀ (d i : Nat) (x : List Int) (q : Int), i + d = l.length → fit th q (l.drop i) = true → x.length + 8070 * d ≤ 1000000 →
  Ev (fun k => (pack_Pack.f k (x ++ payS q (l.drop i))).bind fun t => ((some (([first, (l.length : Int), ((x ++ payS q (l.drop i)).length : Int), (t.length : Int)] : List Int) : List Int)).bind fun y => (block_Encode.l1 k t (([84, th % 256] : List Int)) y (y.length : Int) 0))) R →
  Ev (fun k => block_Encode.l0 k x q l (l.length : Int) (i : Int) th first l) R := by
 intro d
 induction d with
 | zero =>
  intro i x q hi _ _ h
  rw [List.drop_of_length_le (by omega), payS, List.append_nil] at h
  refine Ev.step (fun k => ?_) h
  simp only [block_Encode.l0]
  rw [if_neg (by omega)]
 | succ d ih =>
  intro i x q hi hf hx h
  have hlt : i < l.length := by omega
  have hw : wrap64 ((i : Int) + 1) = ((i + 1 : Nat) : Int) := by rw [wrap64_id (by omega) (by omega)]; omega
  rw [List.drop_eq_getElem_cons hlt] at hf h
  obtain ⟨⟨_, _, h5, h6⟩, hf'⟩ := fit_cons hf
  have hk := hr l[i] (List.getElem_mem hlt)
  have hlen := recB_len q hk h5 h6
  rw [payS, ← List.append_assoc] at h
  refine Ev.step (f := fun k => (event_Append.f k [] l[i].f0 l[i].f1.f0 l[i].f1.f1 l[i].f1.f2 l[i].f1.f3 l[i].f1.f4 l[i].f1.f5 l[i].f1.f6 q).bind fun t => if x.length + t.length < 140737488355328 then block_Encode.l0 k (x ++ t) l[i].f0 l (l.length : Int) ((i + 1 : Nat) : Int) th first l else none) (fun k => ?_) ?_
  ·
   simp only [block_Encode.l0]
   rw [if_pos (by omega), if_pos (by omega), if_pos (by omega), rdT hlt, hw]
  ·
   refine Ev.bind (append_f [] l[i].f0 l[i].f1.f0 l[i].f1.f1 l[i].f1.f2 l[i].f1.f3 l[i].f1.f4 l[i].f1.f5 l[i].f1.f6 q (by simp) hk.2.1 hk.2.2.1 hk.2.2.2.1 hk.2.2.2.2 h5 h6) ?_
   show Ev (fun k => if x.length + ([] ++ recB l[i] q).length < 140737488355328 then block_Encode.l0 k (x ++ ([] ++ recB l[i] q)) l[i].f0 l (l.length : Int) ((i + 1 : Nat) : Int) th first l else none) R
   rw [List.nil_append]
   refine Ev.congr (fun k => if_pos (by omega)) (ih (i + 1) (x ++ recB l[i] q) l[i].f0 (by omega) hf' (by rw [List.length_append]; omega) h)
theorem encode_f (th first : Int) (l : List S26) (hr : ∀ r ∈ l, RecOk r) : Ev (fun k => block_Encode.f k th first l) (encS th first l) := by
 unfold encS
 refine Ev.bind (check_f th first l) ?_
 by_cases c : chk th first l = 0
 ·
  rw [if_pos c]
  simp only [if_pos c]
  obtain ⟨h1, _, h2, h3, h4, h5, h6⟩ := chk_zero c
  have h7 := payS_len h6 hr
  have h8 := packS_length (payS (-1) l)
  have hB := bodyS_len hr c
  refine encode_loop th first l h1 hr l.length 0 [] (-1) (by omega) (by rw [List.drop_zero]; exact h6) (by simp only [List.length_nil]; omega) ?_
  rw [List.drop_zero, List.nil_append]
  refine Ev.bind (pack_f _ (by omega)) (Ev.bind (Ev.now _) ?_)
  refine heads_loop (pkd := packS (payS (-1) l)) (vals := [first, (l.length : Int), ((payS (-1) l).length : Int), ((packS (payS (-1) l)).length : Int)]) (fun a ha => ?_) (by simp) 4 0 [84, th % 256] (by simp) (by simp) ?_
  ·
   simp only [List.mem_cons, List.not_mem_nil, or_false] at ha
   unfold I64
   omega
  ·
   rw [List.drop_zero]
   show Ev (fun k => if (headS th first (l.length : Int) (payS (-1) l)).length + (packS (payS (-1) l)).length < 140737488355328 then _ else none) _
   have e : bodyS th first l = headS th first (l.length : Int) (payS (-1) l) ++ packS (payS (-1) l) := rfl
   refine Ev.congr (fun k => if_pos (by rw [e, List.length_append] at hB; omega)) ?_
   refine Ev.bind (Ev.now (bodyS th first l)) ?_
   refine Ev.bind (seal_f _ hB (bodyS_bytes th first l)) ?_
   refine Ev.congr (f := fun _ => some (bodyS th first l ++ sumB (bodyS th first l), 0)) (fun k => ?_) (Ev.now _)
   rw [if_pos (by simp only [List.length_cons, List.length_nil]; omega)]
   rfl
 ·
  rw [if_neg c]
  simp only [if_neg c]
  exact Ev.now _
theorem refEncode_f (th first : Int) (l : List S26) (hr : ∀ r ∈ l, RecOk r) : Ev (fun k => j11_Encode.f k th first l) (encS th first l) := by
 unfold encS
 refine Ev.bind (fits_f th first l) ?_
 by_cases c : chk th first l = 0
 ·
  rw [if_pos c]
  simp only [if_pos c]
  obtain ⟨h1, _, h2, h3, h4, h5, h6⟩ := chk_zero c
  have h7 := payS_len h6 hr
  have h8 := packS_length (payS (-1) l)
  have hB := bodyS_len hr c
  refine Ev.bind (refPayload_f th first l h1 hr h6) ?_
  refine Ev.bind (refPack_f _ (by omega)) ?_
  have a1 : I64 first := by unfold I64; omega
  have a2 : I64 (l.length : Int) := by unfold I64; omega
  have a3 : I64 ((payS (-1) l).length : Int) := by unfold I64; omega
  have a4 : I64 ((packS (payS (-1) l)).length : Int) := by unfold I64; omega
  have b1 := enc_le a1
  have b2 := enc_le a2
  have b3 := enc_le a3
  refine Ev.bind (refPutInt_f a1.1 a1.2 _ (by simp)) ?_
  refine Ev.bind (refPutInt_f a2.1 a2.2 _ (by rw [List.length_append]; simp only [List.length_cons, List.length_nil]; omega)) ?_
  refine Ev.bind (refPutInt_f a3.1 a3.2 _ (by simp only [List.length_append, List.length_cons, List.length_nil]; omega)) ?_
  refine Ev.bind (refPutInt_f a4.1 a4.2 _ (by simp only [List.length_append, List.length_cons, List.length_nil]; omega)) ?_
  have e : [84, th % 256] ++ enc first ++ enc (l.length : Int) ++ enc ((payS (-1) l).length : Int) ++ enc ((packS (payS (-1) l)).length : Int) = headS th first (l.length : Int) (payS (-1) l) := by
   simp only [headS, encs, List.append_assoc, List.append_nil]
  rw [e]
  have e2 : bodyS th first l = headS th first (l.length : Int) (payS (-1) l) ++ packS (payS (-1) l) := rfl
  refine Ev.congr (fun k => if_pos (by rw [e2, List.length_append] at hB; omega)) ?_
  refine Ev.bind (Ev.now (bodyS th first l)) ?_
  refine Ev.bind (refSum_f _ (by omega) (bodyS_bytes th first l)) ?_
  refine Ev.bind (Ev.now (sumB (bodyS th first l))) ?_
  refine Ev.congr (f := fun _ => some (bodyS th first l ++ sumB (bodyS th first l), 0)) (fun k => ?_) (Ev.now _)
  rw [if_pos (by simp only [sumB, List.length_cons, List.length_nil]; omega)]
 ·
  rw [if_neg c]
  simp only [if_neg c]
  exact Ev.now _
def hn1 (l : List Int) := nx l 2 0
def hn2 (l : List Int) := nx l (hn1 l).2.1 (hn1 l).2.2
def hn3 (l : List Int) := nx l (hn2 l).2.1 (hn2 l).2.2
def hn4 (l : List Int) := nx l (hn3 l).2.1 (hn3 l).2.2
def HOk (l : List Int) : Prop := rd l 1 < 4 ∧ (0 ≤ (hn1 l).1 ∧ (hn1 l).1 ≤ 400) ∧ (1 ≤ (hn2 l).1 ∧ (hn2 l).1 ≤ 64) ∧ (0 ≤ (hn3 l).1 ∧ (hn3 l).1 ≤ 1048576) ∧ (0 ≤ (hn4 l).1 ∧ (hn4 l).1 ≤ 1048576)
instance (l : List Int) : Decidable (HOk l) := by unfold HOk; infer_instance
def opS (l : List Int) : Int × Int × Int × Int × Int × Int × Int :=
 if l.length = 0 then (0, 0, 0, 0, 0, 0, 9)
 else if rd l 0 = 84 then
  (if l.length = 1 then (0, 0, 0, 0, 0, 0, 9)
  else if (hn4 l).2.2 = 0 then (if HOk l then (rd l 1, (hn1 l).1, (hn2 l).1, (hn3 l).1, (hn4 l).1, ((hn4 l).2.1 : Int), 0) else (0, 0, 0, 0, 0, 0, 11))
  else (0, 0, 0, 0, 0, 0, (hn4 l).2.2))
 else (0, 0, 0, 0, 0, 0, 11)
theorem nx_err {l : List Int} {at_ : Nat} {e : Int} (h : e ≠ 0) : nx l at_ e = (0, at_, e) := by unfold nx; rw [if_neg h]
section
variable {l : List Int} (hm : l.length ≤ 1000000) (hx : ∀ c ∈ l, 0 ≤ c ∧ c < 256)
include hm hx
theorem go_succ {n at_ : Nat} {e : Int} {acc : List Int} {R : Int × List Int × Int} (h : at_ ≤ l.length) (he : e = 0)
  (hE : (nx l at_ e).2.2 = 0 → Ev (fun k => block_open.go k l n ((nx l at_ e).2.1 : Int) (acc ++ [(nx l at_ e).1])) R) (hN : (nx l at_ e).2.2 ≠ 0 → R = ((nx l at_ e).2.2, [], 0)) :
  Ev (fun k => block_open.go k l (n + 1) (at_ : Int) acc) R := by
 subst he
 unfold nx at hE hN
 rw [if_pos rfl] at hE hN
 have hd := int_f (l.drop at_) (by rw [List.length_drop]; omega) (fun z hz => hx z (List.mem_of_mem_drop hz))
 obtain ⟨h1, h2, _⟩ := dec_size 10 0 (l.drop at_) (by omega)
 rw [List.length_drop] at h2
 generalize dec 10 0 (l.drop at_) = p at hd h1 h2 hE hN
 obtain ⟨n', z, e'⟩ := p
 dsimp only at h1 h2 hE hN
 refine Ev.congr (fun k => by rw [block_open.go, if_pos (by omega), Int.toNat_natCast]) (Ev.bind hd ?_)
 by_cases c : e' = 0
 ·
  refine Ev.congr (fun k => ?_) (hE c)
  show (if e' = 0 then block_open.go k l n (wrap64 ((at_ : Int) + z)) (acc ++ [n']) else some (e', [], 0)) = _
  rw [if_pos c, wrap64_id (by omega) (by omega), show (at_ : Int) + z = ((at_ + z.toNat : Nat) : Int) by omega]
 ·
  refine Ev.congr (fun k => ?_) (Ev.now _)
  show (if e' = 0 then block_open.go k l n (wrap64 ((at_ : Int) + z)) (acc ++ [n']) else some (e', [], 0)) = _
  rw [if_neg c, hN c]
theorem go_f (h2l : 2 ≤ l.length) : Ev (fun k => block_open.go k l 4 2 []) (if (hn4 l).2.2 = 0 then (0, [(hn1 l).1, (hn2 l).1, (hn3 l).1, (hn4 l).1], ((hn4 l).2.1 : Int)) else ((hn4 l).2.2, [], 0)) := by
 have l1 : (hn1 l).2.1 ≤ l.length := nx_le h2l
 have l2 : (hn2 l).2.1 ≤ l.length := nx_le l1
 have l3 : (hn3 l).2.1 ≤ l.length := nx_le l2
 refine go_succ hm hx (n := 3) (at_ := 2) h2l rfl (fun e1 => ?_) (fun e1 => ?_)
 ·
  refine go_succ hm hx (n := 2) (at_ := (hn1 l).2.1) (e := (hn1 l).2.2) l1 e1 (fun e2 => ?_) (fun e2 => ?_)
  ·
   refine go_succ hm hx (n := 1) (at_ := (hn2 l).2.1) (e := (hn2 l).2.2) l2 e2 (fun e3 => ?_) (fun e3 => ?_)
   ·
    refine go_succ hm hx (n := 0) (at_ := (hn3 l).2.1) (e := (hn3 l).2.2) l3 e3 (fun e4 => ?_) (fun e4 => ?_)
    ·
     rw [if_pos (show (hn4 l).2.2 = 0 from e4)]
     exact Ev.congr (fun k => by rw [block_open.go]; rfl) (Ev.now _)
    ·
     rw [if_neg (show (hn4 l).2.2 ≠ 0 from e4)]
     rfl
   ·
    have e3' : (hn3 l).2.2 ≠ 0 := e3
    have : (hn4 l).2.2 = (hn3 l).2.2 := by unfold hn4; rw [nx_err e3']
    rw [this, if_neg e3']
    rfl
  ·
   have e2' : (hn2 l).2.2 ≠ 0 := e2
   have t3 : (hn3 l).2.2 = (hn2 l).2.2 := by unfold hn3; rw [nx_err e2']
   have t4 : (hn4 l).2.2 = (hn3 l).2.2 := by unfold hn4; rw [nx_err (by rw [t3]; exact e2')]
   rw [t4, t3, if_neg e2']
   rfl
 ·
  have e1' : (hn1 l).2.2 ≠ 0 := e1
  have t2 : (hn2 l).2.2 = (hn1 l).2.2 := by unfold hn2; rw [nx_err e1']
  have t3 : (hn3 l).2.2 = (hn2 l).2.2 := by unfold hn3; rw [nx_err (by rw [t2]; exact e1')]
  have t4 : (hn4 l).2.2 = (hn3 l).2.2 := by unfold hn4; rw [nx_err (by rw [t3, t2]; exact e1')]
  rw [t4, t3, t2, if_neg e1']
  rfl
theorem open_f : Ev (fun k => block_open.f k l) (opS l) := by
 unfold opS
 by_cases c0 : l.length = 0
 ·
  rw [if_pos c0]
  exact Ev.congr (fun k => by unfold block_open.f; rw [if_pos c0]) (Ev.now _)
 rw [if_neg c0]
 by_cases c1 : rd l 0 = 84
 rotate_left
 ·
  rw [if_neg c1]
  exact Ev.congr (fun k => by unfold block_open.f; rw [if_neg c0, if_neg c1]) (Ev.now _)
 rw [if_pos c1]
 by_cases c2 : l.length = 1
 ·
  rw [if_pos c2]
  exact Ev.congr (fun k => by unfold block_open.f; rw [if_neg c0, if_pos c1, if_pos c2]) (Ev.now _)
 rw [if_neg c2]
 refine Ev.congr (fun k => by unfold block_open.f; rw [if_neg c0, if_pos c1, if_neg c2]) (Ev.bind (go_f hm hx (by omega)) ?_)
 refine Ev.congr (fun k => ?_) (Ev.now _)
 by_cases c3 : (hn4 l).2.2 = 0
 ·
  rw [if_pos c3, if_pos c3]
  unfold block_open.fin block_open.ok
  rw [if_pos rfl]
  by_cases d0 : rd l 1 < 4
  rotate_left
  ·
   rw [if_neg d0, if_neg (fun h => by unfold HOk at h; omega)]
  rw [if_pos d0]
  simp only [List.getD_cons_zero, List.getD_cons_succ, Bool.and_eq_true, decide_eq_true_eq]
  by_cases d1 : 0 ≤ (hn1 l).1 ∧ (hn1 l).1 ≤ 400
  rotate_left
  ·
   rw [if_neg d1, if_neg (fun h => by unfold HOk at h; omega)]
  rw [if_pos d1]
  by_cases d2 : 1 ≤ (hn2 l).1 ∧ (hn2 l).1 ≤ 64
  rotate_left
  ·
   rw [if_neg d2, if_neg (fun h => by unfold HOk at h; omega)]
  rw [if_pos d2]
  by_cases d3 : 0 ≤ (hn3 l).1 ∧ (hn3 l).1 ≤ 1048576
  rotate_left
  ·
   rw [if_neg d3, if_neg (fun h => by unfold HOk at h; omega)]
  rw [if_pos d3]
  by_cases d4 : 0 ≤ (hn4 l).1 ∧ (hn4 l).1 ≤ 1048576
  rotate_left
  ·
   rw [if_neg d4, if_neg (fun h => by unfold HOk at h; omega)]
  rw [if_pos d4, if_pos (show HOk l from ⟨d0, d1, d2, d3, d4⟩)]
 ·
  rw [if_neg c3, if_neg c3]
  unfold block_open.fin
  rw [if_neg c3]
end
def mkR (r : Int × Int × Int × Int × Int × Int × List Int × List Int × Int × Int) : S26 := ⟨r.1, ⟨r.2.1, r.2.2.1, r.2.2.2.1, r.2.2.2.2.1, r.2.2.2.2.2.1, r.2.2.2.2.2.2.1, r.2.2.2.2.2.2.2.1⟩⟩
def recsS (th : Int) : Nat → List Int → Int → List S26 → Option (List S26 × List Int)
 | 0, b, _, acc => some (acc, b)
 | n + 1, b, q, acc => if (rdS b th q).2.2.2.2.2.2.2.2.2 = 0 then recsS th n (b.drop (rdS b th q).2.2.2.2.2.2.2.2.1.toNat) (rdS b th q).1 (acc ++ [mkR (rdS b th q)]) else none
def recsV (th first : Int) : Option (List S26 × List Int) → Int × Int × List S26 × Bool
 | none => (0, 0, [], false)
 | some (l, b) => (th, first, l, ((b.length : Int) == 0))
def recsW : Option (List S26 × List Int) → List S26 × Bool
 | none => ([], false)
 | some (l, b) => (l, ((b.length : Int) == 0))
theorem rdS_size (b : List Int) (th q : Int) : 0 ≤ (rdS b th q).2.2.2.2.2.2.2.2.1 ∧ (rdS b th q).2.2.2.2.2.2.2.2.1 ≤ (b.length : Int) := by
 obtain ⟨_, _, _, _, _, _, h6⟩ := r_le b
 unfold rdS
 split
 ·
  show 0 ≤ ((r6 b).2.1 : Int) ∧ ((r6 b).2.1 : Int) ≤ _
  omega
 ·
  show (0 : Int) ≤ 0 ∧ (0 : Int) ≤ _
  omega
theorem recs_loop (th first : Int) (n : Nat) (hn : n ≤ 64) : ∀ (d i : Nat) (b : List Int) (q : Int) (acc : List S26), i + d = n → b.length ≤ 1000000 → (∀ c ∈ b, 0 ≤ c ∧ c < 256) → acc.length ≤ i →
  Ev (fun k => block_records.l0 k b q (n : Int) (i : Int) th first acc) (recsV th first (recsS th d b q acc)) := by
 intro d
 induction d with
 | zero =>
  intro i b q acc hi hb hx ha
  refine Ev.step (f := fun _ => some _) (fun k => ?_) (Ev.now _)
  simp only [block_records.l0]
  rw [if_neg (by omega)]
  rfl
 | succ d ih =>
  intro i b q acc hi hb hx ha
  have hs := rdS_size b th q
  have hR := read_f hb hx th q
  rw [recsS]
  generalize rdS b th q = r at hs hR ⊢
  refine Ev.step (fun k => by simp only [block_records.l0]; rw [if_pos (by omega)]) (Ev.bind hR ?_)
  by_cases c : r.2.2.2.2.2.2.2.2.2 = 0
  ·
   rw [if_pos c]
   refine Ev.congr (fun k => ?_) (ih (i + 1) (b.drop r.2.2.2.2.2.2.2.2.1.toNat) r.1 (acc ++ [mkR r]) (by omega) (by rw [List.length_drop]; omega) (fun z hz => hx z (List.mem_of_mem_drop hz)) (by rw [List.length_append, List.length_singleton]; omega))
   rw [if_pos c, if_pos (by omega), if_pos hs.1, if_pos hs.2, wrap64_id (x := (i : Int) + 1) (by omega) (by omega)]
   rfl
  ·
   rw [if_neg c]
   exact Ev.congr (fun k => by rw [if_neg c]; rfl) (Ev.now _)
theorem refRecs_loop (th : Int) (n : Nat) (hn : n ≤ 64) : ∀ (d i : Nat) (b : List Int) (q : Int) (acc : List S26), i + d = n → b.length ≤ 1000000 → (∀ c ∈ b, 0 ≤ c ∧ c < 256) → acc.length ≤ i →
  Ev (fun k => j11_records.l0 k b th (n : Int) acc q (i : Int)) (recsW (recsS th d b q acc)) := by
 intro d
 induction d with
 | zero =>
  intro i b q acc hi hb hx ha
  refine Ev.step (f := fun _ => some _) (fun k => ?_) (Ev.now _)
  simp only [j11_records.l0]
  rw [if_neg (by omega)]
  rfl
 | succ d ih =>
  intro i b q acc hi hb hx ha
  have hs := rdS_size b th q
  have hR := refRead_f hb hx th q
  rw [recsS]
  generalize rdS b th q = r at hs hR ⊢
  refine Ev.step (fun k => by simp only [j11_records.l0]; rw [if_pos (by omega)]) (Ev.bind hR ?_)
  by_cases c : r.2.2.2.2.2.2.2.2.2 = 0
  ·
   rw [if_pos c]
   refine Ev.congr (fun k => ?_) (ih (i + 1) (b.drop r.2.2.2.2.2.2.2.2.1.toNat) r.1 (acc ++ [mkR r]) (by omega) (by rw [List.length_drop]; omega) (fun z hz => hx z (List.mem_of_mem_drop hz)) (by rw [List.length_append, List.length_singleton]; omega))
   rw [if_pos c, if_pos (by omega), if_pos hs.1, if_pos hs.2, wrap64_id (x := (i : Int) + 1) (by omega) (by omega)]
   rfl
  ·
   rw [if_neg c]
   exact Ev.congr (fun k => by rw [if_neg c]; rfl) (Ev.now _)
def RecR (th : Int) (r : S26) : Prop := RecOk r ∧ r.f1.f0 = th ∧ r.f1.f5.length ≤ 400 ∧ r.f1.f6.length ≤ 400
theorem rdS_ok {b : List Int} (hx : ∀ c ∈ b, 0 ≤ c ∧ c < 256) {th q : Int} (h : (rdS b th q).2.2.2.2.2.2.2.2.2 = 0) : RecR th (mkR (rdS b th q)) := by
 obtain ⟨h0, h1, h2, h3, h4, h5, h6⟩ := r_le b
 have e6 : (r6 b).2.2 = 0 := by
  by_cases c : (r6 b).2.2 = 0
  ·
   exact c
  ·
   unfold rdS at h
   rw [if_neg c] at h
   exact absurd h c
 have e5 := (li_once hx h5 (show (li b (r5 b).2.1 (r5 b).2.2).2.2 = 0 from e6)).1
 have e4 := (li_once hx h4 (show (li b (r4 b).2.1 (r4 b).2.2).2.2 = 0 from e5)).1
 obtain ⟨e3, i4, _⟩ := nx_once hx h3 (show (nx b (r3 b).2.1 (r3 b).2.2).2.2 = 0 from e4)
 obtain ⟨e2, i3, _⟩ := nx_once hx h2 (show (nx b (r2 b).2.1 (r2 b).2.2).2.2 = 0 from e3)
 obtain ⟨e1, i2, _⟩ := nx_once hx h1 (show (nx b (r1 b).2.1 (r1 b).2.2).2.2 = 0 from e2)
 obtain ⟨e0, i1, _⟩ := nx_once hx h0 (show (nx b (r0 b).2.1 (r0 b).2.2).2.2 = 0 from e1)
 unfold rdS
 rw [if_pos e6]
 exact ⟨⟨wrap64_I64 _, i1, i2, i3, i4⟩, rfl, (li_le h4).2, (li_le h5).2⟩
theorem recs_ok (th : Int) : ∀ (d : Nat) (b : List Int) (q : Int) (acc : List S26) (l : List S26) (b' : List Int), (∀ c ∈ b, 0 ≤ c ∧ c < 256) → recsS th d b q acc = some (l, b') → (∀ r ∈ acc, RecR th r) →
  (∀ r ∈ l, RecR th r) ∧ l.length = acc.length + d := by
 intro d
 induction d with
 | zero =>
  intro b q acc l b' hx h ha
  rw [recsS] at h
  simp only [Option.some.injEq, Prod.mk.injEq] at h
  obtain ⟨rfl, rfl⟩ := h
  exact ⟨ha, rfl⟩
 | succ d ih =>
  intro b q acc l b' hx h ha
  rw [recsS] at h
  by_cases c : (rdS b th q).2.2.2.2.2.2.2.2.2 = 0
  ·
   rw [if_pos c] at h
   obtain ⟨g1, g2⟩ := ih _ _ _ _ _ (fun z hz => hx z (List.mem_of_mem_drop hz)) h (fun r hr => by
    rcases List.mem_append.1 hr with hr | hr
    ·
     exact ha r hr
    ·
     rw [List.mem_singleton.1 hr]
     exact rdS_ok hx c)
   refine ⟨g1, ?_⟩
   rw [g2, List.length_append, List.length_singleton]
   omega
  ·
   rw [if_neg c] at h
   cases h
end Go.Proofs.Ytnmmkgagbfniiaa.Pl
end
section
namespace Go.Proofs.Ytnmmkgagbfniiaa.A
open Go.RowKit Go.Proofs.YtnmmkgagbfniiaaW.PrintWords Go.Proofs.YtnmmkgagbfniiaaW.PrintLast Go.Proofs.YtnmmkgagbfniiaaW.PrintMore
attribute [local go_sem] max2_int min2_int max_two min_two max_three min_three max_four min_four
set_option linter.unusedVariables false
set_option linter.unusedSimpArgs false
end Go.Proofs.Ytnmmkgagbfniiaa.A
end
section
namespace Go.Proofs.Ytnmmkgagbfniiaa.Pl
open Go.RowKit Go.Proofs.YtnmmkgagbfniiaaW.PrintWords Go.Proofs.YtnmmkgagbfniiaaW.PrintMore Go.Proofs.Ytnmmkgagbfniiaa.A
set_option linter.unusedVariables false
theorem encS_len {th first : Int} {l : List S26} (hr : ∀ r ∈ l, RecOk r) : (encS th first l).1.length ≤ 1100004 := by
 unfold encS
 by_cases c : chk th first l = 0
 ·
  rw [if_pos c]
  have := bodyS_len hr c
  simp only [List.length_append, sumB, List.length_cons, List.length_nil]
  omega
 ·
  rw [if_neg c]
  simp
def cp : Nat → Nat → List Int → List Int
 | 0, _, o => o
 | n + 1, d, o => cp n d (o ++ [rd o ((o.length - d : Nat) : Int)])
theorem cp_length : ∀ n d o, (cp n d o).length = o.length + n := by
 intro n
 induction n with
 | zero => intro d o; rfl
 | succ n ih => intro d o; rw [cp, ih]; simp; omega
def un (lim : Int) : Nat → List Int → List Int → List Int × Int
 | 0, _, out => (out, 0)
 | _ + 1, [], out => (out, 0)
 | f + 1, c :: t, out =>
  if c < 128 then
   (if t.length < c.toNat + 1 then ([], 9) else if ((out ++ t.take (c.toNat + 1)).length : Int) > lim then ([], 2) else un lim f (t.drop (c.toNat + 1)) (out ++ t.take (c.toNat + 1)))
  else match t with
   | [] => ([], 9)
   | d :: t' => if d = 0 ∨ d > (out.length : Int) then ([], 11) else if ((cp (c.toNat - 125) d.toNat out).length : Int) > lim then ([], 2) else un lim f t' (cp (c.toNat - 125) d.toNat out)
theorem un_cons (lim : Int) (f : Nat) (c : Int) (t out : List Int) : un lim (f + 1) (c :: t) out =
  if c < 128 then
   (if t.length < c.toNat + 1 then ([], 9) else if ((out ++ t.take (c.toNat + 1)).length : Int) > lim then ([], 2) else un lim f (t.drop (c.toNat + 1)) (out ++ t.take (c.toNat + 1)))
  else match t with
   | [] => ([], 9)
   | d :: t' => if d = 0 ∨ d > (out.length : Int) then ([], 11) else if ((cp (c.toNat - 125) d.toNat out).length : Int) > lim then ([], 2) else un lim f t' (cp (c.toNat - 125) d.toNat out) := rfl
theorem un_nil (lim : Int) (f : Nat) (out : List Int) : un lim f [] out = (out, 0) := by cases f <;> rfl
theorem wrap_nat {n : Nat} {x : Int} (h : x = (n : Int)) (hn : n ≤ 1000000000000000) : wrap64 x = (n : Int) := by rw [h, wrap64_id (by omega) (by omega)]
theorem mid_eq {x : List Int} {i c : Nat} : (x.take (i + c + 2)).drop (i + 1) = (x.drop (i + 1)).take (c + 1) := by
 rw [List.drop_take, show i + c + 2 - (i + 1) = c + 1 by omega]
section
variable {x : List Int} (hm : x.length ≤ 1000000) (hx : ∀ c ∈ x, 0 ≤ c ∧ c < 256) (lim : Int)
include hm hx
omit hm hx in
theorem copy_loop {i d : Nat} {r : List Int × Int} {e : Int} (hd : 1 ≤ d) : ∀ n j (out : List Int), (e = ((j + n : Nat) : Int)) → d ≤ out.length → out.length + n ≤ 1000000000000 → j + n ≤ 200 → i + 2 ≤ 2000000 →
  Ev (fun k => if ((cp n d out).length : Int) > lim then (some (([] : List Int), 2)) else (pack_Unpack.l0 k x lim (cp n d out) ((i + 2 : Nat) : Int))) r →
  Ev (fun k => pack_Unpack.l1 k x lim out (i : Int) (d : Int) e (j : Int)) r := by
 intro n
 induction n with
 | zero =>
  intro j out he hdo ho hj hi h
  refine Ev.step (fun k => ?_) h
  simp only [pack_Unpack.l1, cp]
  rw [if_neg (by omega), wrap_nat (n := i + 2) (by omega) (by omega)]
  rfl
 | succ n ih =>
  intro j out he hdo ho hj hi h
  refine Ev.step (fun k => ?_) (ih (j + 1) (out ++ [rd out ((out.length - d : Nat) : Int)]) (by omega) (by simp; omega) (by simp; omega) (by omega) hi h)
  simp only [pack_Unpack.l1]
  rw [if_pos (by omega), wrap_nat (n := out.length - d) (by omega) (by omega), wrap_nat (x := (j : Int) + 1) (n := j + 1) (by omega) (by omega), if_pos (by omega), if_pos (by omega), if_pos (by omega)]
theorem unpack_l0 : ∀ f i (out : List Int), i ≤ x.length → x.length ≤ i + f → out.length + 200 * f ≤ 1000000000000 →
  Ev (fun k => pack_Unpack.l0 k x lim out (i : Int)) (un lim f (x.drop i) out) := by
 intro f
 induction f with
 | zero =>
  intro i out hi hf ho
  refine Ev.step (f := fun _ => some _) (fun k => ?_) (Ev.now _)
  simp only [pack_Unpack.l0]
  rw [if_neg (by omega)]
  rfl
 | succ f ih =>
  intro i out hi hf ho
  by_cases hlt : i < x.length
  ·
   rw [List.drop_eq_getElem_cons hlt]
   obtain ⟨c, hc⟩ : ∃ c : Nat, x[i] = (c : Int) := ⟨x[i].toNat, by have := hx x[i] (List.getElem_mem hlt); omega⟩
   have hc256 : c < 256 := by have := hx x[i] (List.getElem_mem hlt); omega
   have hrd : wrap64 (rd x (i : Int)) = (c : Int) := wrap_nat ((rd_at hlt).trans hc) (by omega)
   have HRD := Aside0.mk hrd
   clear hrd
   rw [hc]
   have hdl : (x.drop (i + 1)).length = x.length - (i + 1) := by rw [List.length_drop]
   by_cases c1 : c < 128
   ·
    have hu : un lim (f + 1) ((c : Int) :: x.drop (i + 1)) out = if (x.drop (i + 1)).length < c + 1 then ([], 9) else if ((out ++ (x.drop (i + 1)).take (c + 1)).length : Int) > lim then ([], 2) else un lim f ((x.drop (i + 1)).drop (c + 1)) (out ++ (x.drop (i + 1)).take (c + 1)) := by
     rw [un_cons, if_pos (by omega)]
     rfl
    rw [hu, hdl]
    clear hu
    by_cases c2 : x.length - (i + 1) < c + 1
    ·
     rw [if_pos c2]
     refine Ev.step (f := fun k => pack_Unpack.j1 k x lim out (i : Int) (c : Int) true) (fun k => ?_) (Ev.step (f := fun _ => some _) (fun k => ?_) (Ev.now _))
     ·
      simp only [pack_Unpack.l0]
      rw [HRD.out, wrap_nat (x := (i : Int) + (c : Int)) (n := i + c) (by omega) (by omega), wrap_nat (x := ((i + c : Nat) : Int) + 1) (n := i + c + 1) (by omega) (by omega), if_pos (by omega), if_pos (by omega), if_pos (by omega), if_pos (by omega)]
     ·
      simp only [pack_Unpack.j1]
      rw [if_pos trivial]
    ·
     rw [if_neg c2]
     have hl2 : (out ++ (x.drop (i + 1)).take (c + 1)).length = out.length + (c + 1) := by rw [List.length_append, List.length_take, hdl]; omega
     refine Ev.step (f := fun k => pack_Unpack.j1 k x lim out (i : Int) (c : Int) false) (fun k => ?_) (Ev.step (f := fun k => if ((out ++ (x.drop (i + 1)).take (c + 1)).length : Int) > lim then (some (([] : List Int), 2)) else (pack_Unpack.l0 k x lim (out ++ (x.drop (i + 1)).take (c + 1)) ((i + 1 + (c + 1) : Nat) : Int))) (fun k => ?_) ?_)
     ·
      simp only [pack_Unpack.l0]
      rw [HRD.out, wrap_nat (x := (i : Int) + (c : Int)) (n := i + c) (by omega) (by omega), wrap_nat (x := ((i + c : Nat) : Int) + 1) (n := i + c + 1) (by omega) (by omega), if_pos (by omega), if_pos (by omega), if_pos (by omega), if_neg (by omega), if_neg (by omega)]
     ·
      simp only [pack_Unpack.j1]
      rw [if_neg (by simp), if_pos (by omega), wrap_nat (x := (i : Int) + 1) (n := i + 1) (by omega) (by omega), wrap_nat (x := (i : Int) + (c : Int)) (n := i + c) (by omega) (by omega), wrap_nat (x := ((i + c : Nat) : Int) + 2) (n := i + c + 2) (by omega) (by omega), wrap_nat (x := (c : Int) + 2) (n := c + 2) (by omega) (by omega), wrap_nat (x := (i : Int) + ((c + 2 : Nat) : Int)) (n := i + 1 + (c + 1)) (by omega) (by omega)]
      rw [if_pos (by omega), if_pos (by omega), if_pos (by omega), Int.toNat_natCast, Int.toNat_natCast, mid_eq, if_pos (by rw [List.length_take, hdl]; omega)]
      rfl
     ·
      by_cases c3 : ((out ++ (x.drop (i + 1)).take (c + 1)).length : Int) > lim
      ·
       rw [if_pos c3]
       exact Ev.congr (fun k => by rw [if_pos c3]) (Ev.now _)
      ·
       rw [if_neg c3]
       refine Ev.congr (fun k => by rw [if_neg c3]) ?_
       rw [List.drop_drop]
       exact ih (i + 1 + (c + 1)) _ (by omega) (by omega) (by rw [hl2]; omega)
   ·
    by_cases c2 : i + 1 < x.length
    ·
     rw [List.drop_eq_getElem_cons c2]
     obtain ⟨d, hd⟩ : ∃ d : Nat, x[i + 1] = (d : Int) := ⟨x[i + 1].toNat, by have := hx x[i + 1] (List.getElem_mem c2); omega⟩
     have hd256 : d < 256 := by have := hx x[i + 1] (List.getElem_mem c2); omega
     have HRD2 : Aside0 (wrap64 (rd x ((i + 1 : Nat) : Int)) = (d : Int)) := ⟨wrap_nat ((rd_at c2).trans hd) (by omega)⟩
     rw [hd]
     have hu : un lim (f + 1) ((c : Int) :: (d : Int) :: x.drop (i + 1 + 1)) out = if (d : Int) = 0 ∨ (d : Int) > (out.length : Int) then ([], 11) else if ((cp (c - 125) d out).length : Int) > lim then ([], 2) else un lim f (x.drop (i + 1 + 1)) (cp (c - 125) d out) := by
      rw [un_cons, if_neg (by omega)]
      rfl
     rw [hu]
     clear hu
     refine Ev.step (f := fun k => pack_Unpack.j1 k x lim out (i : Int) (c : Int) false) (fun k => ?_) ?_
     ·
      simp only [pack_Unpack.l0]
      rw [HRD.out, if_pos (by omega), if_pos (by omega), if_neg (by omega), if_pos (by omega), wrap_nat (x := (i : Int) + 1) (n := i + 1) (by omega) (by omega), show decide (((i + 1 : Nat) : Int) ≥ (x.length : Int)) = false from decide_eq_false (by omega)]
     ·
      have step2 : ∀ {r : List Int × Int}, Ev (fun k => pack_Unpack.j2 k x lim out (i : Int) (c : Int) (d : Int) (decide ((d : Int) = 0 ∨ (d : Int) > (out.length : Int)))) r → Ev (fun k => pack_Unpack.j1 k x lim out (i : Int) (c : Int) false) r := by
       intro r h
       refine Ev.step (fun k => ?_) h
       simp only [pack_Unpack.j1]
       rw [if_neg (by simp), if_neg (by omega), wrap_nat (x := (i : Int) + 1) (n := i + 1) (by omega) (by omega), if_pos (by omega), if_pos (by omega), HRD2.out]
       by_cases c3 : (d : Int) = 0
       ·
        rw [if_pos c3]
        simp [c3]
       ·
        rw [if_neg c3]
        have c4 : d ≠ 0 := by omega
        simp [c4]
      by_cases c3 : (d : Int) = 0 ∨ (d : Int) > (out.length : Int)
      ·
       rw [if_pos c3]
       refine step2 (Ev.step (f := fun _ => some _) (fun k => ?_) (Ev.now _))
       simp only [pack_Unpack.j2]
       rw [if_pos (decide_eq_true c3)]
      ·
       rw [if_neg c3]
       refine step2 (Ev.step (f := fun k => pack_Unpack.l1 k x lim out (i : Int) (d : Int) ((c - 125 : Nat) : Int) ((0 : Nat) : Int)) (fun k => ?_) ?_)
       ·
        simp only [pack_Unpack.j2]
        rw [if_neg (by rw [decide_eq_false c3]; simp), wrap_nat (x := (c : Int) - 128) (n := c - 128) (by omega) (by omega), wrap_nat (x := ((c - 128 : Nat) : Int) + 3) (n := c - 125) (by omega) (by omega)]
        rfl
       ·
        refine copy_loop lim (by omega) (c - 125) 0 out (by omega) (by omega) (by omega) (by omega) (by omega) ?_
        by_cases c4 : ((cp (c - 125) d out).length : Int) > lim
        ·
         rw [if_pos c4]
         exact Ev.congr (fun k => by rw [if_pos c4]) (Ev.now _)
        ·
         rw [if_neg c4]
         refine Ev.congr (fun k => by rw [if_neg c4]) ?_
         exact ih (i + 1 + 1) _ (by omega) (by omega) (by rw [cp_length]; omega)
    ·
     rw [List.drop_of_length_le (i := i + 1) (by omega)]
     have hu : un lim (f + 1) [(c : Int)] out = ([], 9) := by
      rw [un_cons, if_neg (by omega)]
     rw [hu]
     refine Ev.step (f := fun k => pack_Unpack.j1 k x lim out (i : Int) (c : Int) true) (fun k => ?_) (Ev.step (f := fun _ => some _) (fun k => ?_) (Ev.now _))
     ·
      simp only [pack_Unpack.l0]
      rw [HRD.out, if_pos (by omega), if_pos (by omega), if_neg (by omega), if_pos (by omega), wrap_nat (x := (i : Int) + 1) (n := i + 1) (by omega) (by omega), show decide (((i + 1 : Nat) : Int) ≥ (x.length : Int)) = true from decide_eq_true (by omega)]
     ·
      simp only [pack_Unpack.j1]
      rw [if_pos trivial]
  ·
   refine Ev.step (f := fun _ => some _) (fun k => ?_) (Ev.now _)
   simp only [pack_Unpack.l0]
   rw [if_neg (by omega), List.drop_of_length_le (by omega), un_nil]
theorem unpack_f : Ev (fun k => pack_Unpack.f k x lim) (un lim x.length x []) := unpack_l0 hm hx lim x.length 0 [] (by omega) (by omega) (by simp; omega)
omit hm hx in
theorem refCopy_loop {i d c : Nat} {r : List Int × Int} (hd : 1 ≤ d) (hc : 125 ≤ c) (hc2 : c < 256) : ∀ n j (out : List Int), (c - 125 = j + n) → d ≤ out.length → out.length + n ≤ 1000000000000 → i + 2 ≤ 2000000 →
  Ev (fun k => j11_Unpack.l0 k x lim (cp n d out) ((i + 2 : Nat) : Int)) r →
  Ev (fun k => j11_Unpack.l1 k x lim out (i : Int) (c : Int) (d : Int) (j : Int)) r := by
 intro n
 induction n with
 | zero =>
  intro j out he hdo ho hi h
  refine Ev.step (fun k => ?_) h
  simp only [j11_Unpack.l1, cp]
  rw [wrap_nat (x := (c : Int) - 125) (n := c - 125) (by omega) (by omega), if_neg (by omega), wrap_nat (n := i + 2) (by omega) (by omega)]
 | succ n ih =>
  intro j out he hdo ho hi h
  refine Ev.step (fun k => ?_) (ih (j + 1) (out ++ [rd out ((out.length - d : Nat) : Int)]) (by omega) (by simp; omega) (by simp; omega) hi h)
  simp only [j11_Unpack.l1]
  rw [wrap_nat (x := (c : Int) - 125) (n := c - 125) (by omega) (by omega), if_pos (by omega), wrap_nat (n := out.length - d) (by omega) (by omega), wrap_nat (x := (j : Int) + 1) (n := j + 1) (by omega) (by omega), if_pos (by omega), if_pos (by omega), if_pos (by omega)]
theorem refUnpack_l0 (hlim0 : -9223372036854775808 ≤ lim) (hlim1 : lim < 9223372036854775808) : ∀ f i (out : List Int), i ≤ x.length → x.length ≤ i + f → out.length + 200 * f ≤ 1000000000000 → (out.length = 0 ∨ (out.length : Int) ≤ lim) →
  Ev (fun k => j11_Unpack.l0 k x lim out (i : Int)) (un lim f (x.drop i) out) := by
 intro f
 induction f with
 | zero =>
  intro i out hi hf ho hol
  refine Ev.step (f := fun _ => some _) (fun k => ?_) (Ev.now _)
  simp only [j11_Unpack.l0]
  rw [if_neg (by omega)]
  rfl
 | succ f ih =>
  intro i out hi hf ho hol
  have hw : Aside0 (wrap64 (lim - (out.length : Int)) = lim - (out.length : Int)) := ⟨wrap64_id (by omega) (by omega)⟩
  by_cases hlt : i < x.length
  ·
   rw [List.drop_eq_getElem_cons hlt]
   obtain ⟨c, hc⟩ : ∃ c : Nat, x[i] = (c : Int) := ⟨x[i].toNat, by have := hx x[i] (List.getElem_mem hlt); omega⟩
   have hc256 : c < 256 := by have := hx x[i] (List.getElem_mem hlt); omega
   have HRD : Aside0 (wrap64 (rd x (i : Int)) = (c : Int)) := ⟨wrap_nat ((rd_at hlt).trans hc) (by omega)⟩
   rw [hc]
   have hdl : (x.drop (i + 1)).length = x.length - (i + 1) := by rw [List.length_drop]
   by_cases c1 : c < 128
   ·
    have hu : un lim (f + 1) ((c : Int) :: x.drop (i + 1)) out = if (x.drop (i + 1)).length < c + 1 then ([], 9) else if ((out ++ (x.drop (i + 1)).take (c + 1)).length : Int) > lim then ([], 2) else un lim f ((x.drop (i + 1)).drop (c + 1)) (out ++ (x.drop (i + 1)).take (c + 1)) := by
     rw [un_cons, if_pos (by omega)]
     rfl
    rw [hu, hdl]
    clear hu
    by_cases c2 : x.length - (i + 1) < c + 1
    ·
     rw [if_pos c2]
     refine Ev.step (f := fun _ => some _) (fun k => ?_) (Ev.now _)
     simp only [j11_Unpack.l0]
     rw [if_pos (by omega), if_pos (by omega), HRD.out, if_pos (by omega), wrap_nat (x := (c : Int) + 1) (n := c + 1) (by omega) (by omega), wrap_nat (x := (x.length : Int) - (i : Int)) (n := x.length - i) (by omega) (by omega), wrap_nat (x := ((x.length - i : Nat) : Int) - 1) (n := x.length - (i + 1)) (by omega) (by omega), if_pos (by omega)]
    ·
     rw [if_neg c2]
     have hl2 : (out ++ (x.drop (i + 1)).take (c + 1)).length = out.length + (c + 1) := by rw [List.length_append, List.length_take, hdl]; omega
     refine Ev.step (f := fun k => if ((out ++ (x.drop (i + 1)).take (c + 1)).length : Int) > lim then (some (([] : List Int), 2)) else (j11_Unpack.l0 k x lim (out ++ (x.drop (i + 1)).take (c + 1)) ((i + 1 + (c + 1) : Nat) : Int))) (fun k => ?_) ?_
     ·
      simp only [j11_Unpack.l0]
      rw [if_pos (by omega), if_pos (by omega), HRD.out, if_pos (by omega), wrap_nat (x := (c : Int) + 1) (n := c + 1) (by omega) (by omega), wrap_nat (x := (x.length : Int) - (i : Int)) (n := x.length - i) (by omega) (by omega), wrap_nat (x := ((x.length - i : Nat) : Int) - 1) (n := x.length - (i + 1)) (by omega) (by omega), if_neg (by omega), hw.out]
      by_cases c3 : ((out ++ (x.drop (i + 1)).take (c + 1)).length : Int) > lim
      ·
       rw [if_pos c3, if_pos (by omega)]
      ·
       rw [if_neg c3, if_neg (by omega), wrap_nat (x := (i : Int) + 1) (n := i + 1) (by omega) (by omega), wrap_nat (x := (i : Int) + (c : Int)) (n := i + c) (by omega) (by omega), wrap_nat (x := ((i + c : Nat) : Int) + 2) (n := i + 1 + (c + 1)) (by omega) (by omega)]
       rw [if_pos (by omega), if_pos (by omega), if_pos (by omega), Int.toNat_natCast, Int.toNat_natCast, show i + 1 + (c + 1) = i + c + 2 by omega, mid_eq, if_pos (by rw [List.length_take, hdl]; omega)]
     ·
      by_cases c3 : ((out ++ (x.drop (i + 1)).take (c + 1)).length : Int) > lim
      ·
       rw [if_pos c3]
       exact Ev.congr (fun k => by rw [if_pos c3]) (Ev.now _)
      ·
       rw [if_neg c3]
       refine Ev.congr (fun k => by rw [if_neg c3]) ?_
       rw [List.drop_drop]
       exact ih (i + 1 + (c + 1)) _ (by omega) (by omega) (by rw [hl2]; omega) (.inr (by omega))
   ·
    by_cases c2 : i + 1 < x.length
    ·
     rw [List.drop_eq_getElem_cons c2]
     obtain ⟨d, hd⟩ : ∃ d : Nat, x[i + 1] = (d : Int) := ⟨x[i + 1].toNat, by have := hx x[i + 1] (List.getElem_mem c2); omega⟩
     have hd256 : d < 256 := by have := hx x[i + 1] (List.getElem_mem c2); omega
     have HRD2 : Aside0 (wrap64 (rd x ((i + 1 : Nat) : Int)) = (d : Int)) := ⟨wrap_nat ((rd_at c2).trans hd) (by omega)⟩
     rw [hd]
     have hu : un lim (f + 1) ((c : Int) :: (d : Int) :: x.drop (i + 1 + 1)) out = if (d : Int) = 0 ∨ (d : Int) > (out.length : Int) then ([], 11) else if ((cp (c - 125) d out).length : Int) > lim then ([], 2) else un lim f (x.drop (i + 1 + 1)) (cp (c - 125) d out) := by
      rw [un_cons, if_neg (by omega)]
      rfl
     rw [hu]
     clear hu
     have step2 : ∀ {r : List Int × Int}, Ev (fun k => j11_Unpack.j1 k x lim out (i : Int) (c : Int) (d : Int) (decide ((d : Int) = 0 ∨ (d : Int) > (out.length : Int)))) r → Ev (fun k => j11_Unpack.l0 k x lim out (i : Int)) r := by
      intro r h
      refine Ev.step (fun k => ?_) h
      simp only [j11_Unpack.l0]
      rw [if_pos (by omega), if_pos (by omega), HRD.out, if_neg (by omega), wrap_nat (x := (i : Int) + 1) (n := i + 1) (by omega) (by omega), if_neg (by omega), if_pos (by omega), if_pos (by omega), HRD2.out]
      by_cases c3 : (d : Int) = 0
      ·
       rw [if_pos c3]
       simp [c3]
      ·
       rw [if_neg c3]
       have c4 : d ≠ 0 := by omega
       simp [c4]
     have hcl := cp_length (c - 125) d out
     by_cases c3 : (d : Int) = 0 ∨ (d : Int) > (out.length : Int)
     ·
      rw [if_pos c3]
      refine step2 (Ev.step (f := fun _ => some _) (fun k => ?_) (Ev.now _))
      simp only [j11_Unpack.j1]
      rw [if_pos (decide_eq_true c3)]
     ·
      rw [if_neg c3]
      by_cases c4 : ((cp (c - 125) d out).length : Int) > lim
      ·
       rw [if_pos c4]
       refine step2 (Ev.step (f := fun _ => some _) (fun k => ?_) (Ev.now _))
       simp only [j11_Unpack.j1]
       rw [if_neg (by rw [decide_eq_false c3]; simp), wrap_nat (x := (c : Int) - 125) (n := c - 125) (by omega) (by omega), hw.out, if_pos (by omega)]
      ·
       rw [if_neg c4]
       refine step2 (Ev.step (f := fun k => j11_Unpack.l1 k x lim out (i : Int) (c : Int) (d : Int) ((0 : Nat) : Int)) (fun k => ?_) ?_)
       ·
        simp only [j11_Unpack.j1]
        rw [if_neg (by rw [decide_eq_false c3]; simp), wrap_nat (x := (c : Int) - 125) (n := c - 125) (by omega) (by omega), hw.out, if_neg (by omega)]
        rfl
       ·
        refine refCopy_loop lim (by omega) (by omega) hc256 (c - 125) 0 out (by omega) (by omega) (by omega) (by omega) ?_
        exact ih (i + 1 + 1) _ (by omega) (by omega) (by rw [hcl]; omega) (.inr (by omega))
    ·
     rw [List.drop_of_length_le (i := i + 1) (by omega)]
     have hu : un lim (f + 1) [(c : Int)] out = ([], 9) := by
      rw [un_cons, if_neg (by omega)]
     rw [hu]
     refine Ev.step (f := fun _ => some _) (fun k => ?_) (Ev.now _)
     simp only [j11_Unpack.l0]
     rw [if_pos (by omega), if_pos (by omega), HRD.out, if_neg (by omega), wrap_nat (x := (i : Int) + 1) (n := i + 1) (by omega) (by omega), if_pos (by omega)]
  ·
   refine Ev.step (f := fun _ => some _) (fun k => ?_) (Ev.now _)
   simp only [j11_Unpack.l0]
   rw [if_neg (by omega), List.drop_of_length_le (by omega), un_nil]
theorem refUnpack_f (hlim0 : -9223372036854775808 ≤ lim) (hlim1 : lim < 9223372036854775808) : Ev (fun k => j11_Unpack.f k x lim) (un lim x.length x []) := refUnpack_l0 hm hx lim hlim0 hlim1 x.length 0 [] (by omega) (by omega) (by simp; omega) (.inl rfl)
end
theorem take_lit {b : List Int} {s e : Nat} (hs : s ≤ e) : b.take s ++ (b.take e).drop s = b.take e := by
 have := List.take_append_drop s (b.take e)
 rwa [List.take_take, Nat.min_eq_left hs] at this
theorem take_one {b : List Int} {s : Nat} (h : s < b.length) : b.take s ++ [rd b (s : Int)] = b.take (s + 1) := by
 rw [List.take_add_one, List.getElem?_eq_getElem h, rd_at h]
 rfl
theorem cp_take {b pre : List Int} {d : Nat} (hd : 1 ≤ d) : ∀ l s, d ≤ s → s + l ≤ b.length → (∀ j, j < l → rd b ((s + j : Nat) : Int) = rd b ((s + j - d : Nat) : Int)) → cp l d (pre ++ b.take s) = pre ++ b.take (s + l) := by
 intro l
 induction l with
 | zero => intro s _ _ _; rfl
 | succ l ih =>
  intro s hds hl h
  have e1 : (pre ++ b.take s).length = pre.length + s := by rw [List.length_append, List.length_take]; omega
  have e2 : rd (pre ++ b.take s) (((pre ++ b.take s).length - d : Nat) : Int) = rd b (s : Int) := by
   have h0 := h 0 (by omega)
   simp only [Nat.add_zero] at h0
   rw [h0, e1, rd_at (by rw [e1]; omega), rd_at (by omega), List.getElem_append_right (by omega), List.getElem_take]
   congr 1
   omega
  rw [cp, e2, List.append_assoc, take_one (by omega), ih (s + 1) (by omega) (by omega) (fun j hj => by have := h (j + 1) (by omega); rw [show s + 1 + j = s + (j + 1) by omega]; exact this), show s + 1 + l = s + (l + 1) by omega]
theorem un_copyN (lim : Int) (f : Nat) {l d : Nat} (hl : 3 ≤ l) (t out : List Int) : un lim (f + 1) (((l + 125 : Nat) : Int) :: (d : Int) :: t) out = if d = 0 ∨ d > out.length then ([], 11) else if ((cp l d out).length : Int) > lim then ([], 2) else un lim f t (cp l d out) := by
 have e : ((l + 125 : Nat) : Int).toNat - 125 = l := by omega
 rw [un_cons, if_neg (by omega), e]
 show (if (d : Int) = 0 ∨ (d : Int) > (out.length : Int) then _ else _ : List Int × Int) = _
 rw [Int.toNat_natCast]
 by_cases c : d = 0 ∨ d > out.length
 ·
  rw [if_pos c, if_pos (by omega)]
 ·
  rw [if_neg c, if_neg (by omega)]
theorem un_ch {b pre rest : List Int} {lim : Int} (hlim : ((pre.length + b.length : Nat) : Int) ≤ lim) {s : Nat} {t : List Int} (h : Ch b s t) :
  ∀ f, t.length + rest.length ≤ f → ∃ g, rest.length ≤ g ∧ g ≤ f ∧ un lim f (t ++ rest) (pre ++ b.take s) = un lim g rest (pre ++ b) := by
 induction h with
 | done => intro f hf; exact ⟨f, by simpa using hf, Nat.le_refl _, by rw [List.take_length]; rfl⟩
 | lit s e t h1 h2 h3 _ ih =>
  intro f hf
  have hl : ((b.take e).drop s).length = e - s := by rw [List.length_drop, List.length_take]; omega
  have ht : ((b.take e).drop s ++ (t ++ rest)).take (e - s) = (b.take e).drop s := by rw [List.take_append_of_le_length (by omega), List.take_of_length_le (by omega)]
  have hd : ((b.take e).drop s ++ (t ++ rest)).drop (e - s) = t ++ rest := by rw [← hl, List.drop_left]
  rw [List.length_cons, List.length_append, hl] at hf
  obtain ⟨f, rfl⟩ : ∃ f', f = f' + 1 := ⟨f - 1, by omega⟩
  obtain ⟨g, g1, g2, g3⟩ := ih f (by omega)
  refine ⟨g, g1, by omega, ?_⟩
  rw [List.cons_append, List.append_assoc, un_cons, if_pos (by omega), show ((e - s - 1 : Nat) : Int).toNat + 1 = e - s by omega, ht, hd, if_neg (by rw [List.length_append, hl]; omega), List.append_assoc, take_lit (by omega)]
  rw [if_neg (by rw [List.length_append, List.length_take]; omega)]
  exact g3
 | copy s l d t h1 h2 h3 h4 h5 h6 h7 _ ih =>
  intro f hf
  rw [List.length_cons, List.length_cons] at hf
  obtain ⟨f, rfl⟩ : ∃ f', f = f' + 1 := ⟨f - 1, by omega⟩
  obtain ⟨g, g1, g2, g3⟩ := ih f (by omega)
  refine ⟨g, g1, by omega, ?_⟩
  have hc : cp l d (pre ++ b.take s) = pre ++ b.take (s + l) := cp_take h3 l s h5 h6 h7
  rw [List.cons_append, List.cons_append, un_copyN lim f h1, hc, if_neg (by rw [List.length_append, List.length_take]; omega), if_neg (by rw [List.length_append, List.length_take]; omega)]
  exact g3
theorem un_packS {b : List Int} {lim : Int} (hlim : (b.length : Int) ≤ lim) {f : Nat} (hf : (packS b).length ≤ f) : un lim f (packS b) [] = (b, 0) := by
 obtain ⟨g, _, _, h⟩ := un_ch (pre := []) (rest := []) (lim := lim) (by simpa using hlim) (packS_ch b) f (by simpa using hf)
 rw [List.append_nil] at h
 exact h.trans (un_nil _ _ _)
def hend (l : List Int) : Nat := (hn4 l).2.1 + (hn4 l).1.toNat
def pkd (l : List Int) : List Int := (l.take (hend l)).drop (hn4 l).2.1
def unS (l : List Int) : List Int × Int := un (hn3 l).1 (pkd l).length (pkd l) []
def rcS (l : List Int) : Option (List S26 × List Int) := recsS (rd l 1) (hn2 l).1.toNat (unS l).1 (-1) []
def fmtE : Int × Int × List S26 × Int × Int := (0, 0, [], 0, 11)
def endS (l : List Int) : Int × Int × List S26 × Int × Int :=
 if (unS l).2 = 0 then
  (match rcS l with
  | none => fmtE
  | some (rs, b) => if b.length = 0 then (if encS (rd l 1) (hn1 l).1 rs = (l.take (hend l + 4), 0) then (rd l 1, (hn1 l).1, rs, ((hend l + 4 : Nat) : Int), 0) else fmtE) else fmtE)
 else fmtE
def decS (l : List Int) : Int × Int × List S26 × Int × Int :=
 if (opS l).2.2.2.2.2.2 = 0 then
  (if l.length < hend l + 4 then (0, 0, [], 0, 9)
  else if (l.drop (hend l)).take 4 = sumB (l.take (hend l)) then endS l
  else (0, 0, [], 0, 10))
 else (0, 0, [], 0, (opS l).2.2.2.2.2.2)
theorem un_bytes (lim : Int) : ∀ f (t out : List Int), (∀ c ∈ t, 0 ≤ c ∧ c < 256) → (∀ c ∈ out, 0 ≤ c ∧ c < 256) → (un lim f t out).1.length ≤ out.length + 200 * f ∧ ∀ c ∈ (un lim f t out).1, 0 ≤ c ∧ c < 256 := by
 intro f
 induction f with
 | zero => intro t out _ ho; simp only [un]; exact ⟨by omega, ho⟩
 | succ f ih =>
  intro t out hb ho
  rcases t with _ | ⟨c, t⟩
  ·
   rw [un_nil]
   exact ⟨by show out.length ≤ _; omega, ho⟩
  ·
   have hc := hb c (by simp)
   rw [un_cons]
   by_cases c1 : c < 128
   ·
    rw [if_pos c1]
    split
    ·
     exact ⟨by simp, by simp⟩
    ·
     split
     ·
      exact ⟨by simp, by simp⟩
     ·
      obtain ⟨g1, g2⟩ := ih (t.drop (c.toNat + 1)) (out ++ t.take (c.toNat + 1)) (fun x hx => hb x (List.mem_cons_of_mem _ (List.mem_of_mem_drop hx))) (fun x hx => by
       rcases List.mem_append.1 hx with hx | hx
       ·
        exact ho x hx
       ·
        exact hb x (List.mem_cons_of_mem _ (List.mem_of_mem_take hx)))
      rw [List.length_append, List.length_take] at g1
      exact ⟨by omega, g2⟩
   ·
    rw [if_neg c1]
    rcases t with _ | ⟨d, t⟩
    ·
     exact ⟨by simp, by simp⟩
    ·
     have hl := cp_length (c.toNat - 125) d.toNat out
     have hcp : ∀ n (o : List Int), (∀ c ∈ o, 0 ≤ c ∧ c < 256) → ∀ c ∈ cp n d.toNat o, 0 ≤ c ∧ c < 256 := by
      intro n
      induction n with
      | zero => intro o h; exact h
      | succ n ihn =>
       intro o h
       rw [cp]
       refine ihn _ (fun x hx => ?_)
       rcases List.mem_append.1 hx with hx | hx
       ·
        exact h x hx
       ·
        rw [List.mem_singleton.1 hx]
        unfold rd
        rw [List.getD_eq_getElem?_getD]
        cases e : o[((o.length - d.toNat : Nat) : Int).toNat]? with
        | none => simp
        | some y => exact h y (List.mem_of_getElem? e)
     obtain ⟨g1, g2⟩ := ih t (cp (c.toNat - 125) d.toNat out) (fun x hx => hb x (by simp [hx])) (hcp _ _ ho)
     dsimp only
     split
     ·
      exact ⟨by simp, by simp⟩
     ·
      split
      ·
       exact ⟨by simp, by simp⟩
      ·
       exact ⟨by omega, g2⟩
theorem four {l : List Int} {e : Nat} (h : e + 4 ≤ l.length) : (l.drop e).take 4 = [rd l (e : Int), rd l ((e + 1 : Nat) : Int), rd l ((e + 2 : Nat) : Int), rd l ((e + 3 : Nat) : Int)] := by
 rw [rd_at (by omega), rd_at (by omega), rd_at (by omega), rd_at (by omega)]
 apply List.ext_getElem
 ·
  simp; omega
 ·
  intro i h1 h2
  simp only [List.length_cons, List.length_nil] at h2
  rw [List.getElem_take, List.getElem_drop]
  rcases i with _ | _ | _ | _ | i <;> first | rfl | omega
section
variable {l : List Int} (hm : l.length ≤ 3000) (hx : ∀ c ∈ l, 0 ≤ c ∧ c < 256)
include hm hx
theorem unS_ok : (unS l).1.length ≤ 1000000 ∧ ∀ c ∈ (unS l).1, 0 ≤ c ∧ c < 256 := by
 obtain ⟨g1, g2⟩ := un_bytes (hn3 l).1 (pkd l).length (pkd l) [] (fun c hc => hx c (List.mem_of_mem_take (List.mem_of_mem_drop hc))) (by simp)
 have : (pkd l).length ≤ 3000 := by
  unfold pkd
  rw [List.length_drop, List.length_take]
  omega
 exact ⟨by show (un (hn3 l).1 (pkd l).length (pkd l) []).1.length ≤ _; simp only [List.length_nil] at g1; omega, g2⟩
omit hx in
theorem op_ok (h : (opS l).2.2.2.2.2.2 = 0) : 2 ≤ l.length ∧ rd l 0 = 84 ∧ (hn4 l).2.2 = 0 ∧ HOk l ∧ (hn4 l).2.1 ≤ l.length := by
 unfold opS at h
 by_cases c0 : l.length = 0
 ·
  rw [if_pos c0] at h; exact absurd h (by decide)
 rw [if_neg c0] at h
 by_cases c1 : rd l 0 = 84
 rotate_left
 ·
  rw [if_neg c1] at h; exact absurd h (by decide)
 rw [if_pos c1] at h
 by_cases c2 : l.length = 1
 ·
  rw [if_pos c2] at h; exact absurd h (by decide)
 rw [if_neg c2] at h
 by_cases c3 : (hn4 l).2.2 = 0
 rotate_left
 ·
  rw [if_neg c3] at h; exact absurd h c3
 rw [if_pos c3] at h
 by_cases c4 : HOk l
 rotate_left
 ·
  rw [if_neg c4] at h; exact absurd h (by decide)
 have l1 : (hn1 l).2.1 ≤ l.length := nx_le (by omega)
 have l2 : (hn2 l).2.1 ≤ l.length := nx_le l1
 have l3 : (hn3 l).2.1 ≤ l.length := nx_le l2
 exact ⟨by omega, c1, c3, c4, nx_le l3⟩
theorem rcS_ok {rs : List S26} {b : List Int} (h : rcS l = some (rs, b)) : ∀ r ∈ rs, RecR (rd l 1) r :=
 (recs_ok (rd l 1) _ _ _ _ _ _ (unS_ok hm hx).2 h (by simp)).1
theorem endRef (ho : (opS l).2.2.2.2.2.2 = 0) (he : hend l + 4 ≤ l.length) {R : Int × Int × List S26 × Int × Int} (hR : endS l = R) : Ev (fun k => j11_Decode.j1 k l (hn1 l).1 (hn2 l).1 (hn3 l).1 ((hend l : Nat) : Int) false l ((hn4 l).2.1 : Int) (hn4 l).2.2) R := by
 subst hR
 obtain ⟨h2, _, h3, ⟨k0, k1, k2, k3, k4⟩, h5⟩ := op_ok hm ho
 obtain ⟨u1, u2⟩ := unS_ok hm hx
 have hr1 := hx (rd l 1) (by rw [show (1 : Int) = ((1 : Nat) : Int) from rfl, rd_at (by omega)]; exact List.getElem_mem _)
 have e1 : (hn4 l).2.1 ≤ hend l := by unfold hend; omega
 have hpk : ((l.take (((hend l : Nat) : Int)).toNat).drop (((hn4 l).2.1 : Nat) : Int).toNat) = pkd l := by rw [Int.toNat_natCast, Int.toNat_natCast]; rfl
 have hpl : (pkd l).length ≤ 3000 := by
  unfold pkd
  rw [List.length_drop, List.length_take]
  omega
 have hU := refUnpack_f (x := pkd l) (by omega) (fun c hc => hx c (List.mem_of_mem_take (List.mem_of_mem_drop hc))) (hn3 l).1 (by omega) (by omega)
 have hK := refRecs_loop (rd l 1) (hn2 l).1.toNat (by omega) (hn2 l).1.toNat 0 (unS l).1 (-1) [] (by omega) u1 u2 (by simp)
 rw [Int.toNat_of_nonneg (by omega)] at hK
 refine Ev.step (fun k => by simp only [j11_Decode.j1]; rw [if_neg (by decide), if_pos (by omega), if_pos (by omega), if_pos (by omega), hpk]) (Ev.bind hU ?_)
 refine Ev.congr (fun k => by rw [if_pos (by omega), wrap64_id (x := rd l 1) (by omega) (by omega)]; rfl) (Ev.bind (show Ev (fun k => j11_records.f k (unS l).1 (rd l 1) (hn2 l).1) (recsW (rcS l)) from hK) ?_)
 have hf : ∀ (f : Int) (rs : List S26), Ev (fun k => j11_Decode.j2 k l ((hend l : Nat) : Int) true (rd l 1) f rs) fmtE := fun f rs =>
  Ev.step (f := fun _ => some _) (fun k => by simp only [j11_Decode.j2]; rw [if_pos trivial]; rfl) (Ev.now _)
 unfold endS
 by_cases c : (unS l).2 = 0
 rotate_left
 ·
  rw [if_neg c]
  refine Ev.congr (fun k => ?_) (hf (hn1 l).1 (recsW (rcS l)).1)
  show (if (unS l).2 = 0 then _ else _) = _
  rw [if_neg c]
 rw [if_pos c]
 refine Ev.congr (f := fun k => j11_Decode.j2 k l ((hend l : Nat) : Int) (!(recsW (rcS l)).2) (rd l 1) (hn1 l).1 (recsW (rcS l)).1) (fun k => ?_) ?_
 ·
  show (if (unS l).2 = 0 then _ else _) = _
  rw [if_pos c]
 cases hc : rcS l with
 | none => exact hf _ _
 | some p =>
  obtain ⟨rs, b⟩ := p
  have hrs := rcS_ok hm hx hc
  by_cases cb : b.length = 0
  rotate_left
  ·
   show Ev _ (if b.length = 0 then _ else fmtE)
   rw [if_neg cb]
   refine Ev.congr (fun k => ?_) (hf (hn1 l).1 rs)
   show j11_Decode.j2 k l _ (!((b.length : Int) == 0)) _ _ _ = _
   rw [show ((b.length : Int) == 0) = false by simpa using cb]
   rfl
  ·
   show Ev _ (if b.length = 0 then _ else fmtE)
   rw [if_pos cb]
   refine Ev.step (fun k => by
    show j11_Decode.j2 (k + 1) l _ (!((b.length : Int) == 0)) _ _ _ = _
    rw [show ((b.length : Int) == 0) = true by simpa using cb]
    simp only [j11_Decode.j2, Bool.not_true]
    rw [if_neg (by decide)]
    rfl) (Ev.bind (refEncode_f (rd l 1) (hn1 l).1 rs (fun r hr => (hrs r hr).1)) ?_)
   have hlen := encS_len (th := rd l 1) (first := (hn1 l).1) (l := rs) (fun r hr => (hrs r hr).1)
   generalize encS (rd l 1) (hn1 l).1 rs = E at hlen ⊢
   obtain ⟨E1, E2⟩ := E
   by_cases c2 : E2 = 0
   rotate_left
   ·
    rw [if_neg (by intro h; injection h; contradiction)]
    exact Ev.congr (fun k => by rw [if_neg c2]; rfl) (Ev.now _)
   refine Ev.congr (fun k => by rw [if_pos c2, wrap64_id (x := ((hend l : Nat) : Int) + 4) (by omega) (by omega), if_pos (by omega), if_pos (by omega), show (((hend l : Nat) : Int) + 4).toNat = hend l + 4 by omega]) (Ev.bind (same_f E1 (l.take (hend l + 4)) (by show E1.length ≤ _; dsimp only at hlen; omega)) ?_)
   by_cases c4 : E1 = l.take (hend l + 4)
   ·
    rw [if_pos (show (E1, E2) = (l.take (hend l + 4), (0 : Int)) by rw [c4, c2])]
    refine Ev.congr (fun k => ?_) (Ev.now _)
    rw [decide_eq_true c4, if_pos rfl]
    rfl
   ·
    rw [if_neg (show ¬ (E1, E2) = (l.take (hend l + 4), (0 : Int)) by intro h; injection h; contradiction)]
    refine Ev.congr (fun k => ?_) (Ev.now _)
    rw [decide_eq_false c4, if_neg (by decide)]
    rfl
end
theorem decS_err {l : List Int} {e : Int} (h : (opS l).2.2.2.2.2.2 = e) (he : e ≠ 0) : decS l = (0, 0, [], 0, e) := by
 unfold decS
 rw [h, if_neg he]
theorem decS_short {l : List Int} (h : (opS l).2.2.2.2.2.2 = 0) (hs : l.length < hend l + 4) : decS l = (0, 0, [], 0, 9) := by
 unfold decS
 rw [if_pos h, if_pos hs]
theorem decS_sum {l : List Int} (h : (opS l).2.2.2.2.2.2 = 0) (hs : ¬ l.length < hend l + 4) (hg : ¬ (l.drop (hend l)).take 4 = sumB (l.take (hend l))) : decS l = (0, 0, [], 0, 10) := by
 unfold decS
 rw [if_pos h, if_neg hs, if_neg hg]
theorem decS_end {l : List Int} (h : (opS l).2.2.2.2.2.2 = 0) (hs : ¬ l.length < hend l + 4) (hg : (l.drop (hend l)).take 4 = sumB (l.take (hend l))) : decS l = endS l := by
 unfold decS
 rw [if_pos h, if_neg hs, if_pos hg]
theorem wr1 {n : Nat} (h : n ≤ 1000000) : wrap64 ((n : Int) + 1) = ((n + 1 : Nat) : Int) := by
 rw [wrap64_id (by omega) (by omega)]
 omega
theorem wr2 {n : Nat} (h : n ≤ 1000000) : wrap64 ((n : Int) + 2) = ((n + 2 : Nat) : Int) := by
 rw [wrap64_id (by omega) (by omega)]
 omega
theorem wr3 {n : Nat} (h : n ≤ 1000000) : wrap64 ((n : Int) + 3) = ((n + 3 : Nat) : Int) := by
 rw [wrap64_id (by omega) (by omega)]
 omega
theorem wrE {a : Nat} {n4 : Int} (h0 : 0 ≤ n4) (h1 : n4 ≤ 1048576) (h2 : a ≤ 3000) : wrap64 ((a : Int) + n4) = ((a + n4.toNat : Nat) : Int) := by
 rw [wrap64_id (by omega) (by omega)]
 omega
theorem refDec_core {l : List Int} (hm : l.length ≤ 3000) {a E : Nat} {n1 n2 n3 n4 e4 S s0 s1 s2 s3 : Int} {R : Int × Int × List S26 × Int × Int} (hE : E = a + n4.toNat) (h0 : 0 ≤ n4) (h1 : n4 ≤ 1048576) (ha : a ≤ l.length)
  (t0 : S / 16777216 % 256 = s0) (t1 : S / 65536 % 256 = s1) (t2 : S / 256 % 256 = s2) (t3 : S % 256 = s3)
  (hsum : Ev (fun k => j11_Sum.f k (l.take E)) S) (h9 : l.length < E + 4 → R = (0, 0, [], 0, 9))
  (hN : ¬ l.length < E + 4 → ¬ [rd l (E : Int), rd l ((E + 1 : Nat) : Int), rd l ((E + 2 : Nat) : Int), rd l ((E + 3 : Nat) : Int)] = [s0, s1, s2, s3] → R = (0, 0, [], 0, 10))
  (hJ : ¬ l.length < E + 4 → [rd l (E : Int), rd l ((E + 1 : Nat) : Int), rd l ((E + 2 : Nat) : Int), rd l ((E + 3 : Nat) : Int)] = [s0, s1, s2, s3] → Ev (fun k => j11_Decode.j1 k l n1 n2 n3 (E : Int) false l (a : Int) e4) R) :
  Ev (fun k => j11_Decode.j0 k l n1 n2 n3 n4 false l (a : Int) e4) R := by
 have hA : wrap64 ((l.length : Int) - (a : Int)) = (l.length : Int) - (a : Int) := wrap64_id (by omega) (by omega)
 have hB : wrap64 (n4 + 4) = n4 + 4 := wrap64_id (by omega) (by omega)
 have hw : wrap64 ((a : Int) + n4) = (E : Int) := by rw [hE]; exact wrE h0 h1 (by omega)
 refine Ev.step (fun k => by simp only [j11_Decode.j0, hA, hB, hw]; rw [if_neg (by decide)]) ?_
 by_cases f0 : l.length < E + 4
 ·
  rw [h9 f0]
  exact Ev.congr (fun k => if_pos (by omega)) (Ev.now _)
 refine Ev.congr (fun k => (if_neg (by omega)).trans ((if_pos (by omega)).trans (if_pos (by omega)))) ?_
 have hE3 : E ≤ 1000000 := by
  have f1 := f0
  clear hJ hN h9 hsum t0 t1 t2 t3
  omega
 have N : ¬ [rd l (E : Int), rd l ((E + 1 : Nat) : Int), rd l ((E + 2 : Nat) : Int), rd l ((E + 3 : Nat) : Int)] = [s0, s1, s2, s3] → Ev (fun k => j11_Decode.j1 k l n1 n2 n3 (E : Int) true l (a : Int) e4) R := fun hg => by
  rw [hN f0 hg]
  exact Ev.step (f := fun _ => some _) (fun k => by simp only [j11_Decode.j1]; rw [if_pos trivial]) (Ev.now _)
 have z0 : (E : Int) < (l.length : Int) := by omega
 have y1 : (0 : Int) ≤ ((E + 1 : Nat) : Int) := by omega
 have z1 : ((E + 1 : Nat) : Int) < (l.length : Int) := by omega
 have y2 : (0 : Int) ≤ ((E + 2 : Nat) : Int) := by omega
 have z2 : ((E + 2 : Nat) : Int) < (l.length : Int) := by omega
 have y3 : (0 : Int) ≤ ((E + 3 : Nat) : Int) := by omega
 have z3 : ((E + 3 : Nat) : Int) < (l.length : Int) := by omega
 replace hJ := hJ f0
 have e1 := wr1 hE3
 have e2 := wr2 hE3
 have e3 := wr3 hE3
 refine Ev.congr (fun k => by rw [Int.toNat_natCast]) (Ev.bind hsum ?_)
 simp only [e1, e2, e3, t0, t1, t2, t3]
 clear hm hE3 hE h0 h1 ha t0 t1 t2 t3 hsum h9 hN hA hB hw f0 e1 e2 e3
 refine Ev.congr (fun k => if_pos z0) ?_
 by_cases g0 : rd l (E : Int) = s0
 rotate_left
 ·
  exact Ev.congr (fun k => if_neg g0) (N (fun h => by injection h; contradiction))
 refine Ev.congr (fun k => (if_pos g0).trans ((if_pos y1).trans (if_pos z1))) ?_
 by_cases g1 : rd l ((E + 1 : Nat) : Int) = s1
 rotate_left
 ·
  exact Ev.congr (fun k => if_neg g1) (N (fun h => by injection h with _ h; injection h; contradiction))
 refine Ev.congr (fun k => (if_pos g1).trans ((if_pos y2).trans (if_pos z2))) ?_
 by_cases g2 : rd l ((E + 2 : Nat) : Int) = s2
 rotate_left
 ·
  exact Ev.congr (fun k => if_neg g2) (N (fun h => by injection h with _ h; injection h with _ h; injection h; contradiction))
 refine Ev.congr (fun k => (if_pos g2).trans ((if_pos y3).trans (if_pos z3))) ?_
 by_cases g3 : rd l ((E + 3 : Nat) : Int) = s3
 rotate_left
 ·
  refine Ev.congr (fun k => ?_) (N (fun h => by injection h with _ h; injection h with _ h; injection h with _ h; injection h; contradiction))
  rw [show (rd l ((E + 3 : Nat) : Int) != s3) = true by simpa using g3]
 ·
  rw [show (rd l ((E + 3 : Nat) : Int) != s3) = false by simpa using g3]
  exact hJ (by rw [g0, g1, g2, g3])
theorem opS_0 {l : List Int} (h : l.length = 0) : (opS l).2.2.2.2.2.2 = 9 := by unfold opS; rw [if_pos h]
theorem opS_1 {l : List Int} (h : ¬ l.length = 0) (h1 : ¬ rd l 0 = 84) : (opS l).2.2.2.2.2.2 = 11 := by unfold opS; rw [if_neg h, if_neg h1]
theorem opS_2 {l : List Int} (h : ¬ l.length = 0) (h1 : rd l 0 = 84) (h2 : l.length = 1) : (opS l).2.2.2.2.2.2 = 9 := by unfold opS; rw [if_neg h, if_pos h1, if_pos h2]
theorem opS_3 {l : List Int} (h : ¬ l.length = 0) (h1 : rd l 0 = 84) (h2 : ¬ l.length = 1) (h3 : ¬ (hn4 l).2.2 = 0) : (opS l).2.2.2.2.2.2 = (hn4 l).2.2 := by unfold opS; rw [if_neg h, if_pos h1, if_neg h2, if_neg h3]
theorem opS_4 {l : List Int} (h : ¬ l.length = 0) (h1 : rd l 0 = 84) (h2 : ¬ l.length = 1) (h3 : (hn4 l).2.2 = 0) (h4 : ¬ HOk l) : (opS l).2.2.2.2.2.2 = 11 := by unfold opS; rw [if_neg h, if_pos h1, if_neg h2, if_pos h3, if_neg h4]
theorem opS_5 {l : List Int} (h : ¬ l.length = 0) (h1 : rd l 0 = 84) (h2 : ¬ l.length = 1) (h3 : (hn4 l).2.2 = 0) (h4 : HOk l) : opS l = (rd l 1, (hn1 l).1, (hn2 l).1, (hn3 l).1, (hn4 l).1, ((hn4 l).2.1 : Int), 0) := by unfold opS; rw [if_neg h, if_pos h1, if_neg h2, if_pos h3, if_pos h4]
section
variable {l : List Int} (hm : l.length ≤ 3000) (hx : ∀ c ∈ l, 0 ≤ c ∧ c < 256)
include hm hx
theorem refDec_main (ho : (opS l).2.2.2.2.2.2 = 0) : Ev (fun k => j11_Decode.j0 k l (hn1 l).1 (hn2 l).1 (hn3 l).1 (hn4 l).1 false l ((hn4 l).2.1 : Int) (hn4 l).2.2) (decS l) := by
 obtain ⟨h2, _, h3, ⟨k0, k1, k2, k3, k4⟩, h5⟩ := op_ok hm ho
 have hf : ¬ l.length < hend l + 4 → hend l + 4 ≤ l.length := fun h => Nat.le_of_not_lt h
 refine refDec_core hm (E := hend l) rfl k4.1 k4.2 h5 rfl rfl rfl rfl (refSum_f (l.take (hend l)) (by rw [List.length_take]; exact Nat.le_trans (Nat.min_le_right _ _) (Nat.le_trans hm (by decide))) (fun c hc => hx c (List.mem_of_mem_take hc))) (fun h => decS_short ho h) (fun h hg => decS_sum ho h ?_) (fun h hg => ?_)
 ·
  rw [four (hf h)]
  exact hg
 ·
  rw [decS_end ho h (by rw [four (hf h)]; exact hg)]
  exact endRef hm hx ho (hf h) rfl
theorem refDec_f : Ev (fun k => j11_Decode.f k l) (decS l) := by
 have hm' : l.length ≤ 1000000 := by omega
 by_cases c0 : l.length = 0
 ·
  rw [decS_err (opS_0 c0) (by decide)]
  exact Ev.congr (fun k => by unfold j11_Decode.f; rw [if_pos (by omega)]) (Ev.now _)
 by_cases c1 : rd l 0 = 84
 rotate_left
 ·
  rw [decS_err (opS_1 c0 c1) (by decide)]
  exact Ev.congr (fun k => by unfold j11_Decode.f; rw [if_neg (by omega), if_pos (by omega), if_neg c1]) (Ev.now _)
 by_cases c2 : l.length = 1
 ·
  rw [decS_err (opS_2 c0 c1 c2) (by decide)]
  exact Ev.congr (fun k => by unfold j11_Decode.f; rw [if_neg (by omega), if_pos (by omega), if_pos c1, if_pos (by omega)]) (Ev.now _)
 have l0 : 2 ≤ l.length := by omega
 have l1 : (hn1 l).2.1 ≤ l.length := nx_le l0
 have l2 : (hn2 l).2.1 ≤ l.length := nx_le l1
 have l3 : (hn3 l).2.1 ≤ l.length := nx_le l2
 refine Ev.congr (fun k => by unfold j11_Decode.f; rw [if_neg (by omega), if_pos (by omega), if_pos c1, if_neg (by omega)])
  (Ev.bind (show Ev (fun k => j11_reader_num.f k l 2 0) (c3 (hn1 l)) from num_f hm' hx 2 0 l0)
  (Ev.bind (show Ev (fun k => j11_reader_num.f k l (c3 (hn1 l)).2.1 (c3 (hn1 l)).2.2) (c3 (hn2 l)) from num_f hm' hx _ _ l1)
  (Ev.bind (show Ev (fun k => j11_reader_num.f k l (c3 (hn2 l)).2.1 (c3 (hn2 l)).2.2) (c3 (hn3 l)) from num_f hm' hx _ _ l2)
  (Ev.bind (show Ev (fun k => j11_reader_num.f k l (c3 (hn3 l)).2.1 (c3 (hn3 l)).2.2) (c3 (hn4 l)) from num_f hm' hx _ _ l3) ?_))))
 by_cases c4 : (hn4 l).2.2 = 0
 rotate_left
 ·
  rw [decS_err (opS_3 c0 c1 c2 c4) c4]
  exact Ev.congr (fun k => if_neg c4) (Ev.now _)
 have hr1 := hx (rd l 1) (by rw [show (1 : Int) = ((1 : Nat) : Int) from rfl, rd_at l0]; exact List.getElem_mem _)
 have hw : wrap64 (rd l 1) = rd l 1 := wrap64_id (by omega) (by omega)
 have T : ¬ HOk l → Ev (fun k => j11_Decode.j0 k l (hn1 l).1 (hn2 l).1 (hn3 l).1 (hn4 l).1 true l ((hn4 l).2.1 : Int) (hn4 l).2.2) (decS l) := fun hb => by
  rw [decS_err (opS_4 c0 c1 c2 c4 hb) (by decide)]
  exact Ev.step (f := fun _ => some _) (fun k => by simp only [j11_Decode.j0]; rw [if_pos trivial]) (Ev.now _)
 have M : HOk l → Ev (fun k => j11_Decode.j0 k l (hn1 l).1 (hn2 l).1 (hn3 l).1 (hn4 l).1 false l ((hn4 l).2.1 : Int) (hn4 l).2.2) (decS l) := fun hb =>
  refDec_main hm hx (by rw [opS_5 c0 c1 c2 c4 hb])
 have u0 : wrap64 (rd l 1) ≥ 4 → ¬ HOk l := fun h hb => by have := hb.1; rw [hw] at h; omega
 have u1 : (hn1 l).1 < 0 → ¬ HOk l := fun h hb => by have := hb.2.1.1; omega
 have u2 : (hn1 l).1 > 400 → ¬ HOk l := fun h hb => by have := hb.2.1.2; omega
 have u3 : (hn2 l).1 < 1 → ¬ HOk l := fun h hb => by have := hb.2.2.1.1; omega
 have u4 : (hn2 l).1 > 64 → ¬ HOk l := fun h hb => by have := hb.2.2.1.2; omega
 have u5 : (hn3 l).1 < 0 → ¬ HOk l := fun h hb => by have := hb.2.2.2.1.1; omega
 have u6 : (hn3 l).1 > 1048576 → ¬ HOk l := fun h hb => by have := hb.2.2.2.1.2; omega
 have u7 : (hn4 l).1 < 0 → ¬ HOk l := fun h hb => by have := hb.2.2.2.2.1; omega
 have u8 : (hn4 l).1 > 1048576 → ¬ HOk l := fun h hb => by have := hb.2.2.2.2.2; omega
 have y1 : (1 : Int) < (l.length : Int) := by omega
 refine Ev.congr (fun k => (if_pos c4).trans (if_pos y1)) ?_
 by_cases d0 : wrap64 (rd l 1) ≥ 4
 ·
  exact Ev.congr (fun k => if_pos d0) (T (u0 d0))
 refine Ev.congr (fun k => if_neg d0) ?_
 by_cases d1 : (hn1 l).1 < 0
 ·
  exact Ev.congr (fun k => if_pos d1) (T (u1 d1))
 refine Ev.congr (fun k => if_neg d1) ?_
 by_cases d2 : (hn1 l).1 > 400
 ·
  exact Ev.congr (fun k => if_pos d2) (T (u2 d2))
 refine Ev.congr (fun k => if_neg d2) ?_
 by_cases d3 : (hn2 l).1 < 1
 ·
  exact Ev.congr (fun k => if_pos d3) (T (u3 d3))
 refine Ev.congr (fun k => if_neg d3) ?_
 by_cases d4 : (hn2 l).1 > 64
 ·
  exact Ev.congr (fun k => if_pos d4) (T (u4 d4))
 refine Ev.congr (fun k => if_neg d4) ?_
 by_cases d5 : (hn3 l).1 < 0
 ·
  exact Ev.congr (fun k => if_pos d5) (T (u5 d5))
 refine Ev.congr (fun k => if_neg d5) ?_
 by_cases d6 : (hn3 l).1 > 1048576
 ·
  exact Ev.congr (fun k => if_pos d6) (T (u6 d6))
 refine Ev.congr (fun k => if_neg d6) ?_
 by_cases d7 : (hn4 l).1 < 0
 ·
  exact Ev.congr (fun k => if_pos d7) (T (u7 d7))
 refine Ev.congr (fun k => if_neg d7) ?_
 by_cases d8 : (hn4 l).1 > 1048576
 ·
  refine Ev.congr (fun k => ?_) (T (u8 d8))
  show j11_Decode.j0 k l (hn1 l).1 (hn2 l).1 (hn3 l).1 (hn4 l).1 (decide ((hn4 l).1 > 1048576)) l ((hn4 l).2.1 : Int) (hn4 l).2.2 = _
  rw [decide_eq_true d8]
 ·
  refine Ev.congr (fun k => ?_) (M ⟨by rw [hw] at d0; omega, ⟨by omega, by omega⟩, ⟨by omega, by omega⟩, ⟨by omega, by omega⟩, ⟨by omega, by omega⟩⟩)
  show j11_Decode.j0 k l (hn1 l).1 (hn2 l).1 (hn3 l).1 (hn4 l).1 (decide ((hn4 l).1 > 1048576)) l ((hn4 l).2.1 : Int) (hn4 l).2.2 = _
  rw [decide_eq_false d8]
end
end Go.Proofs.Ytnmmkgagbfniiaa.Pl
end
