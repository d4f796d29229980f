/- MCollectBlocks19: texts of this session and of the kit's printer on the road to the statement CollectBlocks, laid into one and rid of what it doesn't need. No condition beyond what each fact names. -/
import Derived.Test.YtnmmkgagbfniiaaMCollectBlocks18
import Derived.Test.YtnmmkgagbfniiaaMCollectBlocks11
import Derived.Test.YtnmmkgagbfniiaaMCollectBlocks10
import Derived.Test.YtnmmkgagbfniiaaMCollectBlocks16
import Derived.Test.YtnmmkgagbfniiaaMCollectBlocks12
import Derived.Test.YtnmmkgagbfniiaaRows
import GoSem.ClaimJoined
import Derived.JoinedOf
import Derived.KernelRfl
import Derived.SizedLaws
import Derived.ChangeSlices
section
namespace Go.Proofs.Ytnmmkgagbfniiaa.Pl
open Go.RowKit Go.Proofs.YtnmmkgagbfniiaaW.PrintWords Go.Proofs.YtnmmkgagbfniiaaW.PrintMore Go.Proofs.Ytnmmkgagbfniiaa.A
set_option linter.unusedVariables false
theorem equal_loop (x y : List Int) (hl : x.length = y.length) (hm : x.length ≤ 140737488355328) : ∀ (d i : Nat), i + d = x.length → Ev (fun k => slices_Equal_byte_byte.l0 k x y (x.length : Int) (i : Int)) (decide (x.drop i = y.drop i)) := by
 intro d
 induction d with
 | zero =>
  intro i hi
  refine Ev.step (f := fun _ => some _) (fun k => ?_) (Ev.now _)
  simp only [slices_Equal_byte_byte.l0]
  rw [if_neg (by omega), List.drop_of_length_le (by omega), List.drop_of_length_le (by omega)]
  simp
 | succ d ih =>
  intro i hi
  have hx : i < x.length := by omega
  have hy : i < y.length := by omega
  have ex : rd x (i : Int) = x[i] := rd_at hx
  have ey : rd y (i : Int) = y[i] := rd_at hy
  rw [List.drop_eq_getElem_cons hx, List.drop_eq_getElem_cons hy]
  by_cases h : x[i] = y[i]
  ·
   refine Ev.step (f := fun k => slices_Equal_byte_byte.l0 k x y (x.length : Int) ((i + 1 : Nat) : Int)) (fun k => ?_) ?_
   ·
    simp only [slices_Equal_byte_byte.l0]
    rw [if_pos (by omega), if_pos (by omega), if_pos (by omega), if_pos (by omega), ex, ey, if_pos h, wrap64_id (by omega) (by omega)]
    rfl
   ·
    have := ih (i + 1) (by omega)
    rwa [show decide (x[i] :: x.drop (i + 1) = y[i] :: y.drop (i + 1)) = decide (x.drop (i + 1) = y.drop (i + 1)) from decide_eq_decide.mpr ⟨fun e => (List.cons.inj e).2, fun e => by rw [h, e]⟩]
  ·
   rw [show decide (x[i] :: x.drop (i + 1) = y[i] :: y.drop (i + 1)) = false from decide_eq_false (fun e => h (List.cons.inj e).1)]
   refine Ev.step (f := fun _ => some _) (fun k => ?_) (Ev.now _)
   simp only [slices_Equal_byte_byte.l0]
   rw [if_pos (by omega), if_pos (by omega), if_pos (by omega), if_pos (by omega), ex, ey, if_neg h]
theorem equal_f (x y : List Int) (hm : x.length ≤ 140737488355328) : Ev (fun k => slices_Equal_byte_byte.f k x y) (decide (x = y)) := by
 by_cases hl : x.length = y.length
 ·
  have := equal_loop x y hl hm x.length 0 (by omega)
  simp only [List.drop_zero] at this
  refine Ev.congr (fun k => ?_) this
  unfold slices_Equal_byte_byte.f
  rw [if_pos (by omega)]
  rfl
 ·
  refine ⟨0, fun k _ => ?_⟩
  show slices_Equal_byte_byte.f k x y = _
  unfold slices_Equal_byte_byte.f
  rw [if_neg (by omega)]
  have : x ≠ y := fun e => hl (by rw [e])
  simp [this]
theorem head_back {th first n : Int} {p rest l : List Int} (h1 : I64 first) (h2 : I64 n) (h3 : p.length ≤ 1000000) (hl : l = headS th first n p ++ rest) :
  hn1 l = (first, ([84, th % 256] ++ enc first).length, 0) ∧ (hn2 l).1 = n ∧ (hn3 l).1 = (p.length : Int) ∧ (hn4 l).1 = ((packS p).length : Int) ∧ (hn4 l).2.1 = (headS th first n p).length := by
 have hp := packS_length p
 have a3 : I64 (p.length : Int) := by unfold I64; omega
 have a4 : I64 ((packS p).length : Int) := by unfold I64; omega
 have s1 : hn1 l = (first, ([84, th % 256] ++ enc first).length, 0) := by
  have := nx_enc h1 [84, th % 256] (enc n ++ (enc (p.length : Int) ++ (enc ((packS p).length : Int) ++ rest)))
  unfold hn1
  rw [hl]
  simp only [headS, encs, List.append_assoc, List.append_nil] at this ⊢
  exact this
 have s2 : hn2 l = (n, ([84, th % 256] ++ (enc first ++ enc n)).length, 0) := by
  have := nx_enc h2 ([84, th % 256] ++ enc first) (enc (p.length : Int) ++ (enc ((packS p).length : Int) ++ rest))
  unfold hn2
  rw [s1, hl]
  simp only [headS, encs, List.append_assoc, List.append_nil] at this ⊢
  exact this
 have s3 : hn3 l = ((p.length : Int), ([84, th % 256] ++ (enc first ++ (enc n ++ enc (p.length : Int)))).length, 0) := by
  have := nx_enc a3 ([84, th % 256] ++ (enc first ++ enc n)) (enc ((packS p).length : Int) ++ rest)
  unfold hn3
  rw [s2, hl]
  simp only [headS, encs, List.append_assoc, List.append_nil] at this ⊢
  exact this
 have s4 : hn4 l = (((packS p).length : Int), (headS th first n p).length, 0) := by
  have := nx_enc a4 ([84, th % 256] ++ (enc first ++ (enc n ++ enc (p.length : Int)))) rest
  unfold hn4
  rw [s3, hl]
  simp only [headS, encs, List.append_assoc, List.append_nil] at this ⊢
  exact this
 rw [s1, s2, s3, s4]
 exact ⟨rfl, rfl, rfl, rfl, rfl⟩
theorem enc_tells {l : List Int} {th first : Int} {rs : List S26} {E : Nat} (hr : ∀ r ∈ rs, RecOk r) (hE : encS th first rs = (l.take E, 0)) : (unS l).2 = 0 ∧ ((unS l).1.length : Int) = (hn3 l).1 := by
 have hc : chk th first rs = 0 := by
  unfold encS at hE
  by_cases c : chk th first rs = 0
  ·
   exact c
  ·
   rw [if_neg c] at hE
   exact absurd (Prod.mk.inj hE).2 c
 have hb : l.take E = bodyS th first rs ++ sumB (bodyS th first rs) := by
  unfold encS at hE
  rw [if_pos hc] at hE
  exact (Prod.mk.inj hE).1.symm
 obtain ⟨c1, _, _, _, c5, c6, c7⟩ := chk_zero hc
 have hp := payS_len c7 hr
 obtain ⟨p, hpe⟩ : ∃ p, p = payS (-1) rs := ⟨_, rfl⟩
 have hl : l = headS th first (rs.length : Int) p ++ (packS p ++ (sumB (bodyS th first rs) ++ l.drop E)) := by
  have h := List.take_append_drop E l
  rw [hb] at h
  have hB : bodyS th first rs = headS th first (rs.length : Int) p ++ packS p := by
   rw [hpe]
   rfl
  generalize bodyS th first rs = B at h hB ⊢
  rw [← List.append_assoc, ← hB, ← List.append_assoc]
  exact h.symm
 rw [← hpe] at hp
 obtain ⟨s1, s2, s3, s4, s5⟩ := head_back (p := p) (by unfold I64; omega) (by unfold I64; omega) (by omega) hl
 have hend_ : hend l = (headS th first (rs.length : Int) p ++ packS p).length := by
  unfold hend
  rw [s4, s5, Int.toNat_natCast, List.length_append]
 have hk : pkd l = packS p := by
  unfold pkd
  rw [hend_, s5]
  conv => lhs; rw [hl]
  rw [← List.append_assoc, List.take_left, List.drop_left]
 unfold unS
 rw [hk, s3, un_packS (Int.le_refl _) (Nat.le_refl _)]
 exact ⟨rfl, rfl⟩
def recP (l : List Int) : Int × Int × List S26 × Bool := if (unS l).2 = 0 ∧ ((unS l).1.length : Int) = (hn3 l).1 then recsV (rd l 1) (hn1 l).1 (rcS l) else (0, 0, [], false)
theorem rec_f {l : List Int} (hm : l.length ≤ 3000) (hx : ∀ c ∈ l, 0 ≤ c ∧ c < 256) (ho : (opS l).2.2.2.2.2.2 = 0) (n4 n5 : Int) : Ev (fun k => block_records.f k (rd l 1) (hn1 l).1 (hn2 l).1 (hn3 l).1 n4 n5 (pkd l)) (recP l) := by
 obtain ⟨h2, _, h3, ⟨k0, k1, k2, k3, k4⟩, h5⟩ := op_ok hm ho
 obtain ⟨u1, u2⟩ := unS_ok hm hx
 have hr1 := hx (rd l 1) (by rw [show (1 : Int) = ((1 : Nat) : Int) from rfl, rd_at (by omega)]; exact List.getElem_mem _)
 have hw : wrap64 (rd l 1) = rd l 1 := wrap64_id (by omega) (by omega)
 have hpl : (pkd l).length ≤ 3000 := by
  unfold pkd
  rw [List.length_drop, List.length_take]
  omega
 have hU : Ev (fun k => pack_Unpack.f k (pkd l) (hn3 l).1) (unS l) := unpack_f (x := pkd l) (by omega) (fun c hc => hx c (List.mem_of_mem_take (List.mem_of_mem_drop hc))) (hn3 l).1
 have hn : (hn2 l).1.toNat ≤ 64 := by omega
 have hK := recs_loop (rd l 1) (hn1 l).1 (hn2 l).1.toNat hn (hn2 l).1.toNat 0 (unS l).1 (-1) [] (by omega) u1 u2 (by simp)
 rw [Int.toNat_of_nonneg (by omega)] at hK
 have hbad : Ev (fun k => block_records.j0 k (unS l).1 true (rd l 1) (hn1 l).1 (hn2 l).1 (hn3 l).1 n4 n5 (wrap64 (rd l 1)) (hn1 l).1) (0, 0, [], false) :=
  Ev.step (f := fun _ => some _) (fun k => by simp only [block_records.j0]; rw [if_pos trivial]) (Ev.now _)
 unfold recP
 refine Ev.bind hU ?_
 by_cases c : (unS l).2 = 0
 rotate_left
 ·
  rw [if_neg (fun h => c h.1)]
  exact Ev.congr (fun k => if_neg c) hbad
 refine Ev.congr (fun k => if_pos c) ?_
 by_cases c2 : ((unS l).1.length : Int) = (hn3 l).1
 ·
  rw [if_pos ⟨c, c2⟩]
  rw [show (((unS l).1.length : Int) != (hn3 l).1) = false by simpa using c2]
  exact Ev.step (fun k => by simp only [block_records.j0]; rw [if_neg (by decide), hw]; rfl) hK
 ·
  rw [if_neg (fun h => c2 h.2)]
  rw [show (((unS l).1.length : Int) != (hn3 l).1) = true by simpa using c2]
  exact hbad
theorem endP {l : List Int} (hm : l.length ≤ 3000) (hx : ∀ c ∈ l, 0 ≤ c ∧ c < 256) {E4 : Int} (hE4 : E4 = ((hend l + 4 : Nat) : Int)) :
  Ev (fun k => if (recP l).2.2.2 = true then ((block_Encode.f k (recP l).1 (recP l).2.1 (recP l).2.2.1).bind fun bt => (if bt.2 = 0 then (if 0 ≤ E4 then ((slices_Equal_byte_byte.f k bt.1 (l.take (E4 : Int).toNat)).bind fun t => (if t = true then (some ((recP l).1, (recP l).2.1, (recP l).2.2.1, E4, 0)) else (some (0, 0, ([] : List S26), 0, 11)))) else (none)) else (some (0, 0, ([] : List S26), 0, 11)))) else (some (0, 0, ([] : List S26), 0, 11))) (endS l) := by
 have hy : (0 : Int) ≤ E4 := by omega
 have ht : E4.toNat = hend l + 4 := by omega
 have hno : (recP l).2.2.2 = false → endS l = fmtE → Ev (fun k => if (recP l).2.2.2 = true then ((block_Encode.f k (recP l).1 (recP l).2.1 (recP l).2.2.1).bind fun bt => (if bt.2 = 0 then (if 0 ≤ E4 then ((slices_Equal_byte_byte.f k bt.1 (l.take (E4 : Int).toNat)).bind fun t => (if t = true then (some ((recP l).1, (recP l).2.1, (recP l).2.2.1, E4, 0)) else (some (0, 0, ([] : List S26), 0, 11)))) else (none)) else (some (0, 0, ([] : List S26), 0, 11)))) else (some (0, 0, ([] : List S26), 0, 11))) (endS l) := fun h he => by
  rw [he]
  exact Ev.congr (fun k => if_neg (by rw [h]; decide)) (Ev.now _)
 by_cases c : (unS l).2 = 0
 rotate_left
 ·
  exact hno (by unfold recP; rw [if_neg (fun h => c h.1)]) (by unfold endS; rw [if_neg c])
 by_cases c2 : ((unS l).1.length : Int) = (hn3 l).1
 rotate_left
 ·
  refine hno (by unfold recP; rw [if_neg (fun h => c2 h.2)]) ?_
  unfold endS
  rw [if_pos c]
  cases hc : rcS l with
  | none => rfl
  | some q =>
   obtain ⟨rs, b⟩ := q
   have hrs := rcS_ok hm hx hc
   show (if b.length = 0 then _ else fmtE) = _
   by_cases cb : b.length = 0
   ·
    rw [if_pos cb, if_neg (fun h => c2 (enc_tells (fun r hr => (hrs r hr).1) h).2)]
   ·
    rw [if_neg cb]
 have hP : recP l = recsV (rd l 1) (hn1 l).1 (rcS l) := by unfold recP; rw [if_pos ⟨c, c2⟩]
 cases hc : rcS l with
 | none =>
  refine hno (by rw [hP, hc]; rfl) ?_
  unfold endS
  rw [if_pos c, hc]
 | some q =>
  obtain ⟨rs, b⟩ := q
  have hrs := rcS_ok hm hx hc
  rw [hc] at hP
  have hS : endS l = if b.length = 0 then (if encS (rd l 1) (hn1 l).1 rs = (l.take (hend l + 4), 0) then (rd l 1, (hn1 l).1, rs, ((hend l + 4 : Nat) : Int), 0) else fmtE) else fmtE := by
   unfold endS
   rw [if_pos c, hc]
  by_cases cb : b.length = 0
  rotate_left
  ·
   refine hno ?_ (by rw [hS, if_neg cb])
   rw [hP]
   show ((b.length : Int) == 0) = false
   simpa using cb
  clear hno
  have hq : (recP l).2.2.2 = true := by
   rw [hP]
   show ((b.length : Int) == 0) = true
   simpa using cb
  rw [if_pos cb] at hS
  rw [hS]
  refine Ev.congr (fun k => if_pos hq) ?_
  rw [hP]
  refine Ev.bind (show Ev (fun k => block_Encode.f k (rd l 1) (hn1 l).1 rs) (encS (rd l 1) (hn1 l).1 rs) from encode_f (rd l 1) (hn1 l).1 rs (fun r hr => (hrs r hr).1)) ?_
  have hlen := encS_len (th := rd l 1) (first := (hn1 l).1) (l := rs) (fun r hr => (hrs r hr).1)
  generalize encS (rd l 1) (hn1 l).1 rs = EE at hlen ⊢
  obtain ⟨E1, E2⟩ := EE
  by_cases c3 : E2 = 0
  rotate_left
  ·
   rw [if_neg (show ¬ (E1, E2) = (l.take (hend l + 4), (0 : Int)) by intro h; injection h; contradiction)]
   exact Ev.congr (fun k => if_neg c3) (Ev.now _)
  refine Ev.congr (fun k => (if_pos c3).trans (if_pos hy)) ?_
  rw [ht]
  refine Ev.bind (equal_f E1 (l.take (hend l + 4)) (by show E1.length ≤ _; dsimp only at hlen; exact Nat.le_trans hlen (by decide))) ?_
  by_cases c4 : E1 = l.take (hend l + 4)
  ·
   rw [if_pos (show (E1, E2) = (l.take (hend l + 4), (0 : Int)) by rw [c4, c3])]
   refine Ev.congr (fun k => ?_) (Ev.now _)
   rw [decide_eq_true c4, if_pos rfl, hE4]
   rfl
  ·
   rw [if_neg (show ¬ (E1, E2) = (l.take (hend l + 4), (0 : Int)) by intro h; injection h; contradiction)]
   refine Ev.congr (fun k => ?_) (Ev.now _)
   rw [decide_eq_false c4, if_neg (by decide)]
   rfl
theorem cut_len {l : List Int} {E : Nat} (h : E + 4 ≤ l.length) : (((l.take (((E + 4 : Nat) : Int)).toNat).drop ((E : Int)).toNat).length : Int) = 4 := by
 rw [Int.toNat_natCast, Int.toNat_natCast, List.length_drop, List.length_take]
 omega
theorem cut_rd {l : List Int} {E : Nat} (h : E + 4 ≤ l.length) {j : Nat} (hj : j < 4) : rd ((l.take (((E + 4 : Nat) : Int)).toNat).drop ((E : Int)).toNat) (j : Int) = rd l ((E + j : Nat) : Int) := by
 rw [Int.toNat_natCast, Int.toNat_natCast, rd_at (by rw [List.length_drop, List.length_take]; omega), rd_at (by omega), List.getElem_drop, List.getElem_take]
theorem dec_core {l : List Int} (hm : l.length ≤ 3000) {a E : Nat} {th n1 n2 n3 n4 : Int} {st : Int × Int × Int × Int} {R : Int × Int × List S26 × Int × Int} (hE : E = a + n4.toNat) (h0 : 0 ≤ n4) (h1 : n4 ≤ 1048576) (ha : a ≤ l.length)
  (hop : Ev (fun k => block_open.f k l) (th, n1, n2, n3, n4, (a : Int), 0))
  (hseal : Ev (fun k => block_seal.f k (l.take E)) st) (h9 : l.length < E + 4 → R = (0, 0, [], 0, 9))
  (hN : ¬ l.length < E + 4 → ¬ [rd l (E : Int), rd l ((E + 1 : Nat) : Int), rd l ((E + 2 : Nat) : Int), rd l ((E + 3 : Nat) : Int)] = [st.1, st.2.1, st.2.2.1, st.2.2.2] → R = (0, 0, [], 0, 10))
  (hJ : ¬ l.length < E + 4 → [rd l (E : Int), rd l ((E + 1 : Nat) : Int), rd l ((E + 2 : Nat) : Int), rd l ((E + 3 : Nat) : Int)] = [st.1, st.2.1, st.2.2.1, st.2.2.2] → Ev (fun k => (block_records.f k th n1 n2 n3 n4 (a : Int) ((l.take E).drop a)).bind fun r => if r.2.2.2 = true then ((block_Encode.f k r.1 r.2.1 r.2.2.1).bind fun bt => (if bt.2 = 0 then (if 0 ≤ ((E + 4 : Nat) : Int) then ((slices_Equal_byte_byte.f k bt.1 (l.take (((E + 4 : Nat) : Int)).toNat)).bind fun t => (if t = true then (some (r.1, r.2.1, r.2.2.1, ((E + 4 : Nat) : Int), 0)) else (some (0, 0, ([] : List S26), 0, 11)))) else (none)) else (some (0, 0, ([] : List S26), 0, 11)))) else (some (0, 0, ([] : List S26), 0, 11))) R) :
  Ev (fun k => block_Decode.f k l) R := by
 have hw : wrap64 ((a : Int) + n4) = (E : Int) := by rw [hE]; exact wrE h0 h1 (by omega)
 have hE3 : E ≤ 3000 + 1048576 := by omega
 have hw4 : wrap64 ((E : Int) + 4) = ((E + 4 : Nat) : Int) := by rw [wrap64_id (by omega) (by omega)]; omega
 unfold block_Decode.f
 refine Ev.bind hop ?_
 simp only [hw, hw4]
 refine Ev.congr (fun k => if_pos trivial) ?_
 by_cases f0 : l.length < E + 4
 ·
  rw [h9 f0]
  exact Ev.congr (fun k => if_pos (by omega)) (Ev.now _)
 have f1 : E + 4 ≤ l.length := Nat.le_of_not_lt f0
 have z1 : ¬ ((l.length : Int) < ((E + 4 : Nat) : Int)) := by omega
 have z2 : (0 : Int) ≤ (E : Int) := by omega
 have z3 : (E : Int) ≤ ((E + 4 : Nat) : Int) := by omega
 have z4 : ((E + 4 : Nat) : Int) ≤ (l.length : Int) := by omega
 have z5 : (3 : Int) < (((l.take (((E + 4 : Nat) : Int)).toNat).drop ((E : Int)).toNat).length : Int) := by rw [cut_len f1]; decide
 have z6 : (E : Int) ≤ (l.length : Int) := by omega
 have z7 : (0 : Int) ≤ (a : Int) := by omega
 have z8 : (a : Int) ≤ (E : Int) := by omega
 have r0 := cut_rd f1 (j := 0) (by decide)
 have r1 := cut_rd f1 (j := 1) (by decide)
 have r2 := cut_rd f1 (j := 2) (by decide)
 have r3 := cut_rd f1 (j := 3) (by decide)
 replace hN := hN f0
 replace hJ := hJ f0
 refine Ev.congr (fun k => (if_neg z1).trans ((if_pos z2).trans ((if_pos z3).trans ((if_pos z4).trans ((if_pos z5).trans (if_pos z6)))))) ?_
 refine Ev.congr (fun k => by rw [show ((E : Int)).toNat = E from rfl]) (Ev.bind hseal ?_)
 obtain ⟨s0, s1, s2, s3⟩ := st
 dsimp only at hN hJ ⊢
 have e0 : rd ((l.take (((E + 4 : Nat) : Int)).toNat).drop E) 0 = rd l (E : Int) := r0
 have e1 : rd ((l.take (((E + 4 : Nat) : Int)).toNat).drop E) 1 = rd l ((E + 1 : Nat) : Int) := r1
 have e2 : rd ((l.take (((E + 4 : Nat) : Int)).toNat).drop E) 2 = rd l ((E + 2 : Nat) : Int) := r2
 have e3 : rd ((l.take (((E + 4 : Nat) : Int)).toNat).drop E) 3 = rd l ((E + 3 : Nat) : Int) := r3
 rw [e0, e1, e2, e3]
 clear r0 r1 r2 r3 e0 e1 e2 e3
 by_cases g : [rd l (E : Int), rd l ((E + 1 : Nat) : Int), rd l ((E + 2 : Nat) : Int), rd l ((E + 3 : Nat) : Int)] = [s0, s1, s2, s3]
 ·
  refine Ev.congr (fun k => (if_neg ?_).trans ((if_pos z7).trans (if_pos z8))) (hJ g)
  simp only [List.cons.injEq, and_true] at g
  obtain ⟨g0, g1, g2, g3⟩ := g
  rw [g0, g1, g2, g3]
  simp
 ·
  rw [hN g]
  refine Ev.congr (fun k => if_pos ?_) (Ev.now _)
  simp only [List.cons.injEq, and_true] at g
  simp only [Bool.or_eq_true, Bool.not_eq_true', beq_eq_false_iff_ne]
  by_cases g0 : rd l (E : Int) = s0
  rotate_left
  ·
   exact .inl g0
  by_cases g1 : rd l ((E + 1 : Nat) : Int) = s1
  rotate_left
  ·
   exact .inr (.inl g1)
  by_cases g2 : rd l ((E + 2 : Nat) : Int) = s2
  rotate_left
  ·
   exact .inr (.inr (.inl g2))
  exact .inr (.inr (.inr (fun g3 => g ⟨g0, g1, g2, g3⟩)))
theorem dec_f {l : List Int} (hm : l.length ≤ 3000) (hx : ∀ c ∈ l, 0 ≤ c ∧ c < 256) : Ev (fun k => block_Decode.f k l) (decS l) := by
 have hop := open_f (l := l) (Nat.le_trans hm (by decide)) hx
 by_cases ho : (opS l).2.2.2.2.2.2 = 0
 rotate_left
 ·
  rw [decS_err rfl ho]
  unfold block_Decode.f
  exact Ev.bind hop (Ev.congr (fun k => if_neg ho) (Ev.now _))
 obtain ⟨h2, g1, h3, hk, h5⟩ := op_ok hm ho
 have hf : ¬ l.length < hend l + 4 → hend l + 4 ≤ l.length := fun h => Nat.le_of_not_lt h
 have c0 : ¬ l.length = 0 := by omega
 have c2 : ¬ l.length = 1 := by omega
 rw [opS_5 c0 g1 c2 h3 hk] at hop
 refine dec_core hm (E := hend l) rfl hk.2.2.2.2.1 hk.2.2.2.2.2 h5 hop (seal_f (l.take (hend l)) (by rw [List.length_take]; exact Nat.le_trans (Nat.min_le_right _ _) (Nat.le_trans hm (by decide))) (fun c hc => hx c (List.mem_of_mem_take hc))) (fun h => decS_short ho h) (fun h hg => decS_sum ho h ?_) (fun h hg => ?_)
 ·
  rw [four (hf h)]
  exact hg
 ·
  rw [decS_end ho h (by rw [four (hf h)]; exact hg)]
  exact Ev.bind (rec_f hm hx ho _ _) (endP hm hx rfl)
theorem decS_ok {l : List Int} (hm : l.length ≤ 3000) (hx : ∀ c ∈ l, 0 ≤ c ∧ c < 256) (h : (decS l).2.2.2.2 = 0) :
  ∃ n : Nat, (decS l).2.2.2.1 = (n : Int) ∧ 4 ≤ n ∧ n ≤ l.length ∧ 0 < (decS l).2.2.1.length ∧ (decS l).2.2.1.length ≤ 64 := by
 by_cases ho : (opS l).2.2.2.2.2.2 = 0
 rotate_left
 ·
  rw [decS_err rfl ho] at h
  exact absurd h ho
 by_cases hs : l.length < hend l + 4
 ·
  rw [decS_short ho hs] at h
  exact absurd h (by decide)
 by_cases hg : (l.drop (hend l)).take 4 = sumB (l.take (hend l))
 rotate_left
 ·
  rw [decS_sum ho hs hg] at h
  exact absurd h (by decide)
 rw [decS_end ho hs hg] at h ⊢
 have hk := (op_ok hm ho).2.2.2.1
 have hle : hend l + 4 ≤ l.length := Nat.le_of_not_lt hs
 have hbad : (fmtE : Int × Int × List S26 × Int × Int).2.2.2.2 ≠ 0 := by decide
 unfold endS at h ⊢
 by_cases c : (unS l).2 = 0
 rotate_left
 ·
  rw [if_neg c] at h
  exact absurd h hbad
 rw [if_pos c] at h ⊢
 cases hc : rcS l with
 | none =>
  rw [hc] at h
  exact absurd h hbad
 | some q =>
  obtain ⟨rs, b⟩ := q
  rw [hc] at h
  obtain ⟨g1, g2⟩ := recs_ok (rd l 1) _ _ _ _ _ _ (unS_ok hm hx).2 hc (by simp)
  dsimp only at h ⊢
  by_cases cb : b.length = 0
  rotate_left
  ·
   rw [if_neg cb] at h
   exact absurd h hbad
  rw [if_pos cb] at h ⊢
  by_cases ce : encS (rd l 1) (hn1 l).1 rs = (l.take (hend l + 4), 0)
  rotate_left
  ·
   rw [if_neg ce] at h
   exact absurd h hbad
  rw [if_pos ce]
  have h2 := hk.2.2.1
  refine ⟨hend l + 4, rfl, Nat.le_add_left _ _, hle, ?_, ?_⟩
  ·
   show 0 < rs.length
   rw [g2, List.length_nil, Nat.zero_add]
   have := h2.1
   omega
  ·
   show rs.length ≤ 64
   rw [g2, List.length_nil, Nat.zero_add]
   have := h2.2
   omega
def blS (th : Int) : Nat → List Int → List S42 → Int → Int → Int → List S42 × Int
 | 0, _, acc, used, _, _ => (acc, used)
 | f + 1, b, acc, used, recs, last =>
  if (decS b).2.2.2.2 = 0 ∧ (decS b).1 = th ∧ (decS b).2.1 = recs ∧ last < (rd_T26 (decS b).2.2.1 0).f0 then
   blS th f (b.drop (decS b).2.2.2.1.toNat) (acc ++ [⟨(decS b).1, (decS b).2.1, (decS b).2.2.1⟩]) (used + (decS b).2.2.2.1) (recs + ((decS b).2.2.1.length : Int)) (rd_T26 (decS b).2.2.1 (((decS b).2.2.1.length : Int) - 1)).f0
  else (acc, used)
theorem bl_num {at_ n m : Nat} {recs : Int} (h1 : at_ + n ≤ 3000) (h2 : 0 < m) (h3 : m ≤ 64) (h4 : 0 ≤ recs) (h5 : recs ≤ 64 * (at_ : Int)) (h6 : 4 ≤ n) :
  wrap64 ((at_ : Int) + (n : Int)) = ((at_ + n : Nat) : Int) ∧ wrap64 ((m : Int) - 1) = (m : Int) - 1 ∧ (0 : Int) ≤ (m : Int) - 1 ∧ (m : Int) - 1 < (m : Int) ∧ wrap64 (recs + (m : Int)) = recs + (m : Int) ∧ 0 ≤ recs + (m : Int) ∧ recs + (m : Int) ≤ 64 * ((at_ + n : Nat) : Int) := by
 refine ⟨?_, wrap64_id (by omega) (by omega), by omega, by omega, wrap64_id (by omega) (by omega), by omega, by omega⟩
 rw [wrap64_id (by omega) (by omega)]
 omega
theorem refBlocks_loop {l : List Int} (hm : l.length ≤ 3000) (hx : ∀ c ∈ l, 0 ≤ c ∧ c < 256) (th : Int) : ∀ (f at_ : Nat) (acc : List S42) (recs last : Int), at_ ≤ l.length → l.length ≤ at_ + f → acc.length ≤ at_ → 0 ≤ recs → recs ≤ 64 * (at_ : Int) →
  Ev (fun k => j14_Blocks.l0 k l th acc (at_ : Int) recs last) (blS th f (l.drop at_) acc (at_ : Int) recs last) := by
 intro f
 induction f with
 | zero =>
  intro at_ acc recs last h1 h2 h3 h4 h5
  have he : l.drop at_ = [] := List.drop_of_length_le (by omega)
  have hD := refDec_f (l := []) (by simp) (by simp)
  rw [decS_err (opS_0 rfl) (by decide)] at hD
  refine Ev.step (fun k => by simp only [j14_Blocks.l0]; rw [if_pos (by omega), if_pos (by omega), Int.toNat_natCast, he]) (Ev.bind hD ?_)
  exact Ev.congr (fun k => if_neg (by decide)) (Ev.now _)
 | succ f ih =>
  intro at_ acc recs last h1 h2 h3 h4 h5
  have z1 : (0 : Int) ≤ (at_ : Int) := by omega
  have z2 : (at_ : Int) ≤ (l.length : Int) := by omega
  have hacc : acc.length < 3518437208883 := by omega
  have hbl : (l.drop at_).length ≤ 3000 := by rw [List.length_drop]; omega
  have hbx : ∀ c ∈ l.drop at_, 0 ≤ c ∧ c < 256 := fun c hc => hx c (List.mem_of_mem_drop hc)
  have hD := refDec_f hbl hbx
  have hok := decS_ok hbl hbx
  rw [blS]
  refine Ev.step (fun k => by simp only [j14_Blocks.l0]; rw [if_pos z1, if_pos z2, Int.toNat_natCast]) (Ev.bind hD ?_)
  clear hD
  rw [List.length_drop] at hok
  generalize decS (l.drop at_) = d at hok ⊢
  obtain ⟨d1, d2, rs, dn, de⟩ := d
  dsimp only at hok ⊢
  by_cases c0 : de = 0
  rotate_left
  ·
   rw [if_neg (fun h => c0 h.1)]
   exact Ev.congr (fun k => if_neg c0) (Ev.now _)
  obtain ⟨n, rfl, n4, nl, r0, r64⟩ := hok c0
  clear hok
  have hn3 : at_ + n ≤ 3000 := by omega
  have hn1 : at_ + n ≤ l.length := by omega
  have hn2 : l.length ≤ at_ + n + f := by omega
  have hn4 : acc.length + 1 ≤ at_ + n := by omega
  have hr0 : (0 : Int) < (rs.length : Int) := by omega
  have hcast : (at_ : Int) + (n : Int) = ((at_ + n : Nat) : Int) := by omega
  refine Ev.congr (fun k => if_pos c0) ?_
  by_cases c1 : d1 = th
  rotate_left
  ·
   rw [if_neg (fun h => c1 h.2.1)]
   exact Ev.congr (fun k => if_neg c1) (Ev.now _)
  refine Ev.congr (fun k => if_pos c1) ?_
  by_cases c2 : d2 = recs
  rotate_left
  ·
   rw [if_neg (fun h => c2 h.2.2.1)]
   exact Ev.congr (fun k => if_neg c2) (Ev.now _)
  refine Ev.congr (fun k => (if_pos c2).trans (if_pos hr0)) ?_
  by_cases c3 : (rd_T26 rs 0).f0 ≤ last
  ·
   rw [if_neg (fun h => absurd h.2.2.2 (Int.not_lt.2 c3))]
   exact Ev.congr (fun k => if_pos c3) (Ev.now _)
  rw [if_pos ⟨c0, c1, c2, Int.not_le.1 c3⟩]
  obtain ⟨e1, e2, e3, e4, e5, e6, e7⟩ := bl_num (at_ := at_) (n := n) (m := rs.length) (recs := recs) hn3 r0 r64 h4 h5 n4
  refine Ev.congr (fun k => (if_neg c3).trans (if_pos hacc)) ?_
  simp only [e1, e2, e5]
  refine Ev.congr (fun k => (if_pos e3).trans (if_pos e4)) ?_
  have := ih (at_ + n) (acc ++ [⟨d1, d2, rs⟩]) (recs + (rs.length : Int)) (rd_T26 rs ((rs.length : Int) - 1)).f0 hn1 hn2 (by rw [List.length_append, List.length_singleton]; exact hn4) e6 e7
  rw [List.drop_drop, Int.toNat_natCast]
  rw [hcast]
  exact this
theorem refBlocks_f {l : List Int} (hm : l.length ≤ 3000) (hx : ∀ c ∈ l, 0 ≤ c ∧ c < 256) (th : Int) : Ev (fun k => j14_Blocks.f k l th) (blS th l.length l [] 0 0 (-1)) := by
 have := refBlocks_loop hm hx th l.length 0 [] 0 (-1) (by omega) (by omega) (by simp) (by omega) (by omega)
 rw [List.drop_zero] at this
 exact this
theorem decS_recOk {l : List Int} (hm : l.length ≤ 3000) (hx : ∀ c ∈ l, 0 ≤ c ∧ c < 256) : ∀ r ∈ (decS l).2.2.1, RecOk r := by
 have hf : ∀ r ∈ ([] : List S26), RecOk r := fun r h => by simp at h
 by_cases ho : (opS l).2.2.2.2.2.2 = 0
 rotate_left
 ·
  rw [decS_err rfl ho]; exact hf
 by_cases hs : l.length < hend l + 4
 ·
  rw [decS_short ho hs]; exact hf
 by_cases hg : (l.drop (hend l)).take 4 = sumB (l.take (hend l))
 rotate_left
 ·
  rw [decS_sum ho hs hg]; exact hf
 rw [decS_end ho hs hg]
 unfold endS
 split
 ·
  cases hc : rcS l with
  | none => exact hf
  | some q =>
   obtain ⟨rs, b⟩ := q
   have hrs := rcS_ok hm hx hc
   dsimp only
   split
   ·
    split
    ·
     exact fun r h => (hrs r h).1
    ·
     exact hf
   ·
    exact hf
 ·
  exact hf
theorem blS_ok (th : Int) : ∀ (f : Nat) (b : List Int) (acc : List S42) (used recs last : Int), b.length ≤ 3000 → (∀ c ∈ b, 0 ≤ c ∧ c < 256) → (∀ x ∈ acc, ∀ r ∈ x.f2, RecOk r) →
  (∀ x ∈ (blS th f b acc used recs last).1, ∀ r ∈ x.f2, RecOk r) ∧ (blS th f b acc used recs last).1.length ≤ acc.length + f := by
 intro f
 induction f with
 | zero => intro b acc used recs last hm hx ha; exact ⟨ha, Nat.le_refl _⟩
 | succ f ih =>
  intro b acc used recs last hm hx ha
  rw [blS]
  split
  ·
   obtain ⟨g1, g2⟩ := ih (b.drop (decS b).2.2.2.1.toNat) (acc ++ [⟨(decS b).1, (decS b).2.1, (decS b).2.2.1⟩]) (used + (decS b).2.2.2.1) (recs + ((decS b).2.2.1.length : Int)) (rd_T26 (decS b).2.2.1 (((decS b).2.2.1.length : Int) - 1)).f0 (by rw [List.length_drop]; exact Nat.le_trans (Nat.sub_le _ _) hm) (fun c hc => hx c (List.mem_of_mem_drop hc)) (fun x h => by
    rcases List.mem_append.1 h with h | h
    ·
     exact ha x h
    ·
     rw [List.mem_singleton.1 h]
     exact decS_recOk hm hx)
   refine ⟨g1, Nat.le_trans g2 ?_⟩
   rw [List.length_append, List.length_singleton, Nat.add_assoc, Nat.add_comm 1 f]
   exact Nat.le_refl _
  ·
   exact ⟨ha, Nat.le_add_right _ _⟩
theorem blocks_loop (th : Int) : ∀ (f : Nat) (l : List Int) (at_ : Nat) (acc : List S42) (recs last : Int), l.length ≤ f → at_ + l.length ≤ 3000 → (∀ c ∈ l, 0 ≤ c ∧ c < 256) → acc.length ≤ at_ → 0 ≤ recs → recs ≤ 64 * (at_ : Int) →
  Ev (fun k => collect_Blocks.l0 k th l acc (at_ : Int) recs last) (blS th f l acc (at_ : Int) recs last) := by
 intro f
 induction f with
 | zero =>
  intro l at_ acc recs last h1 hm hx h3 h4 h5
  obtain rfl : l = [] := List.eq_nil_of_length_eq_zero (by omega)
  have hD := dec_f (l := []) (by simp) (by simp)
  rw [decS_err (opS_0 rfl) (by decide)] at hD
  refine Ev.step (fun k => by simp only [collect_Blocks.l0]; rfl) (Ev.bind hD ?_)
  exact Ev.congr (fun k => if_neg (by decide)) (Ev.now _)
 | succ f ih =>
  intro l at_ acc recs last h1 hm hx h3 h4 h5
  have hacc : acc.length < 3518437208883 := by omega
  have hbl : l.length ≤ 3000 := by omega
  have hD := dec_f hbl hx
  have hok := decS_ok hbl hx
  rw [blS]
  refine Ev.step (fun k => by simp only [collect_Blocks.l0]; rfl) (Ev.bind hD ?_)
  clear hD
  generalize decS l = d at hok ⊢
  obtain ⟨d1, d2, rs, dn, de⟩ := d
  dsimp only at hok ⊢
  by_cases c0 : de = 0
  rotate_left
  ·
   rw [if_neg (fun h => c0 h.1)]
   exact Ev.congr (fun k => if_neg c0) (Ev.now _)
  obtain ⟨n, rfl, n4, nl, r0, r64⟩ := hok c0
  clear hok
  have hr0 : (0 : Int) < (rs.length : Int) := by omega
  have hcast : (at_ : Int) + (n : Int) = ((at_ + n : Nat) : Int) := by omega
  refine Ev.congr (fun k => if_pos c0) ?_
  by_cases c1 : d1 = th
  rotate_left
  ·
   rw [if_neg (fun h => c1 h.2.1)]
   exact Ev.congr (fun k => if_neg c1) (Ev.now _)
  refine Ev.congr (fun k => if_pos c1) ?_
  by_cases c2 : d2 = recs
  rotate_left
  ·
   rw [if_neg (fun h => c2 h.2.2.1)]
   exact Ev.congr (fun k => if_neg c2) (Ev.now _)
  refine Ev.congr (fun k => (if_pos c2).trans (if_pos hr0)) ?_
  by_cases c3 : (rd_T26 rs 0).f0 ≤ last
  ·
   rw [if_neg (fun h => absurd h.2.2.2 (Int.not_lt.2 c3))]
   exact Ev.congr (fun k => if_pos c3) (Ev.now _)
  rw [if_pos ⟨c0, c1, c2, Int.not_le.1 c3⟩]
  have hn0 : (0 : Int) ≤ (n : Int) := by omega
  have hn1 : (n : Int) ≤ (l.length : Int) := by omega
  have hd1 : l.length - n ≤ f := by omega
  have hd2 : at_ + n + (l.length - n) ≤ 3000 := by omega
  have hd3 : acc.length + 1 ≤ at_ + n := by omega
  obtain ⟨e1, e2, e3, e4, e5, e6, e7⟩ := bl_num (at_ := at_) (n := n) (m := rs.length) (recs := recs) (by omega) r0 r64 h4 h5 n4
  refine Ev.congr (fun k => (if_neg c3).trans (if_pos hacc)) ?_
  refine Ev.congr (fun k => (if_pos hn0).trans (if_pos hn1)) ?_
  simp only [e1, e5]
  have := ih (l.drop n) (at_ + n) (acc ++ [⟨d1, d2, rs⟩]) (recs + (rs.length : Int)) (rd_T26 rs ((rs.length : Int) - 1)).f0 (by rw [List.length_drop]; exact hd1) (by rw [List.length_drop]; exact hd2) (fun c hc => hx c (List.mem_of_mem_drop hc)) (by rw [List.length_append, List.length_singleton]; exact hd3) e6 e7
  rw [Int.toNat_natCast, hcast]
  exact this
theorem blocks_f {l : List Int} (hm : l.length ≤ 3000) (hx : ∀ c ∈ l, 0 ≤ c ∧ c < 256) (th : Int) : Ev (fun k => collect_Blocks.f k l th) (blS th l.length l [] 0 0 (-1)) :=
 blocks_loop th l.length l 0 [] 0 (-1) (Nat.le_refl _) (by omega) hx (by simp) (by omega) (by omega)
theorem rdB {l : List S42} {i : Nat} (h : i < l.length) : rd_T42 l (i : Int) = l[i] := by simp [rd_T42, List.getD_eq_getElem?_getD, List.getElem?_eq_getElem h]
def awR : List S26 := [(⟨0, (⟨0, 1, 0, 0, 0, ([] : List Int), ([] : List Int)⟩ : S24)⟩ : S26)]
theorem awR_ok : ∀ r ∈ awR, RecOk r := by
 intro r hr
 rw [List.mem_singleton.1 hr]
 unfold RecOk I64
 decide
theorem collect_awake : Ev (fun k => l15_awake.f k) true := by
 refine Ev.bind (refEncode_f 0 0 awR awR_ok) (Ev.bind (blocks_f (l := (encS 0 0 awR).1) (by decide +kernel) (by decide +kernel) 0) ?_)
 refine Ev.congr (fun k => if_pos (by decide +kernel)) ?_
 rw [show ((blS 0 (encS 0 0 awR).1.length (encS 0 0 awR).1 [] 0 0 (-1)).2 == ((encS 0 0 awR).1.length : Int)) = true by decide +kernel]
 exact Ev.now _
theorem collect_loop (l : List S42) (hl : l.length ≤ 3000) (hr : ∀ x ∈ l, ∀ r ∈ x.f2, RecOk r) : ∀ (d i : Nat), i + d = l.length → Ev (fun k => l15_CollectBlocks.l0 k l l (i : Int)) true := by
 intro d
 induction d with
 | zero =>
  intro i hi
  refine Ev.step (fun k => by simp only [l15_CollectBlocks.l0]; rw [if_neg (by omega)]) (Ev.bind collect_awake (Ev.now _))
 | succ d ih =>
  intro i hi
  have h : i < l.length := by omega
  have h1 : (i : Int) < (l.length : Int) := by omega
  have h0 : (0 : Int) ≤ (i : Int) := by omega
  have hw : wrap64 ((i : Int) + 1) = ((i + 1 : Nat) : Int) := by rw [wrap64_id (by omega) (by omega)]; omega
  have hb := hr l[i] (List.getElem_mem h)
  have hE := refEncode_f l[i].f0 l[i].f1 l[i].f2 hb
  have hlen := encS_len (th := l[i].f0) (first := l[i].f1) hb
  refine Ev.step (fun k => by simp only [l15_CollectBlocks.l0]; rw [if_pos h1, if_pos h0, rdB h]) (Ev.bind hE ?_)
  refine Ev.congr (fun k => if_pos h1) (Ev.bind hE (Ev.bind (same_yes _ (Nat.le_trans hlen (by decide))) ?_))
  refine Ev.congr (fun k => if_pos rfl) ?_
  rw [hw]
  exact ih (i + 1) (by omega)
end Go.Proofs.Ytnmmkgagbfniiaa.Pl
namespace Go.Proofs.Ytnmmkgagbfniiaa.Pure
open Go.RowKit Go.Proofs.YtnmmkgagbfniiaaW.PrintWords Go.Proofs.YtnmmkgagbfniiaaW.PrintMore Go.Proofs.Ytnmmkgagbfniiaa.A Go.Proofs.Ytnmmkgagbfniiaa.Pl
theorem CollectBlocks : l15_CollectBlocks.Pure := by
 intro l th _ hl hb hth
 have hb' : ∀ c ∈ l, 0 ≤ c ∧ c < 256 := fun c hc => u8_bounds (hb c hc)
 by_cases h : (l.length : Int) > 3000
 ·
  exact ⟨0, by unfold l15_CollectBlocks.f; rw [if_pos h]⟩
 have hm : l.length ≤ 3000 := by omega
 obtain ⟨q1, q2⟩ := blS_ok th l.length l [] 0 0 (-1) hm hb' (by simp)
 rw [List.length_nil, Nat.zero_add] at q2
 refine Ev.rounds (Ev.congr (fun k => by unfold l15_CollectBlocks.f; rw [if_neg h]) ?_)
 refine Ev.bind (blocks_f hm hb' th) (Ev.bind (refBlocks_f hm hb' th) ?_)
 refine Ev.congr (fun k => if_pos rfl) ?_
 rw [show ((blS th l.length l [] 0 0 (-1)).2 != (blS th l.length l [] 0 0 (-1)).2) = false by simp]
 exact Ev.step (fun k => by simp only [l15_CollectBlocks.j0]; rw [if_neg (by decide)]; rfl) (collect_loop _ (Nat.le_trans q2 hm) q1 (blS th l.length l [] 0 0 (-1)).1.length 0 (Nat.zero_add _))
end Go.Proofs.Ytnmmkgagbfniiaa.Pure
end
section
namespace Go.Proofs.Ytnmmkgagbfniiaa.Ftab
open Go
set_option linter.unusedVariables false
structure Inf where
  leads : List Nat
  unf : Bool
  inp : Option String
  glo : List Nat
  ent : Option String
def infOf (P : Program) (fn : Func) : Inf := { leads := P.leadsTo fn, unf := (match fn.body with | some c => c.unfollowed | none => entryCalls fn), inp := if fn.ours || fn.body.isNone || fn.name == "runtime.NumGoroutine" then some fn.name else none, glo := (fn.body).elim [] Code.globalsNamed, ent := if fn.body.isNone then entryReads.lookup fn.name else none }
inductive Rows (P : Program) : Nat → List Inf → Prop
  | nil (k : Nat) : Rows P k []
  | cons {k : Nat} {i : Inf} {T : List Inf} (h : (P.funcs[k]?).map (infOf P) = some i) (hr : Rows P (k + 1) T) : Rows P k (i :: T)
theorem funcs_row {P : Program} {k : Nat} {fn : Func} {i : Inf} (h : P.funcs[k]? = some fn) (hi : infOf P fn = i) : (P.funcs[k]?).map (infOf P) = some i := by rw [h, ← hi]; rfl
theorem Rows.at_ {P : Program} : ∀ {T : List Inf} {k : Nat}, Rows P k T → ∀ j i, T[j]? = some i → (P.funcs[k + j]?).map (infOf P) = some i
  | [], _, _, j, i, h => by simp at h
  | i0 :: T, k, .cons h hr, 0, i, hj => by
    have e : i0 = i := by simpa using hj
    subst e
    exact h
  | _ :: T, k, .cons h hr, j + 1, i, hj => by
    have := hr.at_ j i (by simpa using hj)
    rwa [show k + 1 + j = k + (j + 1) by omega] at this
section
variable {P : Program} {T : List Inf}
theorem get_in (hs : P.funcs.size = T.length) (hR : Rows P 0 T) (g : Nat) (fn : Func) (h : P.funcs[g]? = some fn) : (T[g]?) = some (infOf P fn) := by
  have hg : g < T.length := by
    have := (Array.getElem?_eq_some_iff.1 h).1
    omega
  have h1 := hR.at_ g _ (List.getElem?_eq_getElem hg)
  rw [Nat.zero_add, h] at h1
  rw [List.getElem?_eq_getElem hg]
  simpa using h1.symm
theorem get_out (hs : P.funcs.size = T.length) (g : Nat) (h : P.funcs[g]? = none) : T[g]? = none := by
  have := Array.getElem?_eq_none_iff.1 h
  rw [List.getElem?_eq_none_iff]
  omega
theorem ask (hs : P.funcs.size = T.length) (hR : Rows P 0 T) {α : Type} (f : Inf → α) (d : α) (q : Func → α) (hq : ∀ fn, q fn = f (infOf P fn)) (g : Nat) : (P.funcs[g]?).elim d q = (T[g]?).elim d f := by
  cases h : P.funcs[g]? with
  | none => rw [get_out hs g h]; rfl
  | some fn => rw [get_in hs hR g fn h]; exact hq fn
def closureT (T : List Inf) : Nat → List Nat → List Nat → List Nat
  | 0, _, seen => seen.reverse
  | _, [], seen => seen.reverse
  | n + 1, f :: todo, seen => if seen.contains f then closureT T n todo seen else closureT T n ((T[f]?).elim [] Inf.leads ++ todo) (f :: seen)
theorem closure_eq (hs : P.funcs.size = T.length) (hR : Rows P 0 T) : ∀ (n : Nat) (todo seen : List Nat), P.closureVia n todo seen = closureT T n todo seen
  | 0, _, _ => by simp [Program.closureVia, closureT]
  | _ + 1, [], _ => by simp [Program.closureVia, closureT]
  | n + 1, f :: todo, seen => by
    simp only [Program.closureVia, closureT]
    rw [ask hs hR Inf.leads [] P.leadsTo (fun _ => rfl), closure_eq hs hR n, closure_eq hs hR n]
def fuelT (T : List Inf) : Nat := 1 + (T.map fun i => i.leads.length + 1).sum
theorem fuel_eq (hs : P.funcs.size = T.length) (hR : Rows P 0 T) : 1 + (P.funcs.toList.map fun g => (P.leadsTo g).length + 1).sum = fuelT T := by
  unfold fuelT
  congr 2
  apply List.ext_getElem?
  intro j
  rw [List.getElem?_map, List.getElem?_map, Array.getElem?_toList]
  cases h : P.funcs[j]? with
  | none => rw [get_out hs j h]; rfl
  | some fn => rw [get_in hs hR j fn h]; rfl
def clos (T : List Inf) (f : Nat) : List Nat := closureT T (fuelT T) [f] []
theorem clos_eq (hs : P.funcs.size = T.length) (hR : Rows P 0 T) (f : Nat) : P.closure f = clos T f := by
  unfold Program.closure clos
  rw [fuel_eq hs hR, closure_eq hs hR]
def inPlaceT (T : List Inf) (f : Nat) : List String := (clos T f).filterMap fun g => (T[g]?).bind Inf.inp
def unfollowedT (T : List Inf) (f : Nat) : Bool := (clos T f).any fun g => (T[g]?).elim false Inf.unf
def recursesT (T : List Inf) (f : Nat) : Bool := unfollowedT T f || (clos T f).any fun g => ((T[g]?).elim [] Inf.leads).any fun h => (clos T h).contains g
theorem filterMap_same {α β : Type} {p q : α → Option β} (l : List α) (h : ∀ a, p a = q a) : l.filterMap p = l.filterMap q := by rw [funext h]
theorem any_same {α : Type} {p q : α → Bool} (l : List α) (h : ∀ a, p a = q a) : l.any p = l.any q := by rw [funext h]
theorem flatMap_same {α β : Type} {p q : α → List β} (l : List α) (h : ∀ a, p a = q a) : l.flatMap p = l.flatMap q := by rw [funext h]
theorem inPlace_eq (hs : P.funcs.size = T.length) (hR : Rows P 0 T) (f : Nat) : P.inPlace f = inPlaceT T f := by
  unfold Program.inPlace inPlaceT
  rw [clos_eq hs hR]
  refine filterMap_same _ fun g => ?_
  cases h : P.funcs[g]? with
  | none => rw [get_out hs g h]; rfl
  | some fn => rw [get_in hs hR g fn h]; rfl
theorem unfollowed_eq (hs : P.funcs.size = T.length) (hR : Rows P 0 T) (f : Nat) : P.unfollowed f = unfollowedT T f := by
  unfold Program.unfollowed unfollowedT
  rw [clos_eq hs hR]
  refine any_same _ fun g => ?_
  cases h : P.funcs[g]? with
  | none => rw [get_out hs g h]; rfl
  | some fn => rw [get_in hs hR g fn h]; rfl
theorem recurses_eq (hs : P.funcs.size = T.length) (hR : Rows P 0 T) (f : Nat) : P.recurses f = recursesT T f := by
  unfold Program.recurses recursesT
  rw [clos_eq hs hR, unfollowed_eq hs hR]
  congr 1
  refine any_same _ fun g => ?_
  rw [ask hs hR Inf.leads [] P.leadsTo (fun _ => rfl)]
  exact any_same _ fun h => by rw [clos_eq hs hR]
def varsT (T : List Inf) (f : Nat) : List Nat × List String := (((clos T f).flatMap fun g => (T[g]?).elim [] Inf.glo), (clos T f).filterMap fun g => (T[g]?).bind Inf.ent)
theorem varsNamed_none (hs : P.funcs.size = T.length) (hR : Rows P 0 T) (f : Nat) (h : varsT T f = ([], [])) : P.varsNamed f = [] := by
  have h1 : ((P.closure f).flatMap fun g => ((P.funcs[g]?).bind (·.body)).elim [] Code.globalsNamed) = [] := by
    refine Eq.trans ?_ (congrArg Prod.fst h)
    unfold varsT
    show _ = ((clos T f).flatMap fun g => (T[g]?).elim [] Inf.glo)
    rw [clos_eq hs hR]
    refine flatMap_same _ fun g => ?_
    cases h : P.funcs[g]? with
    | none => rw [get_out hs g h]; rfl
    | some fn => rw [get_in hs hR g fn h]; rfl
  have h2 : ((P.closure f).filterMap fun g => (P.funcs[g]?).bind fun fn => if fn.body.isNone then entryReads.lookup fn.name else none) = [] := by
    refine Eq.trans ?_ (congrArg Prod.snd h)
    unfold varsT
    show _ = ((clos T f).filterMap fun g => (T[g]?).bind Inf.ent)
    rw [clos_eq hs hR]
    refine filterMap_same _ fun g => ?_
    cases h : P.funcs[g]? with
    | none => rw [get_out hs g h]; rfl
    | some fn => rw [get_in hs hR g fn h]; rfl
  unfold Program.varsNamed
  rw [h1, h2]
  rfl
end
theorem row0 : infOf Try.prog Try.f0 = ⟨[], false, some "main.main", [], none⟩ := by kernel_rfl
theorem row1 : infOf Try.prog Try.f1 = ⟨[], false, some "gosem.cut", [], none⟩ := by kernel_rfl
theorem row2 : infOf Try.prog Try.f2 = ⟨[1], false, none, [], none⟩ := by kernel_rfl
theorem row3 : infOf Try.prog Try.f3 = ⟨[11, 12, 13, 14, 13], false, none, [], none⟩ := by kernel_rfl
theorem row4 : infOf Try.prog Try.f4 = ⟨[11, 16, 15, 13, 17, 14, 12, 18, 19], false, none, [], none⟩ := by kernel_rfl
theorem row5 : infOf Try.prog Try.f5 = ⟨[20, 21, 22, 18, 23], false, none, [], none⟩ := by kernel_rfl
theorem row6 : infOf Try.prog Try.f6 = ⟨[24, 25, 26, 27, 28], false, none, [], none⟩ := by kernel_rfl
theorem row7 : infOf Try.prog Try.f7 = ⟨[25, 25, 25, 25, 25, 25, 28], false, none, [], none⟩ := by kernel_rfl
theorem row8 : infOf Try.prog Try.f8 = ⟨[29, 30, 31, 23], false, none, [], none⟩ := by kernel_rfl
theorem row9 : infOf Try.prog Try.f9 = ⟨[32, 33, 22, 22, 18, 34], false, none, [], none⟩ := by kernel_rfl
theorem row10 : infOf Try.prog Try.f10 = ⟨[35, 36, 37, 38, 39, 34], false, none, [], none⟩ := by kernel_rfl
theorem row11 : infOf Try.prog Try.f11 = ⟨[], false, none, [], none⟩ := by kernel_rfl
theorem row12 : infOf Try.prog Try.f12 = ⟨[40, 41, 41], false, none, [], none⟩ := by kernel_rfl
theorem row13 : infOf Try.prog Try.f13 = ⟨[42, 42, 42, 42, 42, 43, 43], false, none, [], none⟩ := by kernel_rfl
theorem row14 : infOf Try.prog Try.f14 = ⟨[44, 44], false, none, [], none⟩ := by kernel_rfl
theorem row15 : infOf Try.prog Try.f15 = ⟨[], false, none, [], none⟩ := by kernel_rfl
theorem row16 : infOf Try.prog Try.f16 = ⟨[45, 45, 45, 45, 45, 46, 46], false, none, [], none⟩ := by kernel_rfl
theorem row17 : infOf Try.prog Try.f17 = ⟨[47, 47, 47, 47, 47, 48, 48], false, none, [], none⟩ := by kernel_rfl
theorem row18 : infOf Try.prog Try.f18 = ⟨[], false, none, [], none⟩ := by kernel_rfl
theorem row19 : infOf Try.prog Try.f19 = ⟨[49], false, none, [], none⟩ := by kernel_rfl
theorem row20 : infOf Try.prog Try.f20 = ⟨[], false, none, [], none⟩ := by kernel_rfl
theorem row21 : infOf Try.prog Try.f21 = ⟨[50, 12, 51, 49, 52], false, none, [], none⟩ := by kernel_rfl
theorem row22 : infOf Try.prog Try.f22 = ⟨[53, 54, 55, 45, 45, 45, 45, 56], false, none, [], none⟩ := by kernel_rfl
theorem row23 : infOf Try.prog Try.f23 = ⟨[57], false, none, [], none⟩ := by kernel_rfl
theorem row24 : infOf Try.prog Try.f24 = ⟨[], false, none, [], none⟩ := by kernel_rfl
theorem row25 : infOf Try.prog Try.f25 = ⟨[58, 59, 60, 59], false, none, [], none⟩ := by kernel_rfl
theorem row26 : infOf Try.prog Try.f26 = ⟨[61, 62, 62], false, none, [], none⟩ := by kernel_rfl
theorem row27 : infOf Try.prog Try.f27 = ⟨[18], false, none, [], none⟩ := by kernel_rfl
theorem row28 : infOf Try.prog Try.f28 = ⟨[25], false, none, [], none⟩ := by kernel_rfl
theorem row29 : infOf Try.prog Try.f29 = ⟨[63, 52, 64, 21, 65], false, none, [], none⟩ := by kernel_rfl
theorem row30 : infOf Try.prog Try.f30 = ⟨[47, 47, 47, 47, 56, 66, 67, 22, 18], false, none, [], none⟩ := by kernel_rfl
theorem row31 : infOf Try.prog Try.f31 = ⟨[14], false, none, [], none⟩ := by kernel_rfl
theorem row32 : infOf Try.prog Try.f32 = ⟨[68], true, none, [], none⟩ := by kernel_rfl
theorem row33 : infOf Try.prog Try.f33 = ⟨[30], false, none, [], none⟩ := by kernel_rfl
theorem row34 : infOf Try.prog Try.f34 = ⟨[22, 32], false, none, [], none⟩ := by kernel_rfl
theorem row35 : infOf Try.prog Try.f35 = ⟨[], false, none, [], none⟩ := by kernel_rfl
theorem row36 : infOf Try.prog Try.f36 = ⟨[32, 69, 70, 72], false, none, [], none⟩ := by kernel_rfl
theorem row37 : infOf Try.prog Try.f37 = ⟨[33], false, none, [], none⟩ := by kernel_rfl
theorem row38 : infOf Try.prog Try.f38 = ⟨[73, 74], false, none, [], none⟩ := by kernel_rfl
theorem row39 : infOf Try.prog Try.f39 = ⟨[44], false, none, [], none⟩ := by kernel_rfl
theorem row40 : infOf Try.prog Try.f40 = ⟨[], false, none, [], none⟩ := by kernel_rfl
theorem row41 : infOf Try.prog Try.f41 = ⟨[40, 40], false, none, [], none⟩ := by kernel_rfl
theorem row42 : infOf Try.prog Try.f42 = ⟨[75], false, none, [], none⟩ := by kernel_rfl
theorem row43 : infOf Try.prog Try.f43 = ⟨[42, 42], false, none, [], none⟩ := by kernel_rfl
theorem row44 : infOf Try.prog Try.f44 = ⟨[], false, none, [], none⟩ := by kernel_rfl
theorem row45 : infOf Try.prog Try.f45 = ⟨[], false, none, [], none⟩ := by kernel_rfl
theorem row46 : infOf Try.prog Try.f46 = ⟨[45, 45], false, none, [], none⟩ := by kernel_rfl
theorem row47 : infOf Try.prog Try.f47 = ⟨[76], false, none, [], none⟩ := by kernel_rfl
theorem row48 : infOf Try.prog Try.f48 = ⟨[47, 47], false, none, [], none⟩ := by kernel_rfl
theorem row49 : infOf Try.prog Try.f49 = ⟨[40], false, none, [], none⟩ := by kernel_rfl
theorem row50 : infOf Try.prog Try.f50 = ⟨[], false, none, [], none⟩ := by kernel_rfl
theorem row51 : infOf Try.prog Try.f51 = ⟨[77, 78], true, none, [], none⟩ := by kernel_rfl
theorem row52 : infOf Try.prog Try.f52 = ⟨[57], false, none, [], none⟩ := by kernel_rfl
theorem row53 : infOf Try.prog Try.f53 = ⟨[], false, none, [], none⟩ := by kernel_rfl
theorem row54 : infOf Try.prog Try.f54 = ⟨[16], false, none, [], none⟩ := by kernel_rfl
theorem row55 : infOf Try.prog Try.f55 = ⟨[79, 80, 80, 80], false, none, [], none⟩ := by kernel_rfl
theorem row56 : infOf Try.prog Try.f56 = ⟨[], false, none, [], none⟩ := by kernel_rfl
theorem row57 : infOf Try.prog Try.f57 = ⟨[], false, none, [], none⟩ := by kernel_rfl
theorem row58 : infOf Try.prog Try.f58 = ⟨[], false, none, [], none⟩ := by kernel_rfl
theorem row59 : infOf Try.prog Try.f59 = ⟨[81], false, none, [], none⟩ := by kernel_rfl
theorem row60 : infOf Try.prog Try.f60 = ⟨[81], false, none, [], none⟩ := by kernel_rfl
theorem row61 : infOf Try.prog Try.f61 = ⟨[], false, none, [], none⟩ := by kernel_rfl
theorem row62 : infOf Try.prog Try.f62 = ⟨[22], false, none, [], none⟩ := by kernel_rfl
theorem row63 : infOf Try.prog Try.f63 = ⟨[75, 82], true, none, [], none⟩ := by kernel_rfl
theorem row64 : infOf Try.prog Try.f64 = ⟨[83, 13], false, none, [], none⟩ := by kernel_rfl
theorem row65 : infOf Try.prog Try.f65 = ⟨[], false, none, [], none⟩ := by kernel_rfl
theorem row66 : infOf Try.prog Try.f66 = ⟨[], false, none, [], none⟩ := by kernel_rfl
theorem row67 : infOf Try.prog Try.f67 = ⟨[17], false, none, [], none⟩ := by kernel_rfl
theorem row68 : infOf Try.prog Try.f68 = ⟨[84], false, none, [], none⟩ := by kernel_rfl
theorem row69 : infOf Try.prog Try.f69 = ⟨[85], false, none, [], none⟩ := by kernel_rfl
theorem row70 : infOf Try.prog Try.f70 = ⟨[71], false, none, [], none⟩ := by kernel_rfl
theorem row71 : infOf Try.prog Try.f71 = ⟨[86, 86], false, none, [], none⟩ := by kernel_rfl
theorem row72 : infOf Try.prog Try.f72 = ⟨[87, 88, 89, 90, 90, 91], false, none, [], none⟩ := by kernel_rfl
theorem row73 : infOf Try.prog Try.f73 = ⟨[], false, none, [], none⟩ := by kernel_rfl
theorem row74 : infOf Try.prog Try.f74 = ⟨[14], false, none, [], none⟩ := by kernel_rfl
theorem row75 : infOf Try.prog Try.f75 = ⟨[], false, none, [], none⟩ := by kernel_rfl
theorem row76 : infOf Try.prog Try.f76 = ⟨[], false, none, [], none⟩ := by kernel_rfl
theorem row77 : infOf Try.prog Try.f77 = ⟨[], false, none, [], none⟩ := by kernel_rfl
theorem row78 : infOf Try.prog Try.f78 = ⟨[], false, none, [], none⟩ := by kernel_rfl
theorem row79 : infOf Try.prog Try.f79 = ⟨[], false, none, [], none⟩ := by kernel_rfl
theorem row80 : infOf Try.prog Try.f80 = ⟨[], false, none, [], none⟩ := by kernel_rfl
theorem row81 : infOf Try.prog Try.f81 = ⟨[21], false, none, [], none⟩ := by kernel_rfl
theorem row82 : infOf Try.prog Try.f82 = ⟨[], false, none, [], none⟩ := by kernel_rfl
theorem row83 : infOf Try.prog Try.f83 = ⟨[], false, none, [], none⟩ := by kernel_rfl
theorem row84 : infOf Try.prog Try.f84 = ⟨[29], true, none, [], none⟩ := by kernel_rfl
theorem row85 : infOf Try.prog Try.f85 = ⟨[92, 92, 93, 93], false, none, [], none⟩ := by kernel_rfl
theorem row86 : infOf Try.prog Try.f86 = ⟨[], false, none, [], none⟩ := by kernel_rfl
theorem row87 : infOf Try.prog Try.f87 = ⟨[], false, none, [], none⟩ := by kernel_rfl
theorem row88 : infOf Try.prog Try.f88 = ⟨[], false, none, [], none⟩ := by kernel_rfl
theorem row89 : infOf Try.prog Try.f89 = ⟨[], false, none, [], none⟩ := by kernel_rfl
theorem row90 : infOf Try.prog Try.f90 = ⟨[], false, none, [], none⟩ := by kernel_rfl
theorem row91 : infOf Try.prog Try.f91 = ⟨[], false, none, [], none⟩ := by kernel_rfl
theorem row92 : infOf Try.prog Try.f92 = ⟨[], true, none, [], none⟩ := by kernel_rfl
theorem row93 : infOf Try.prog Try.f93 = ⟨[94, 93, 93], true, none, [], none⟩ := by kernel_rfl
theorem row94 : infOf Try.prog Try.f94 = ⟨[95, 95, 95], false, none, [], none⟩ := by kernel_rfl
theorem row95 : infOf Try.prog Try.f95 = ⟨[], false, none, [], none⟩ := by kernel_rfl
theorem row96 : infOf Try.prog Try.f96 = ⟨[], false, some "(runtime.boundsError).Error", [], none⟩ := by kernel_rfl
theorem row97 : infOf Try.prog Try.f97 = ⟨[], false, some "(runtime.boundsError).RuntimeError", [], none⟩ := by kernel_rfl
theorem row98 : infOf Try.prog Try.f98 = ⟨[], false, some "(runtime.errorString).Error", [], none⟩ := by kernel_rfl
theorem row99 : infOf Try.prog Try.f99 = ⟨[], false, some "(runtime.errorString).RuntimeError", [], none⟩ := by kernel_rfl
theorem row100 : infOf Try.prog Try.f100 = ⟨[], false, some "(runtime.plainError).Error", [], none⟩ := by kernel_rfl
theorem row101 : infOf Try.prog Try.f101 = ⟨[], false, some "(runtime.plainError).RuntimeError", [], none⟩ := by kernel_rfl
theorem row102 : infOf Try.prog Try.f102 = ⟨[], false, some "(runtime.errorAddressString).Error", [], none⟩ := by kernel_rfl
theorem row103 : infOf Try.prog Try.f103 = ⟨[], false, some "(runtime.errorAddressString).RuntimeError", [], none⟩ := by kernel_rfl
theorem row104 : infOf Try.prog Try.f104 = ⟨[], false, some "(*runtime.TypeAssertionError).Error", [], none⟩ := by kernel_rfl
theorem row105 : infOf Try.prog Try.f105 = ⟨[], false, some "(*runtime.TypeAssertionError).RuntimeError", [], none⟩ := by kernel_rfl
theorem row106 : infOf Try.prog Try.f106 = ⟨[], false, some "(*runtime.PanicNilError).Error", [], none⟩ := by kernel_rfl
theorem row107 : infOf Try.prog Try.f107 = ⟨[], false, some "(*runtime.PanicNilError).RuntimeError", [], none⟩ := by kernel_rfl
theorem row108 : infOf Try.prog Try.f108 = ⟨[], false, some "(*internal/abi.Type).Align", [], none⟩ := by kernel_rfl
theorem row109 : infOf Try.prog Try.f109 = ⟨[], false, some "(internal/runtime/maps.unhashableTypeError).Error", [], none⟩ := by kernel_rfl
theorem row110 : infOf Try.prog Try.f110 = ⟨[], false, some "(internal/runtime/maps.unhashableTypeError).RuntimeError", [], none⟩ := by kernel_rfl
theorem row111 : infOf Try.prog Try.f111 = ⟨[], false, some "(internal/abi.Kind).String", [], none⟩ := by kernel_rfl
def tab : List Inf := [⟨[], false, some "main.main", [], none⟩,
  ⟨[], false, some "gosem.cut", [], none⟩,
  ⟨[1], false, none, [], none⟩,
  ⟨[11, 12, 13, 14, 13], false, none, [], none⟩,
  ⟨[11, 16, 15, 13, 17, 14, 12, 18, 19], false, none, [], none⟩,
  ⟨[20, 21, 22, 18, 23], false, none, [], none⟩,
  ⟨[24, 25, 26, 27, 28], false, none, [], none⟩,
  ⟨[25, 25, 25, 25, 25, 25, 28], false, none, [], none⟩,
  ⟨[29, 30, 31, 23], false, none, [], none⟩,
  ⟨[32, 33, 22, 22, 18, 34], false, none, [], none⟩,
  ⟨[35, 36, 37, 38, 39, 34], false, none, [], none⟩,
  ⟨[], false, none, [], none⟩,
  ⟨[40, 41, 41], false, none, [], none⟩,
  ⟨[42, 42, 42, 42, 42, 43, 43], false, none, [], none⟩,
  ⟨[44, 44], false, none, [], none⟩,
  ⟨[], false, none, [], none⟩,
  ⟨[45, 45, 45, 45, 45, 46, 46], false, none, [], none⟩,
  ⟨[47, 47, 47, 47, 47, 48, 48], false, none, [], none⟩,
  ⟨[], false, none, [], none⟩,
  ⟨[49], false, none, [], none⟩,
  ⟨[], false, none, [], none⟩,
  ⟨[50, 12, 51, 49, 52], false, none, [], none⟩,
  ⟨[53, 54, 55, 45, 45, 45, 45, 56], false, none, [], none⟩,
  ⟨[57], false, none, [], none⟩,
  ⟨[], false, none, [], none⟩,
  ⟨[58, 59, 60, 59], false, none, [], none⟩,
  ⟨[61, 62, 62], false, none, [], none⟩,
  ⟨[18], false, none, [], none⟩,
  ⟨[25], false, none, [], none⟩,
  ⟨[63, 52, 64, 21, 65], false, none, [], none⟩,
  ⟨[47, 47, 47, 47, 56, 66, 67, 22, 18], false, none, [], none⟩,
  ⟨[14], false, none, [], none⟩,
  ⟨[68], true, none, [], none⟩,
  ⟨[30], false, none, [], none⟩,
  ⟨[22, 32], false, none, [], none⟩,
  ⟨[], false, none, [], none⟩,
  ⟨[32, 69, 70, 72], false, none, [], none⟩,
  ⟨[33], false, none, [], none⟩,
  ⟨[73, 74], false, none, [], none⟩,
  ⟨[44], false, none, [], none⟩,
  ⟨[], false, none, [], none⟩,
  ⟨[40, 40], false, none, [], none⟩,
  ⟨[75], false, none, [], none⟩,
  ⟨[42, 42], false, none, [], none⟩,
  ⟨[], false, none, [], none⟩,
  ⟨[], false, none, [], none⟩,
  ⟨[45, 45], false, none, [], none⟩,
  ⟨[76], false, none, [], none⟩,
  ⟨[47, 47], false, none, [], none⟩,
  ⟨[40], false, none, [], none⟩,
  ⟨[], false, none, [], none⟩,
  ⟨[77, 78], true, none, [], none⟩,
  ⟨[57], false, none, [], none⟩,
  ⟨[], false, none, [], none⟩,
  ⟨[16], false, none, [], none⟩,
  ⟨[79, 80, 80, 80], false, none, [], none⟩,
  ⟨[], false, none, [], none⟩,
  ⟨[], false, none, [], none⟩,
  ⟨[], false, none, [], none⟩,
  ⟨[81], false, none, [], none⟩,
  ⟨[81], false, none, [], none⟩,
  ⟨[], false, none, [], none⟩,
  ⟨[22], false, none, [], none⟩,
  ⟨[75, 82], true, none, [], none⟩,
  ⟨[83, 13], false, none, [], none⟩,
  ⟨[], false, none, [], none⟩,
  ⟨[], false, none, [], none⟩,
  ⟨[17], false, none, [], none⟩,
  ⟨[84], false, none, [], none⟩,
  ⟨[85], false, none, [], none⟩,
  ⟨[71], false, none, [], none⟩,
  ⟨[86, 86], false, none, [], none⟩,
  ⟨[87, 88, 89, 90, 90, 91], false, none, [], none⟩,
  ⟨[], false, none, [], none⟩,
  ⟨[14], false, none, [], none⟩,
  ⟨[], false, none, [], none⟩,
  ⟨[], false, none, [], none⟩,
  ⟨[], false, none, [], none⟩,
  ⟨[], false, none, [], none⟩,
  ⟨[], false, none, [], none⟩,
  ⟨[], false, none, [], none⟩,
  ⟨[21], false, none, [], none⟩,
  ⟨[], false, none, [], none⟩,
  ⟨[], false, none, [], none⟩,
  ⟨[29], true, none, [], none⟩,
  ⟨[92, 92, 93, 93], false, none, [], none⟩,
  ⟨[], false, none, [], none⟩,
  ⟨[], false, none, [], none⟩,
  ⟨[], false, none, [], none⟩,
  ⟨[], false, none, [], none⟩,
  ⟨[], false, none, [], none⟩,
  ⟨[], false, none, [], none⟩,
  ⟨[], true, none, [], none⟩,
  ⟨[94, 93, 93], true, none, [], none⟩,
  ⟨[95, 95, 95], false, none, [], none⟩,
  ⟨[], false, none, [], none⟩,
  ⟨[], false, some "(runtime.boundsError).Error", [], none⟩,
  ⟨[], false, some "(runtime.boundsError).RuntimeError", [], none⟩,
  ⟨[], false, some "(runtime.errorString).Error", [], none⟩,
  ⟨[], false, some "(runtime.errorString).RuntimeError", [], none⟩,
  ⟨[], false, some "(runtime.plainError).Error", [], none⟩,
  ⟨[], false, some "(runtime.plainError).RuntimeError", [], none⟩,
  ⟨[], false, some "(runtime.errorAddressString).Error", [], none⟩,
  ⟨[], false, some "(runtime.errorAddressString).RuntimeError", [], none⟩,
  ⟨[], false, some "(*runtime.TypeAssertionError).Error", [], none⟩,
  ⟨[], false, some "(*runtime.TypeAssertionError).RuntimeError", [], none⟩,
  ⟨[], false, some "(*runtime.PanicNilError).Error", [], none⟩,
  ⟨[], false, some "(*runtime.PanicNilError).RuntimeError", [], none⟩,
  ⟨[], false, some "(*internal/abi.Type).Align", [], none⟩,
  ⟨[], false, some "(internal/runtime/maps.unhashableTypeError).Error", [], none⟩,
  ⟨[], false, some "(internal/runtime/maps.unhashableTypeError).RuntimeError", [], none⟩,
  ⟨[], false, some "(internal/abi.Kind).String", [], none⟩]
theorem size : Try.prog.funcs.size = 112 := by kernel_rfl
set_option maxRecDepth 100000 in
theorem rows : Rows Try.prog 0 tab := .cons (funcs_row Try.func0 row0)
 (.cons (funcs_row Try.func1 row1)
 (.cons (funcs_row Try.func2 row2)
 (.cons (funcs_row Try.func3 row3)
 (.cons (funcs_row Try.func4 row4)
 (.cons (funcs_row Try.func5 row5)
 (.cons (funcs_row Try.func6 row6)
 (.cons (funcs_row Try.func7 row7)
 (.cons (funcs_row Try.func8 row8)
 (.cons (funcs_row Try.func9 row9)
 (.cons (funcs_row Try.func10 row10)
 (.cons (funcs_row Try.func11 row11)
 (.cons (funcs_row Try.func12 row12)
 (.cons (funcs_row Try.func13 row13)
 (.cons (funcs_row Try.func14 row14)
 (.cons (funcs_row Try.func15 row15)
 (.cons (funcs_row Try.func16 row16)
 (.cons (funcs_row Try.func17 row17)
 (.cons (funcs_row Try.func18 row18)
 (.cons (funcs_row Try.func19 row19)
 (.cons (funcs_row Try.func20 row20)
 (.cons (funcs_row Try.func21 row21)
 (.cons (funcs_row Try.func22 row22)
 (.cons (funcs_row Try.func23 row23)
 (.cons (funcs_row Try.func24 row24)
 (.cons (funcs_row Try.func25 row25)
 (.cons (funcs_row Try.func26 row26)
 (.cons (funcs_row Try.func27 row27)
 (.cons (funcs_row Try.func28 row28)
 (.cons (funcs_row Try.func29 row29)
 (.cons (funcs_row Try.func30 row30)
 (.cons (funcs_row Try.func31 row31)
 (.cons (funcs_row Try.func32 row32)
 (.cons (funcs_row Try.func33 row33)
 (.cons (funcs_row Try.func34 row34)
 (.cons (funcs_row Try.func35 row35)
 (.cons (funcs_row Try.func36 row36)
 (.cons (funcs_row Try.func37 row37)
 (.cons (funcs_row Try.func38 row38)
 (.cons (funcs_row Try.func39 row39)
 (.cons (funcs_row Try.func40 row40)
 (.cons (funcs_row Try.func41 row41)
 (.cons (funcs_row Try.func42 row42)
 (.cons (funcs_row Try.func43 row43)
 (.cons (funcs_row Try.func44 row44)
 (.cons (funcs_row Try.func45 row45)
 (.cons (funcs_row Try.func46 row46)
 (.cons (funcs_row Try.func47 row47)
 (.cons (funcs_row Try.func48 row48)
 (.cons (funcs_row Try.func49 row49)
 (.cons (funcs_row Try.func50 row50)
 (.cons (funcs_row Try.func51 row51)
 (.cons (funcs_row Try.func52 row52)
 (.cons (funcs_row Try.func53 row53)
 (.cons (funcs_row Try.func54 row54)
 (.cons (funcs_row Try.func55 row55)
 (.cons (funcs_row Try.func56 row56)
 (.cons (funcs_row Try.func57 row57)
 (.cons (funcs_row Try.func58 row58)
 (.cons (funcs_row Try.func59 row59)
 (.cons (funcs_row Try.func60 row60)
 (.cons (funcs_row Try.func61 row61)
 (.cons (funcs_row Try.func62 row62)
 (.cons (funcs_row Try.func63 row63)
 (.cons (funcs_row Try.func64 row64)
 (.cons (funcs_row Try.func65 row65)
 (.cons (funcs_row Try.func66 row66)
 (.cons (funcs_row Try.func67 row67)
 (.cons (funcs_row Try.func68 row68)
 (.cons (funcs_row Try.func69 row69)
 (.cons (funcs_row Try.func70 row70)
 (.cons (funcs_row Try.func71 row71)
 (.cons (funcs_row Try.func72 row72)
 (.cons (funcs_row Try.func73 row73)
 (.cons (funcs_row Try.func74 row74)
 (.cons (funcs_row Try.func75 row75)
 (.cons (funcs_row Try.func76 row76)
 (.cons (funcs_row Try.func77 row77)
 (.cons (funcs_row Try.func78 row78)
 (.cons (funcs_row Try.func79 row79)
 (.cons (funcs_row Try.func80 row80)
 (.cons (funcs_row Try.func81 row81)
 (.cons (funcs_row Try.func82 row82)
 (.cons (funcs_row Try.func83 row83)
 (.cons (funcs_row Try.func84 row84)
 (.cons (funcs_row Try.func85 row85)
 (.cons (funcs_row Try.func86 row86)
 (.cons (funcs_row Try.func87 row87)
 (.cons (funcs_row Try.func88 row88)
 (.cons (funcs_row Try.func89 row89)
 (.cons (funcs_row Try.func90 row90)
 (.cons (funcs_row Try.func91 row91)
 (.cons (funcs_row Try.func92 row92)
 (.cons (funcs_row Try.func93 row93)
 (.cons (funcs_row Try.func94 row94)
 (.cons (funcs_row Try.func95 row95)
 (.cons (funcs_row Try.func96 row96)
 (.cons (funcs_row Try.func97 row97)
 (.cons (funcs_row Try.func98 row98)
 (.cons (funcs_row Try.func99 row99)
 (.cons (funcs_row Try.func100 row100)
 (.cons (funcs_row Try.func101 row101)
 (.cons (funcs_row Try.func102 row102)
 (.cons (funcs_row Try.func103 row103)
 (.cons (funcs_row Try.func104 row104)
 (.cons (funcs_row Try.func105 row105)
 (.cons (funcs_row Try.func106 row106)
 (.cons (funcs_row Try.func107 row107)
 (.cons (funcs_row Try.func108 row108)
 (.cons (funcs_row Try.func109 row109)
 (.cons (funcs_row Try.func110 row110)
 (.cons (funcs_row Try.func111 row111)
 (.nil _))))))))))))))))))))))))))))))))))))))))))))))))))))))))))))))))))))))))))))))))))))))))))))))))))))))))))))))))
abbrev ch_ (n : Nat) : Char := Char.ofNat n
def signs : List Char := [ch_ 104, ch_ 97, ch_ 114, ch_ 110, ch_ 101, ch_ 115, ch_ 115, ch_ 32, ch_ 48, ch_ 54, ch_ 100, ch_ 99, ch_ 51, ch_ 57, ch_ 48, ch_ 100, ch_ 101, ch_ 100, ch_ 101, ch_ 101, ch_ 99, ch_ 50, ch_ 98, ch_ 100, ch_ 97, ch_ 51, ch_ 57, ch_ 102, ch_ 53, ch_ 52, ch_ 49, ch_ 57, ch_ 54, ch_ 52, ch_ 100, ch_ 101, ch_ 56, ch_ 98, ch_ 51, ch_ 101, ch_ 49, ch_ 49, ch_ 101, ch_ 48, ch_ 55, ch_ 99, ch_ 53, ch_ 55, ch_ 50, ch_ 55, ch_ 53, ch_ 54, ch_ 52, ch_ 102, ch_ 100, ch_ 56, ch_ 98, ch_ 49, ch_ 100, ch_ 49, ch_ 49, ch_ 51, ch_ 97, ch_ 53, ch_ 101, ch_ 100, ch_ 100, ch_ 99, ch_ 48, ch_ 98, ch_ 48, ch_ 51, ch_ 32, ch_ 99, ch_ 117, ch_ 116, ch_ 32, ch_ 97, ch_ 116, ch_ 32, ch_ 105, ch_ 110, ch_ 116, ch_ 101, ch_ 114, ch_ 108, ch_ 101, ch_ 97, ch_ 118, ch_ 101, ch_ 47, ch_ 105, ch_ 110, ch_ 116, ch_ 101, ch_ 114, ch_ 108, ch_ 101, ch_ 97, ch_ 118, ch_ 101, ch_ 108, ch_ 97, ch_ 119, ch_ 49, ch_ 49, ch_ 46, ch_ 69, ch_ 118, ch_ 101, ch_ 110, ch_ 116, ch_ 82, ch_ 111, ch_ 117, ch_ 110, ch_ 100, ch_ 84, ch_ 114, ch_ 105, ch_ 112, ch_ 32, ch_ 105, ch_ 110, ch_ 116, ch_ 101, ch_ 114, ch_ 108, ch_ 101, ch_ 97, ch_ 118, ch_ 101, ch_ 47, ch_ 105, ch_ 110, ch_ 116, ch_ 101, ch_ 114, ch_ 108, ch_ 101, ch_ 97, ch_ 118, ch_ 101, ch_ 108, ch_ 97, ch_ 119, ch_ 49, ch_ 49, ch_ 46, ch_ 69, ch_ 118, ch_ 101, ch_ 110, ch_ 116, ch_ 83, ch_ 112, ch_ 111, ch_ 105, ch_ 108, ch_ 116, ch_ 32, ch_ 105, ch_ 110, ch_ 116, ch_ 101, ch_ 114, ch_ 108, ch_ 101, ch_ 97, ch_ 118, ch_ 101, ch_ 47, ch_ 105, ch_ 110, ch_ 116, ch_ 101, ch_ 114, ch_ 108, ch_ 101, ch_ 97, ch_ 118, ch_ 101, ch_ 108, ch_ 97, ch_ 119, ch_ 49, ch_ 51, ch_ 46, ch_ 66, ch_ 108, ch_ 111, ch_ 99, ch_ 107, ch_ 84, ch_ 101, ch_ 108, ch_ 108, ch_ 115, ch_ 32, ch_ 105, ch_ 110, ch_ 116, ch_ 101, ch_ 114, ch_ 108, ch_ 101, ch_ 97, ch_ 118, ch_ 101, ch_ 47, ch_ 105, ch_ 110, ch_ 116, ch_ 101, ch_ 114, ch_ 108, ch_ 101, ch_ 97, ch_ 118, ch_ 101, ch_ 108, ch_ 97, ch_ 119, ch_ 49, ch_ 52, ch_ 46, ch_ 82, ch_ 101, ch_ 99, ch_ 111, ch_ 114, ch_ 100, ch_ 84, ch_ 101, ch_ 108, ch_ 108, ch_ 115, ch_ 32, ch_ 105, ch_ 110, ch_ 116, ch_ 101, ch_ 114, ch_ 108, ch_ 101, ch_ 97, ch_ 118, ch_ 101, ch_ 47, ch_ 105, ch_ 110, ch_ 116, ch_ 101, ch_ 114, ch_ 108, ch_ 101, ch_ 97, ch_ 118, ch_ 101, ch_ 108, ch_ 97, ch_ 119, ch_ 49, ch_ 52, ch_ 46, ch_ 82, ch_ 101, ch_ 99, ch_ 111, ch_ 114, ch_ 100, ch_ 69, ch_ 114, ch_ 114, ch_ 111, ch_ 114, ch_ 115, ch_ 32, ch_ 105, ch_ 110, ch_ 116, ch_ 101, ch_ 114, ch_ 108, ch_ 101, ch_ 97, ch_ 118, ch_ 101, ch_ 47, ch_ 105, ch_ 110, ch_ 116, ch_ 101, ch_ 114, ch_ 108, ch_ 101, ch_ 97, ch_ 118, ch_ 101, ch_ 108, ch_ 97, ch_ 119, ch_ 49, ch_ 51, ch_ 46, ch_ 66, ch_ 108, ch_ 111, ch_ 99, ch_ 107, ch_ 82, ch_ 101, ch_ 97, ch_ 100, ch_ 115, ch_ 32, ch_ 105, ch_ 110, ch_ 116, ch_ 101, ch_ 114, ch_ 108, ch_ 101, ch_ 97, ch_ 118, ch_ 101, ch_ 47, ch_ 105, ch_ 110, ch_ 116, ch_ 101, ch_ 114, ch_ 108, ch_ 101, ch_ 97, ch_ 118, ch_ 101, ch_ 108, ch_ 97, ch_ 119, ch_ 49, ch_ 53, ch_ 46, ch_ 67, ch_ 111, ch_ 108, ch_ 108, ch_ 101, ch_ 99, ch_ 116, ch_ 66, ch_ 108, ch_ 111, ch_ 99, ch_ 107, ch_ 115, ch_ 32, ch_ 105, ch_ 110, ch_ 116, ch_ 101, ch_ 114, ch_ 108, ch_ 101, ch_ 97, ch_ 118, ch_ 101, ch_ 47, ch_ 105, ch_ 110, ch_ 116, ch_ 101, ch_ 114, ch_ 108, ch_ 101, ch_ 97, ch_ 118, ch_ 101, ch_ 108, ch_ 97, ch_ 119, ch_ 49, ch_ 53, ch_ 46, ch_ 67, ch_ 111, ch_ 108, ch_ 108, ch_ 101, ch_ 99, ch_ 116, ch_ 84, ch_ 101, ch_ 108, ch_ 108, ch_ 115]
theorem signs_eq : Try.prog.initOrder.toList = signs := by
  have h : Try.prog.initOrder = String.ofList signs := by kernel_rfl
  rw [h, String.toList_ofList]
def words : List (List Char) := [[ch_ 99, ch_ 117, ch_ 116],
  [ch_ 97, ch_ 116],
  [ch_ 105, ch_ 110, ch_ 116, ch_ 101, ch_ 114, ch_ 108, ch_ 101, ch_ 97, ch_ 118, ch_ 101, ch_ 47, ch_ 105, ch_ 110, ch_ 116, ch_ 101, ch_ 114, ch_ 108, ch_ 101, ch_ 97, ch_ 118, ch_ 101, ch_ 108, ch_ 97, ch_ 119, ch_ 49, ch_ 49, ch_ 46, ch_ 69, ch_ 118, ch_ 101, ch_ 110, ch_ 116, ch_ 82, ch_ 111, ch_ 117, ch_ 110, ch_ 100, ch_ 84, ch_ 114, ch_ 105, ch_ 112],
  [ch_ 105, ch_ 110, ch_ 116, ch_ 101, ch_ 114, ch_ 108, ch_ 101, ch_ 97, ch_ 118, ch_ 101, ch_ 47, ch_ 105, ch_ 110, ch_ 116, ch_ 101, ch_ 114, ch_ 108, ch_ 101, ch_ 97, ch_ 118, ch_ 101, ch_ 108, ch_ 97, ch_ 119, ch_ 49, ch_ 49, ch_ 46, ch_ 69, ch_ 118, ch_ 101, ch_ 110, ch_ 116, ch_ 83, ch_ 112, ch_ 111, ch_ 105, ch_ 108, ch_ 116],
  [ch_ 105, ch_ 110, ch_ 116, ch_ 101, ch_ 114, ch_ 108, ch_ 101, ch_ 97, ch_ 118, ch_ 101, ch_ 47, ch_ 105, ch_ 110, ch_ 116, ch_ 101, ch_ 114, ch_ 108, ch_ 101, ch_ 97, ch_ 118, ch_ 101, ch_ 108, ch_ 97, ch_ 119, ch_ 49, ch_ 51, ch_ 46, ch_ 66, ch_ 108, ch_ 111, ch_ 99, ch_ 107, ch_ 84, ch_ 101, ch_ 108, ch_ 108, ch_ 115],
  [ch_ 105, ch_ 110, ch_ 116, ch_ 101, ch_ 114, ch_ 108, ch_ 101, ch_ 97, ch_ 118, ch_ 101, ch_ 47, ch_ 105, ch_ 110, ch_ 116, ch_ 101, ch_ 114, ch_ 108, ch_ 101, ch_ 97, ch_ 118, ch_ 101, ch_ 108, ch_ 97, ch_ 119, ch_ 49, ch_ 52, ch_ 46, ch_ 82, ch_ 101, ch_ 99, ch_ 111, ch_ 114, ch_ 100, ch_ 84, ch_ 101, ch_ 108, ch_ 108, ch_ 115],
  [ch_ 105, ch_ 110, ch_ 116, ch_ 101, ch_ 114, ch_ 108, ch_ 101, ch_ 97, ch_ 118, ch_ 101, ch_ 47, ch_ 105, ch_ 110, ch_ 116, ch_ 101, ch_ 114, ch_ 108, ch_ 101, ch_ 97, ch_ 118, ch_ 101, ch_ 108, ch_ 97, ch_ 119, ch_ 49, ch_ 52, ch_ 46, ch_ 82, ch_ 101, ch_ 99, ch_ 111, ch_ 114, ch_ 100, ch_ 69, ch_ 114, ch_ 114, ch_ 111, ch_ 114, ch_ 115],
  [ch_ 105, ch_ 110, ch_ 116, ch_ 101, ch_ 114, ch_ 108, ch_ 101, ch_ 97, ch_ 118, ch_ 101, ch_ 47, ch_ 105, ch_ 110, ch_ 116, ch_ 101, ch_ 114, ch_ 108, ch_ 101, ch_ 97, ch_ 118, ch_ 101, ch_ 108, ch_ 97, ch_ 119, ch_ 49, ch_ 51, ch_ 46, ch_ 66, ch_ 108, ch_ 111, ch_ 99, ch_ 107, ch_ 82, ch_ 101, ch_ 97, ch_ 100, ch_ 115],
  [ch_ 105, ch_ 110, ch_ 116, ch_ 101, ch_ 114, ch_ 108, ch_ 101, ch_ 97, ch_ 118, ch_ 101, ch_ 47, ch_ 105, ch_ 110, ch_ 116, ch_ 101, ch_ 114, ch_ 108, ch_ 101, ch_ 97, ch_ 118, ch_ 101, ch_ 108, ch_ 97, ch_ 119, ch_ 49, ch_ 53, ch_ 46, ch_ 67, ch_ 111, ch_ 108, ch_ 108, ch_ 101, ch_ 99, ch_ 116, ch_ 66, ch_ 108, ch_ 111, ch_ 99, ch_ 107, ch_ 115],
  [ch_ 105, ch_ 110, ch_ 116, ch_ 101, ch_ 114, ch_ 108, ch_ 101, ch_ 97, ch_ 118, ch_ 101, ch_ 47, ch_ 105, ch_ 110, ch_ 116, ch_ 101, ch_ 114, ch_ 108, ch_ 101, ch_ 97, ch_ 118, ch_ 101, ch_ 108, ch_ 97, ch_ 119, ch_ 49, ch_ 53, ch_ 46, ch_ 67, ch_ 111, ch_ 108, ch_ 108, ch_ 101, ch_ 99, ch_ 116, ch_ 84, ch_ 101, ch_ 108, ch_ 108, ch_ 115]]
theorem behind : behindMainWord (wordsSigns Try.prog.initOrder.toList) = words := by
  rw [signs_eq]
  kernel_rfl
theorem noLater : Try.prog.laysLater = false := by kernel_rfl
theorem noReflect : Try.prog.bearsReflect = false := by kernel_rfl
theorem door : Try.prog.doorFits [] = true := by kernel_rfl
theorem make_of (P : Program) (ws : List (List Char)) (h : behindMainWord (wordsSigns P.initOrder.toList) = [ch_ 99, ch_ 117, ch_ 116] :: ws) : P.make = some .cut := by
  unfold Program.make
  rw [h]
  kernel_rfl
theorem strip_of (ws : List (List Char)) : ∀ l : List String, (l.all fun w => !([ch_ 99, ch_ 117, ch_ 116] == w.toList)) = true → stripLifts l ([ch_ 99, ch_ 117, ch_ 116] :: ws) = ([], [ch_ 99, ch_ 117, ch_ 116] :: ws)
  | [], _ => rfl
  | w :: l, h => by
    rw [List.all_cons, Bool.and_eq_true] at h
    unfold stripLifts
    rw [if_neg (by intro e; rw [e] at h; exact absurd h.1 (by decide))]
    exact strip_of ws l h.2
theorem liftWords_cut : (liftWords.all fun w => !([ch_ 99, ch_ 117, ch_ 116] == w.toList)) = true := by kernel_rfl
theorem headLifts_of (P : Program) (ws : List (List Char)) (h : behindMainWord (wordsSigns P.initOrder.toList) = [ch_ 99, ch_ 117, ch_ 116] :: ws) : P.headLifts = [] := by
  unfold Program.headLifts
  rw [h, strip_of ws liftWords liftWords_cut]
  simp
theorem liftsFinal_of (P : Program) (ws : List (List Char)) (h : behindMainWord (wordsSigns P.initOrder.toList) = [ch_ 99, ch_ 117, ch_ 116] :: ws) : P.liftsFinal = false := by
  unfold Program.liftsFinal
  rw [h, headLifts_of P ws h]
  kernel_rfl
theorem mayEnter_of (P : Program) (ws : List (List Char)) (h : behindMainWord (wordsSigns P.initOrder.toList) = [ch_ 99, ch_ 117, ch_ 116] :: ws) (h1 : P.laysLater = false) (h2 : P.bearsReflect = false) (h3 : P.doorFits [] = true) : P.mayEnter = true := by
  unfold Program.mayEnter
  rw [h]
  dsimp only
  rw [strip_of ws liftWords liftWords_cut, h1, h2, h3, show ((([] : List String), [ch_ 99, ch_ 117, ch_ 116] :: ws).2.head? == some "cut".toList) = true by kernel_rfl]
  simp
theorem mayEnter : Try.prog.mayEnter = true := mayEnter_of _ _ behind noLater noReflect door
theorem liftsFinal : Try.prog.liftsFinal = false := liftsFinal_of _ _ behind
theorem make_ : Try.prog.make = some .cut := make_of _ _ behind
end Go.Proofs.Ytnmmkgagbfniiaa.Ftab
end
section
namespace Go.Proofs.YtnmmkgagbfniiaaW.PrintWords
open Go.ChangeShapes Go.WideShapes
theorem sized_ints {H : Type} {enc : TypeId × Value → H} {P : Program} {W : World} {base : Nat} {spare : Nat → Bool} {held : Bool} {t e : TypeId} {k : IntKind} {a : Option Addr} {len cap : Nat} {d : DataW H} {ps : List MemPlace} {ts : List TypeId} {ds : List (DataW H)} {j : Nat}
    (hsz : (DataW.weightsEach P ts ds).all (· ≤ reachBytes) = true) (ht : ts[j]? = some t) (hd : ds[j]? = some d) (hu : P.underlying t = some (.slice e)) (he : P.underlying e = some (.int k)) (hc : P.cellsOf e = 1) {B : Nat} (hB : P.bytesOf e = B)
    (h : DataW.Trod enc P W base spare held t (.slice a len cap) d ps) : len * B ≤ 140737488351232 := by
  obtain ⟨fuel, hf⟩ := h
  rcases open_ints hu he hc hf with ⟨hcs, _⟩ | ⟨x, l, c, zs, hcs, _, hl, _, hz, hx, _, _⟩
  · simp [Value.cells] at hcs
    obtain ⟨rfl, rfl, rfl⟩ := hcs
    simp
  · simp [Value.cells] at hcs
    obtain ⟨rfl, rfl, rfl⟩ := hcs
    obtain ⟨hx, _⟩ := Prod.mk.inj hx
    subst hx
    have z := sized_slice hsz ht hd hu
    rw [hB] at z
    have hl2 : len ≤ zs.length := by
      rw [hz]
      split
      · exact hl
      · exact Nat.le_refl _
    have h1 : (lits (H := H) k (zs.take len)).length + (lits (H := H) k (zs.drop len)).length = zs.length := by
      simp [lits]
      omega
    rw [h1] at z
    exact Nat.le_trans (Nat.mul_le_mul_right _ hl2) z
end Go.Proofs.YtnmmkgagbfniiaaW.PrintWords
end
