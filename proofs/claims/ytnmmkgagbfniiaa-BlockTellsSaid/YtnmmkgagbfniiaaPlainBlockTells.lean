/- The plain side of the statement BlockTells, texts of this session laid into one. No condition beyond what each fact names. -/
import Derived.Deep.Slices
import Derived.ChangeOld
import Derived.SizedLaws
import Derived.WideShapes
import Derived.Carry
import Derived.Test.YtnmmkgagbfniiaaWWords
import Derived.Test.YtnmmkgagbfniiaaWFoot
import Derived.Test.YtnmmkgagbfniiaaAx0
import Derived.KernelRfl
import Derived.Laws.BitsAllLaws
import Derived.Test.YtnmmkgagbfniiaaWMore
import Derived.Test.YtnmmkgagbfniiaaAxeventPutInt
import Derived.Test.YtnmmkgagbfniiaaAxinterleaveref11PutInt
import Derived.Test.YtnmmkgagbfniiaaAxinterleaveref11SameBytes
import Derived.Test.YtnmmkgagbfniiaaAxpackPack
import Derived.Test.YtnmmkgagbfniiaaAxinterleaveref11Pack
import Derived.Test.YtnmmkgagbfniiaaAxblockSum
import Derived.Test.YtnmmkgagbfniiaaAxinterleaveref11Sum
import Derived.Test.YtnmmkgagbfniiaaAxinterleavelaw13awake
import Derived.Test.YtnmmkgagbfniiaaAxeventappendList
import Derived.Test.YtnmmkgagbfniiaaAxeventAppend
import Derived.Test.YtnmmkgagbfniiaaAxinterleaveref11putList
import Derived.Test.YtnmmkgagbfniiaaAxinterleaveref11Append
import Derived.Test.YtnmmkgagbfniiaaAxinterleavelaw11awake
import Derived.Test.YtnmmkgagbfniiaaAxinterleavelaw11long
import Derived.Test.YtnmmkgagbfniiaaAxblockEncode
import Derived.Test.YtnmmkgagbfniiaaAxinterleaveref11Encode
import Derived.Test.YtnmmkgagbfniiaaAxinterleavelaw13large
import Derived.Test.YtnmmkgagbfniiaaAxinterleavelaw13BlockTells
section
/- An argument of whatever plain type, read as data, is read by its kind: numbers, strings, slices, structs, nested. No condition. -/
namespace Go.Proofs.Ytnmmkgagbfniiaa.OpenKd
open Go.RowKit Go.Proofs.YtnmmkgagbfniiaaW.PrintWords Go.ChangeShapes Go.WideShapes
set_option linter.unusedVariables false

/-- The weights of a datum are within the reach. -/
def Light {H : Type} (P : Program) (t : TypeId) (d : DataW H) : Prop := ∀ n ∈ DataW.weights P t d, n ≤ reachBytes
def Opens {α : Type} (P : Program) (d : Kd α) (t : TypeId) (J : α → Prop) : Prop :=
  ∀ (H : Type) (enc : TypeId × Value → H) (w : World) (fuel : Nat) (cs : List Value) (x : DataW H × List MemPlace), DataW.trod enc P w 0 (fun _ => true) true fuel t cs = some x → Light P t x.1 → ∃ y, d.K w y cs ∧ J y
theorem opens_int {P : Program} {t : TypeId} {k : IntKind} (ht : P.underlying t = some (.int k)) : Opens P (Kd.int k) t (fun n => (Lit.int k n).wf = true) := by
  intro H enc w fuel cs x h _
  obtain ⟨n, rfl, _, hw⟩ := DataW.trod_int ht h
  exact ⟨n, rfl, hw⟩
theorem opens_bool {P : Program} {t : TypeId} (ht : P.underlying t = some .bool) : Opens P Kd.bool t (fun _ => True) := by
  intro H enc w fuel cs x h _
  obtain ⟨b, rfl, _⟩ := DataW.trod_bool ht h
  exact ⟨b, rfl, trivial⟩
theorem opens_string {P : Program} {t : TypeId} (ht : P.underlying t = some .string) : Opens P Kd.string t (fun s => s.size ≤ 140737488351232) := by
  intro H enc w fuel cs x h hl
  obtain ⟨s, rfl, rfl, _⟩ := DataW.trod_string ht h
  refine ⟨s, rfl, ?_⟩
  have := hl s.data.toList.length (by simp [DataW.weights])
  rw [data_length] at this
  exact this
theorem list_of {α : Type} {p : Nat → α → Prop} : ∀ n : Nat, (∀ i, i < n → ∃ y, p i y) → ∃ ys : List α, ys.length = n ∧ ∀ i y, ys[i]? = some y → p i y
  | 0, _ => ⟨[], rfl, fun i y h => by simp at h⟩
  | n + 1, h => by
    obtain ⟨ys, hl, hp⟩ := list_of n (fun i hi => h i (by omega))
    obtain ⟨y, hy⟩ := h n (by omega)
    refine ⟨ys ++ [y], by simp [hl], fun i z hz => ?_⟩
    rcases Nat.lt_or_ge i ys.length with hi | hi
    · rw [List.getElem?_append_left hi] at hz
      exact hp i z hz
    · rw [List.getElem?_append_right hi] at hz
      have h0 : i - ys.length = 0 := by
        have := (List.getElem?_eq_some_iff.1 hz).1
        simp at this
        omega
      rw [h0] at hz
      have : y = z := by simpa using hz
      subst this
      obtain rfl : i = n := by omega
      exact hy
theorem weightsAll_mem {H : Type} {P : Program} {e : TypeId} : ∀ {l : List (DataW H)} {d : DataW H}, d ∈ l → ∀ n ∈ DataW.weights P e d, n ∈ DataW.weightsAll P e l
  | a :: l, d, h, n, hn => by
    simp only [DataW.weightsAll, List.mem_append]
    rcases List.mem_cons.1 h with rfl | h
    · exact .inl hn
    · exact .inr (weightsAll_mem h n hn)
theorem opens_slice {α : Type} {P : Program} {d : Kd α} {t e : TypeId} {J : α → Prop} {B : Nat} (ht : P.underlying t = some (.slice e)) (hd : Opens P d e J) (hsz : P.cellsOf e = d.sz) (hB : P.bytesOf e = B) :
    Opens P (Kd.slice e d) t (fun xs => xs.length ≤ maxLen ∧ xs.length * B ≤ 140737488351232 ∧ ∀ x ∈ xs, J x) := by
  intro H enc w fuel cs x h hl
  rcases Go.Deep.open_slice ht h with ⟨rfl, rfl⟩ | ⟨a, len, cap, m, n, D, Pl, rfl, _, hlc, hcm, hm, rfl, hx⟩
  · exact ⟨[], ⟨none, 0, rfl, Nat.le_refl _, Kd.C_nil _ _⟩, by simp, by simp, fun x hx => by simp at hx⟩
  · have hm' : m = cap := by simpa using hm
    subst hm'
    have hw : ∀ n ∈ DataW.weights P t (.slice ((List.range len).map D) ((List.range (m - len)).map fun j => D (len + j)) : DataW H), n ≤ reachBytes := hl
    simp only [DataW.weights, ht, List.length_map, List.length_range] at hw
    obtain ⟨ys, hyl, hys⟩ := list_of (p := fun i y => ∃ cs', w.cells? 0 (a.add (i * P.cellsOf e)) (P.cellsOf e) = some cs' ∧ d.K w y cs' ∧ J y) len (fun i hi => by
      obtain ⟨cs', h1, h2⟩ := hx i (by omega)
      obtain ⟨y, hk, hj⟩ := hd H enc w n cs' _ h2 (fun q hq => hw q (by
        refine List.mem_cons_of_mem _ (List.mem_append_left _ (weightsAll_mem (d := D i) ?_ q hq))
        exact List.mem_map.2 ⟨i, List.mem_range.2 hi, rfl⟩))
      exact ⟨y, cs', h1, hk, hj⟩)
    have hb := hw _ List.mem_cons_self
    rw [hB, show len + (m - len) = m by omega] at hb
    have hlb : len * B ≤ 140737488351232 := Nat.le_trans (Nat.mul_le_mul_right _ hlc) hb
    refine ⟨ys, ⟨some a, m, by rw [hyl], by omega, ⟨rfl, ?_, fun hp => ⟨a, rfl, fun j y hj => ?_⟩⟩⟩, by omega, by rw [hyl]; exact hlb, fun y hy => ?_⟩
    · have : m ≤ maxLen := hcm
      simp only [maxLen] at this
      omega
    · obtain ⟨cs', h1, hk, _⟩ := hys j y hj
      obtain ⟨_, hcl, hcell⟩ := World.cells?_some h1
      refine ⟨cs', by rw [hcl, hsz], hk, fun i u hu => ?_⟩
      have hi : i < P.cellsOf e := by rw [← hcl]; exact (List.getElem?_eq_some_iff.1 hu).1
      have := hcell i hi
      rw [Go.Deep.add_add, hsz] at this
      rw [this, hu]
    · obtain ⟨i, hi⟩ := List.mem_iff_getElem?.1 hy
      obtain ⟨_, _, _, hj⟩ := hys i y hi
      exact hj
/-- The fields of a struct from an offset on. -/
def OpF {α : Type} (P : Program) (fs : List Field) (off : Nat) (d : Kd α) (J : α → Prop) : Prop :=
  ∀ (H : Type) (enc : TypeId × Value → H) (w : World) (fuel : Nat) (cs : List Value) (xs : List (DataW H × List MemPlace)), cs.length = off + d.sz → xs.length = fs.length →
    (∀ (i : Nat) (f : Field), fs[i]? = some f → DataW.trod enc P w 0 (fun _ => true) true fuel f.type ((cs.drop f.offset).take (P.cellsOf f.type)) = xs[i]?) →
    (∀ n ∈ DataW.weightsEach P (fs.map (·.type)) (xs.map (·.1)), n ≤ reachBytes) → ∃ y, d.K w y (cs.drop off) ∧ J y
theorem opF_one {α : Type} {P : Program} {f : Field} {off : Nat} {d : Kd α} {J : α → Prop} {t : TypeId} (ht : f.type = t) (ho : f.offset = off) (hd : Opens P d t J) (hs : P.cellsOf t = d.sz) : OpF P [f] off d J := by
  intro H enc w fuel cs xs hl hx h hw
  subst ht
  match xs, hx with
  | [x], _ =>
    have h0 := h 0 f rfl
    rw [ho, hs, List.take_of_length_le (by rw [List.length_drop]; omega)] at h0
    exact hd H enc w fuel _ x (by simpa using h0) (fun n hn => hw n (by simp [DataW.weightsEach, hn]))
theorem opF_cons {α β : Type} {P : Program} {f : Field} {fs : List Field} {off : Nat} {a : Kd α} {b : Kd β} {J : α → Prop} {K : β → Prop} {t : TypeId} (ht : f.type = t) (ho : f.offset = off) (hd : Opens P a t J) (hs : P.cellsOf t = a.sz) (hr : OpF P fs (off + a.sz) b K) :
    OpF P (f :: fs) off (Kd.pair a b) (fun x => J x.1 ∧ K x.2) := by
  intro H enc w fuel cs xs hl hx h hw
  subst ht
  match xs, hx with
  | x :: xs, hx =>
    have hsz : (Kd.pair a b).sz = a.sz + b.sz := rfl
    rw [hsz] at hl
    have h0 := h 0 f rfl
    rw [ho, hs] at h0
    obtain ⟨y, hk, hj⟩ := hd H enc w fuel _ x (by simpa using h0) (fun n hn => hw n (by simp [DataW.weightsEach, hn]))
    obtain ⟨z, hk2, hj2⟩ := hr H enc w fuel cs xs (by omega) (by simpa using hx) (fun i g hg => by simpa using h (i + 1) g (by simpa using hg)) (fun n hn => hw n (by
      simp only [List.map_cons, DataW.weightsEach, List.mem_append]
      exact .inr hn))
    refine ⟨(y, z), ⟨(cs.drop off).take a.sz, cs.drop (off + a.sz), ?_, hk, hk2⟩, hj, hj2⟩
    rw [← List.drop_drop]
    exact (List.take_append_drop _ _).symm
theorem opens_struct {α β : Type} {P : Program} {t : TypeId} {fs : Array Field} {d : Kd α} {J : α → Prop} (f : β → α) (g : α → β) (hfg : ∀ x, f (g x) = x) (ht : P.underlying t = some (.struct fs)) (hs : P.cellsOf t = d.sz) (h : OpF P fs.toList 0 d J) : Opens P (Kd.iso d f) t (fun y => J (f y)) := by
  intro H enc w fuel cs x hx hl
  obtain ⟨xs, n, rfl, rfl, hc, hxl, hf⟩ := DataW.trod_struct ht hx
  have hw : ∀ q ∈ DataW.weights P t (.agg (xs.map (·.1)) : DataW H), q ≤ reachBytes := hl
  simp only [DataW.weights, ht] at hw
  obtain ⟨y, hk, hj⟩ := h H enc w n cs xs (by omega) (by simpa using hxl) (fun i f hi => hf i f (by simpa using hi)) hw
  refine ⟨g y, ?_, ?_⟩
  · show d.K w (f (g y)) cs
    rw [hfg]
    simpa using hk
  · show J (f (g y))
    rw [hfg]
    exact hj
theorem light_each {H : Type} {P : Program} {ts : List TypeId} {ds : List (DataW H)} (h : (DataW.weightsEach P ts ds).all (· ≤ reachBytes) = true) {j : Nat} {t : TypeId} {d : DataW H} (ht : ts[j]? = some t) (hd : ds[j]? = some d) : Light P t d := by
  intro n hn
  have := List.all_eq_true.1 h _ (DataW.weights_mem_each ht hd n hn)
  simpa using this
/-- A struct's value by its cells. -/
theorem agg_of_cells {v : Value} {c1 c2 : Value} {cs : List Value} (h : v.cells.toList = c1 :: c2 :: cs) : v = .agg (c1 :: c2 :: cs).toArray := by
  cases v <;> simp_all [Value.cells]
  rw [← h]
/-- A slice's value by its one cell. -/
theorem slice_of_cells {a A : Option Addr} {n m c d : Nat} (h : (Value.slice a n c).cells.toList = [.slice A m d]) : a = A ∧ n = m ∧ c = d := by
  simpa [Value.cells] using h
end Go.Proofs.Ytnmmkgagbfniiaa.OpenKd
end
section
/- What is known of the plain data of each struct type, and that what is read as data is read by its kind. No condition. -/
namespace Go.Proofs.Ytnmmkgagbfniiaa.A
open Go.RowKit Go.Proofs.YtnmmkgagbfniiaaW.PrintWords Go.Proofs.Ytnmmkgagbfniiaa.OpenKd
set_option linter.unusedVariables false

def J24 : S24 → Prop := fun y => (fun n => (Lit.int .i64 n).wf = true) y.f0 ∧ ((fun n => (Lit.int .i64 n).wf = true) y.f1 ∧ ((fun n => (Lit.int .i64 n).wf = true) y.f2 ∧ ((fun n => (Lit.int .i64 n).wf = true) y.f3 ∧ ((fun n => (Lit.int .i64 n).wf = true) y.f4 ∧ ((fun xs => xs.length ≤ maxLen ∧ xs.length * 8 ≤ 140737488351232 ∧ ∀ x ∈ xs, (fun n => (Lit.int .i64 n).wf = true) x) y.f5 ∧ ((fun xs => xs.length ≤ maxLen ∧ xs.length * 8 ≤ 140737488351232 ∧ ∀ x ∈ xs, (fun n => (Lit.int .i64 n).wf = true) x) y.f6))))))
theorem opens24 : Opens Try.prog k24 24 J24 := opens_struct (fun x : S24 => (x.f0, x.f1, x.f2, x.f3, x.f4, x.f5, x.f6)) (fun p => ⟨p.1, p.2.1, p.2.2.1, p.2.2.2.1, p.2.2.2.2.1, p.2.2.2.2.2.1, p.2.2.2.2.2.2⟩) (fun _ => rfl) Try.underlying24 (by kernel_rfl) (opF_cons rfl rfl (opens_int Try.underlying3) (by kernel_rfl) (opF_cons rfl rfl (opens_int Try.underlying3) (by kernel_rfl) (opF_cons rfl rfl (opens_int Try.underlying3) (by kernel_rfl) (opF_cons rfl rfl (opens_int Try.underlying2) (by kernel_rfl) (opF_cons rfl rfl (opens_int Try.underlying3) (by kernel_rfl) (opF_cons rfl rfl (opens_slice Try.underlying22 (opens_int Try.underlying3) (by kernel_rfl) (by kernel_rfl)) (by kernel_rfl) (opF_one rfl rfl (opens_slice Try.underlying22 (opens_int Try.underlying3) (by kernel_rfl) (by kernel_rfl)) (by kernel_rfl))))))))
def J26 : S26 → Prop := fun y => (fun n => (Lit.int .i64 n).wf = true) y.f0 ∧ (J24 y.f1)
theorem opens26 : Opens Try.prog k26 26 J26 := opens_struct (fun x : S26 => (x.f0, x.f1)) (fun p => ⟨p.1, p.2⟩) (fun _ => rfl) Try.underlying26 (by kernel_rfl) (opF_cons rfl rfl (opens_int Try.underlying3) (by kernel_rfl) (opF_one rfl rfl opens24 (by kernel_rfl)))
def J42 : S42 → Prop := fun y => (fun n => (Lit.int .i64 n).wf = true) y.f0 ∧ ((fun n => (Lit.int .i64 n).wf = true) y.f1 ∧ ((fun xs => xs.length ≤ maxLen ∧ xs.length * 96 ≤ 140737488351232 ∧ ∀ x ∈ xs, J26 x) y.f2))
theorem opens42 : Opens Try.prog k42 42 J42 := opens_struct (fun x : S42 => (x.f0, x.f1, x.f2)) (fun p => ⟨p.1, p.2.1, p.2.2⟩) (fun _ => rfl) Try.underlying42 (by kernel_rfl) (opF_cons rfl rfl (opens_int Try.underlying3) (by kernel_rfl) (opF_cons rfl rfl (opens_int Try.underlying3) (by kernel_rfl) (opF_one rfl rfl (opens_slice Try.underlying40 opens26 (by kernel_rfl) (by kernel_rfl)) (by kernel_rfl))))
end Go.Proofs.Ytnmmkgagbfniiaa.A
end
section
/- Plain facts on the bit operations that the encodings use: no condition beyond the bounds that each fact names. -/
namespace Go.Proofs.Ytnmmkgagbfniiaa.Pl
open Go.RowKit Go.Proofs.YtnmmkgagbfniiaaW.PrintWords Go.Proofs.YtnmmkgagbfniiaaW.PrintMore

theorem wrap64_id {x : Int} (h0 : -9223372036854775808 ≤ x) (h1 : x < 9223372036854775808) : wrap64 x = x := by unfold wrap64; omega
theorem u64_wrap (x : Int) : IntKind.u64.wrap x = x % 18446744073709551616 := IntKind.wrap_u64 x
theorem i64_bounds {a : Int} (h : (Lit.int .i64 a).wf = true) : -9223372036854775808 ≤ a ∧ a < 9223372036854775808 := by
  simp [Lit.wf, IntKind.min, IntKind.max, IntKind.signed, IntKind.bits] at h
  omega
theorem u8_bounds {a : Int} (h : (Lit.int .u8 a).wf = true) : 0 ≤ a ∧ a < 256 := by
  simp [Lit.wf, IntKind.min, IntKind.max, IntKind.signed, IntKind.bits] at h
  omega
theorem nat_xor_ones (x : Nat) (h : x < 18446744073709551616) : x ^^^ 18446744073709551615 = 18446744073709551615 - x := by
  have h1 := congrArg BitVec.toNat (BitVec.xor_allOnes (x := BitVec.ofNat 64 x))
  rw [BitVec.toNat_xor, BitVec.toNat_not, BitVec.toNat_allOnes, BitVec.toNat_ofNat, Nat.mod_eq_of_lt (by omega)] at h1
  simpa using h1
/-- ^x of a uint64. -/
theorem u64_not (x : Int) (h0 : 0 ≤ x) (h1 : x < 18446744073709551616) : bits .xor .u64 18446744073709551615 x = 18446744073709551615 - x := by
  rw [u64_xor _ _ (by omega) (by omega) h0 h1, Nat.xor_comm]
  have := nat_xor_ones x.toNat (by omega)
  simp only [Int.reduceToNat]
  omega
theorem u64_xor_zero (x : Int) (h0 : 0 ≤ x) (h1 : x < 18446744073709551616) : bits .xor .u64 x 0 = x := by
  rw [u64_xor _ _ h0 h1 (by omega) (by omega)]
  simp
  omega
/-- The number that stands for n. -/
def zz (a : Int) : Int := if 0 ≤ a then 2 * a else -2 * a - 1
theorem zz_range {a : Int} (h0 : -9223372036854775808 ≤ a) (h1 : a < 9223372036854775808) : 0 ≤ zz a ∧ zz a < 18446744073709551616 := by unfold zz; split <;> omega
theorem zz_impl {a : Int} (h0 : -9223372036854775808 ≤ a) (h1 : a < 9223372036854775808) :
    bits .xor .u64 (IntKind.u64.wrap ((IntKind.u64.wrap a) * 2)) (IntKind.u64.wrap (a / 9223372036854775808)) = zz a := by
  simp only [u64_wrap]
  by_cases h : 0 ≤ a
  · rw [show a / 9223372036854775808 = 0 by omega, show (0 : Int) % 18446744073709551616 = 0 by omega, u64_xor_zero _ (by omega) (by omega)]
    unfold zz
    rw [if_pos h]
    omega
  · rw [show a / 9223372036854775808 = -1 by omega, show (-1 : Int) % 18446744073709551616 = 18446744073709551615 by omega]
    rw [u64_xor _ _ (by omega) (by omega) (by omega) (by omega)]
    have := nat_xor_ones (a % 18446744073709551616 * 2 % 18446744073709551616).toNat (by omega)
    simp only [Int.reduceToNat]
    rw [this]
    unfold zz
    rw [if_neg h]
    omega
theorem zz_ref_neg {a : Int} (h0 : -9223372036854775808 ≤ a) (h : a < 0) : bits .xor .u64 18446744073709551615 (IntKind.u64.wrap ((IntKind.u64.wrap a) * 2)) = zz a := by
  simp only [u64_wrap]
  rw [u64_not _ (by omega) (by omega)]
  unfold zz
  rw [if_neg (by omega)]
  omega
theorem zz_ref_pos {a : Int} (h : 0 ≤ a) (h1 : a < 9223372036854775808) : IntKind.u64.wrap ((IntKind.u64.wrap a) * 2) = zz a := by
  simp only [u64_wrap]
  unfold zz
  rw [if_pos h]
  omega
theorem nat_or128 : ∀ n < 256, n ||| 128 = n % 128 + 128 := by decide +kernel
theorem u8_or128' (x : Int) : bits .or .u8 (x % 256) 128 = x % 128 + 128 := by
  rw [u8_or _ _ (by omega) (by omega) (by omega) (by omega)]
  have := nat_or128 (x % 256).toNat (by omega)
  simp only [Int.reduceToNat]
  rw [this]
  omega
theorem u8_and127 (x : Int) (h : 0 ≤ x) (h1 : x < 256) : bits .and .u8 x 127 = x % 128 := by
  rw [u8_and _ _ h h1 (by omega) (by omega)]
  have := nat_mask7 x.toNat
  simp only [Int.reduceToNat]
  rw [this]
  omega
theorem u64_and1 (x : Int) (h : 0 ≤ x) (h1 : x < 18446744073709551616) : bits .and .u64 x 1 = x % 2 := by
  rw [u64_and _ _ h h1 (by omega) (by omega)]
  have := nat_mask1 x.toNat
  simp only [Int.reduceToNat]
  rw [this]
  omega
/-- Seven bits more, ahead of those that are there. -/
theorem u64_join (u x : Int) (i : Nat) (h0 : 0 ≤ u) (h1 : u < 2 ^ i) (h2 : 0 ≤ x) (h3 : x * 2 ^ i < 18446744073709551616) (hi : i < 64) : bits .or .u64 u (x * 2 ^ i) = u + x * 2 ^ i := by
  obtain ⟨a, rfl⟩ := Int.eq_ofNat_of_zero_le h0
  obtain ⟨b, rfl⟩ := Int.eq_ofNat_of_zero_le h2
  have e : ((b : Int) * 2 ^ i) = ((b * 2 ^ i : Nat) : Int) := by simp
  have ha : a < 2 ^ i := by exact_mod_cast h1
  have hp : 2 ^ i ≤ 2 ^ 63 := Nat.pow_le_pow_right (by decide) (by omega)
  rw [e] at h3 ⊢
  rw [u64_or_nat _ _ (by omega) (by omega), Nat.or_comm, nat_join i _ _ (by simp) ha]
  omega
theorem ofInt_neg1 : BitVec.ofInt 64 (-1) = BitVec.allOnes 64 := by decide +kernel
theorem i64_xor_ones (x : Int) (h0 : 0 ≤ x) (h1 : x < 9223372036854775808) : bits .xor .i64 (-1) x = -x - 1 ∧ bits .xor .i64 x (-1) = -x - 1 := by
  obtain ⟨a, rfl⟩ := Int.eq_ofNat_of_zero_le h0
  have h2 : (BitVec.ofInt 64 (a : Int)).toNat = a := by rw [BitVec.ofInt_natCast, BitVec.toNat_ofNat]; exact Nat.mod_eq_of_lt (by omega)
  have h3 := nat_xor_ones a (by omega)
  constructor
  · show IntKind.i64.wrap ((BitVec.ofInt 64 (-1) ^^^ BitVec.ofInt 64 (a : Int)).toNat : Int) = _
    rw [BitVec.toNat_xor, h2, ofInt_neg1, BitVec.toNat_allOnes, Nat.xor_comm, show (2 ^ 64 - 1 : Nat) = 18446744073709551615 from rfl, h3, IntKind.wrap_i64]
    omega
  · show IntKind.i64.wrap ((BitVec.ofInt 64 (a : Int) ^^^ BitVec.ofInt 64 (-1)).toNat : Int) = _
    rw [BitVec.toNat_xor, h2, ofInt_neg1, BitVec.toNat_allOnes, show (2 ^ 64 - 1 : Nat) = 18446744073709551615 from rfl, h3, IntKind.wrap_i64]
    omega
theorem i64_xor_zero (x : Int) (h0 : 0 ≤ x) (h1 : x < 9223372036854775808) : bits .xor .i64 x 0 = x := by
  obtain ⟨a, rfl⟩ := Int.eq_ofNat_of_zero_le h0
  have h2 : (BitVec.ofInt 64 (a : Int)).toNat = a := by rw [BitVec.ofInt_natCast, BitVec.toNat_ofNat]; exact Nat.mod_eq_of_lt (by omega)
  show IntKind.i64.wrap ((BitVec.ofInt 64 (a : Int) ^^^ BitVec.ofInt 64 0).toNat : Int) = _
  rw [BitVec.toNat_xor, h2, show (BitVec.ofInt 64 0).toNat = 0 from rfl, Nat.xor_zero, IntKind.wrap_i64]
  omega
/-- The integer that a number stands for. -/
def unzz (u : Int) : Int := if u % 2 = 1 then -(u / 2) - 1 else u / 2
theorem unzz_zz (a : Int) : unzz (zz a) = a := by unfold unzz zz; split <;> split <;> omega
theorem zz_unzz {u : Int} (h : 0 ≤ u) : zz (unzz u) = u := by unfold unzz zz; split <;> split <;> omega
theorem unzz_range {u : Int} (h0 : 0 ≤ u) (h1 : u < 18446744073709551616) : -9223372036854775808 ≤ unzz u ∧ unzz u < 9223372036854775808 := by unfold unzz; split <;> omega
theorem unzz_impl {u : Int} (h0 : 0 ≤ u) (h1 : u < 18446744073709551616) : bits .xor .i64 (wrap64 (u / 2)) (wrap64 (-(wrap64 (bits .and .u64 u 1)))) = unzz u := by
  rw [u64_and1 u h0 h1, wrap64_id (x := u / 2) (by omega) (by omega), wrap64_id (x := u % 2) (by omega) (by omega), wrap64_id (x := -(u % 2)) (by omega) (by omega)]
  unfold unzz
  by_cases h : u % 2 = 1
  · rw [if_pos h, h]
    exact (i64_xor_ones _ (by omega) (by omega)).2
  · rw [if_neg h, show u % 2 = 0 by omega]
    exact i64_xor_zero _ (by omega) (by omega)
end Go.Proofs.Ytnmmkgagbfniiaa.Pl
end
section
/- Integers and their bytes, in plain Lean: what is put, and what is read. No condition beyond the bounds that each fact names. -/
namespace Go.Proofs.Ytnmmkgagbfniiaa.Pl
open Go.RowKit Go.Proofs.YtnmmkgagbfniiaaW.PrintWords Go.Proofs.YtnmmkgagbfniiaaW.PrintMore
set_option linter.unusedVariables false

/-- The bytes of a number. -/
def encN (u : Nat) : List Int := if u < 128 then [(u : Int)] else ((u % 128 + 128 : Nat) : Int) :: encN (u / 128)
  termination_by u
  decreasing_by omega
def enc (a : Int) : List Int := encN (zz a).toNat
theorem encN_small {u : Nat} (h : u < 128) : encN u = [(u : Int)] := by rw [encN, if_pos h]
theorem encN_big {u : Nat} (h : ¬ u < 128) : encN u = ((u % 128 + 128 : Nat) : Int) :: encN (u / 128) := by rw [encN, if_neg h]
theorem encN_pos (u : Nat) : 0 < (encN u).length := by
  by_cases h : u < 128
  · rw [encN_small h]; simp
  · rw [encN_big h]; simp
theorem encN_le : ∀ (n u : Nat), u < 128 ^ (n + 1) → (encN u).length ≤ n + 1 := by
  intro n
  induction n with
  | zero => intro u h; rw [encN_small (by simpa using h)]; simp
  | succ n ih =>
    intro u h
    by_cases hs : u < 128
    · rw [encN_small hs]; simp
    · rw [encN_big hs, List.length_cons]
      have := ih (u / 128) (by rw [Nat.div_lt_iff_lt_mul (by omega)]; rw [Nat.pow_succ] at h; exact h)
      omega
theorem encN_ge : ∀ (n u : Nat), 128 ^ n ≤ u → n + 1 ≤ (encN u).length := by
  intro n
  induction n with
  | zero => intro u _; exact encN_pos u
  | succ n ih =>
    intro u h
    have h1 : 128 ≤ u := by
      have : 0 < 128 ^ n := Nat.pow_pos (by omega)
      rw [Nat.pow_succ] at h
      omega
    rw [encN_big (by omega), List.length_cons]
    have := ih (u / 128) (by rw [Nat.le_div_iff_mul_le (by omega)]; rw [Nat.pow_succ] at h; exact h)
    omega
theorem encN_len10 {u : Nat} (h : u < 18446744073709551616) : (encN u).length ≤ 10 := encN_le 9 u (by omega)
theorem enc_len {a : Int} (h0 : -9223372036854775808 ≤ a) (h1 : a < 9223372036854775808) : 0 < (enc a).length ∧ (enc a).length ≤ 10 := by
  have := zz_range h0 h1
  exact ⟨encN_pos _, encN_len10 (by omega)⟩
theorem encN_bytes : ∀ (u : Nat), ∀ x ∈ encN u, 0 ≤ x ∧ x < 256 := by
  intro u
  induction u using Nat.strongRecOn with
  | _ u ih =>
    by_cases h : u < 128
    · rw [encN_small h]
      intro x hx
      rw [List.mem_singleton] at hx
      omega
    · rw [encN_big h]
      intro x hx
      rcases List.mem_cons.1 hx with rfl | hx
      · omega
      · exact ih _ (by omega) x hx
theorem enc_bytes (a : Int) : ∀ x ∈ enc a, 0 ≤ x ∧ x < 256 := encN_bytes _

/-- What Int answers of the bytes l, d rounds being left, u what was read so far. -/
def dec : Nat → Int → List Int → Int × Int × Int
  | 0, _, _ => (0, 0, 11)
  | _ + 1, _, [] => (0, 0, 9)
  | d + 1, u, c :: t => if 128 ≤ c then dec d (u + (c % 128) * 2 ^ (7 * (9 - d))) t
    else if d = 0 ∧ 1 < c ∨ d < 9 ∧ c = 0 then (0, 0, 11) else (unzz (u + c * 2 ^ (7 * (9 - d))), 10 - (d : Int), 0)
/-- What is put is read again, whatever follows. -/
theorem dec_encN : ∀ (d : Nat) (u v : Nat) (more : List Int), d < 10 → v < 128 ^ (d + 1) → (d = 9 ∨ v ≠ 0) → u + v * 2 ^ (7 * (9 - d)) < 18446744073709551616 →
    dec (d + 1) (u : Int) (encN v ++ more) = (unzz ((u + v * 2 ^ (7 * (9 - d)) : Nat) : Int), 9 - (d : Int) + ((encN v).length : Int), 0) := by
  intro d
  induction d with
  | zero =>
    intro u v more _ hv hz hb
    have hv1 : v < 128 := by simpa using hv
    rw [encN_small hv1]
    have : v ≤ 1 := by
      simp at hb
      omega
    simp only [List.cons_append, List.nil_append, dec]
    rw [if_neg (by omega), if_neg (by omega)]
    simp
  | succ d ih =>
    intro u v more hd hv hz hb
    by_cases hs : v < 128
    · rw [encN_small hs]
      simp only [List.cons_append, List.nil_append, dec]
      rw [if_neg (by omega), if_neg (by omega)]
      simp
      omega
    · rw [encN_big hs]
      simp only [List.cons_append, dec]
      rw [if_pos (by omega)]
      have e1 : 7 * (9 - d) = 7 * (9 - (d + 1)) + 7 := by omega
      have e2 : v % 128 * 2 ^ (7 * (9 - (d + 1))) + v / 128 * 2 ^ (7 * (9 - d)) = v * 2 ^ (7 * (9 - (d + 1))) := by
        rw [e1, Nat.pow_add, ← Nat.mul_assoc, Nat.mul_comm (v / 128) _, Nat.mul_assoc, Nat.mul_comm (2 ^ (7 * (9 - (d + 1)))) , ← Nat.add_mul]
        congr 1
        omega
      have e3 : ((u : Int) + (((v % 128 + 128 : Nat) : Int) % 128) * 2 ^ (7 * (9 - (d + 1)))) = ((u + v % 128 * 2 ^ (7 * (9 - (d + 1))) : Nat) : Int) := by
        rw [show (((v % 128 + 128 : Nat) : Int) % 128) = ((v % 128 : Nat) : Int) by omega]
        simp
      rw [e3, ih _ (v / 128) more (by omega) (by rw [Nat.div_lt_iff_lt_mul (by omega)]; rw [Nat.pow_succ] at hv; exact hv) (.inr (by omega)) (by omega)]
      rw [Nat.add_assoc, e2, List.length_cons]
      simp
      omega
theorem dec_enc {a : Int} (h0 : -9223372036854775808 ≤ a) (h1 : a < 9223372036854775808) (more : List Int) : dec 10 0 (enc a ++ more) = (a, ((enc a).length : Int), 0) := by
  have hz := zz_range h0 h1
  have := dec_encN 9 0 (zz a).toNat more (by omega) (by omega) (.inl rfl) (by simp; omega)
  unfold enc
  rw [show ((0 : Nat) : Int) = (0 : Int) from rfl] at this
  rw [this]
  simp
  rw [show (max (zz a) 0) = zz a by omega, unzz_zz]
/-- What is read was put so. -/
theorem dec_sound : ∀ (d : Nat) (u : Nat) (l : List Int) (n s : Int), d < 10 → (∀ x ∈ l, 0 ≤ x ∧ x < 256) → u < 2 ^ (7 * (9 - d)) → dec (d + 1) (u : Int) l = (n, s, 0) →
    ∃ (v : Nat) (rest : List Int), l = encN v ++ rest ∧ (d = 9 ∨ v ≠ 0) ∧ u + v * 2 ^ (7 * (9 - d)) < 18446744073709551616 ∧ n = unzz ((u + v * 2 ^ (7 * (9 - d)) : Nat) : Int) ∧ s = 9 - (d : Int) + ((encN v).length : Int) := by
  intro d
  induction d with
  | zero =>
    intro u l n s _ hl hu h
    cases l with
    | nil => simp [dec] at h
    | cons c t =>
      have hc := hl c List.mem_cons_self
      simp only [dec] at h
      split at h
      · simp at h
      · split at h
        · simp at h
        · rename_i h1 h2
          simp only [Prod.mk.injEq, and_true] at h
          obtain ⟨rfl, rfl⟩ := h
          obtain ⟨b, rfl⟩ := Int.eq_ofNat_of_zero_le hc.1
          refine ⟨b, t, by rw [encN_small (by omega)]; simp, ?_⟩
          rw [encN_small (by omega)]
          simp at hu h2 ⊢
          omega
  | succ d ih =>
    intro u l n s hd hl hu h
    cases l with
    | nil => simp [dec] at h
    | cons c t =>
      have hc := hl c List.mem_cons_self
      obtain ⟨b, rfl⟩ := Int.eq_ofNat_of_zero_le hc.1
      simp only [dec] at h
      have e1 : 7 * (9 - d) = 7 * (9 - (d + 1)) + 7 := by omega
      split at h
      · rename_i h1
        have e3 : ((u : Int) + ((b : Int) % 128) * 2 ^ (7 * (9 - (d + 1)))) = ((u + b % 128 * 2 ^ (7 * (9 - (d + 1))) : Nat) : Int) := by
          simp
        rw [e3] at h
        have hu2 : u + b % 128 * 2 ^ (7 * (9 - (d + 1))) < 2 ^ (7 * (9 - d)) := by
          rw [e1, Nat.pow_add]
          have : b % 128 * 2 ^ (7 * (9 - (d + 1))) ≤ 127 * 2 ^ (7 * (9 - (d + 1))) := Nat.mul_le_mul_right _ (by omega)
          omega
        obtain ⟨v, rest, rfl, hz, hb, rfl, rfl⟩ := ih _ t n s (by omega) (fun x hx => hl x (List.mem_cons_of_mem _ hx)) hu2 h
        have hv0 : v ≠ 0 := by omega
        have e2 : b % 128 * 2 ^ (7 * (9 - (d + 1))) + v * 2 ^ (7 * (9 - d)) = (b % 128 + v * 128) * 2 ^ (7 * (9 - (d + 1))) := by
          rw [e1, Nat.pow_add, Nat.add_mul]
          congr 1
          rw [Nat.mul_assoc, Nat.mul_comm 128]
        refine ⟨b % 128 + v * 128, rest, ?_, .inr (by omega), ?_, ?_, ?_⟩
        · rw [encN_big (u := b % 128 + v * 128) (by omega), show (b % 128 + v * 128) / 128 = v by omega, show (b % 128 + v * 128) % 128 + 128 = b by omega]
          rfl
        · rw [← e2]; omega
        · rw [← e2, Nat.add_assoc]
        · rw [encN_big (u := b % 128 + v * 128) (by omega), show (b % 128 + v * 128) / 128 = v by omega, List.length_cons]
          omega
      · split at h
        · simp at h
        · rename_i h1 h2
          simp only [Prod.mk.injEq, and_true] at h
          obtain ⟨rfl, rfl⟩ := h
          refine ⟨b, t, by rw [encN_small (by omega)]; simp, by omega, ?_, by simp, ?_⟩
          · have hb' : b ≤ 127 := by omega
            have hb : b * 2 ^ (7 * (9 - (d + 1))) ≤ 127 * 2 ^ (7 * (9 - (d + 1))) := Nat.mul_le_mul_right _ hb'
            have hp : 2 ^ (7 * (9 - (d + 1))) ≤ 2 ^ 56 := Nat.pow_le_pow_right (by omega) (by omega)
            generalize 2 ^ (7 * (9 - (d + 1))) = q at hb hp hu ⊢
            generalize b * q = bq at hb ⊢
            omega
          · rw [encN_small (by omega)]
            simp
            omega
theorem dec_once {l : List Int} {n s : Int} (hl : ∀ x ∈ l, 0 ≤ x ∧ x < 256) (h : dec 10 0 l = (n, s, 0)) :
    -9223372036854775808 ≤ n ∧ n < 9223372036854775808 ∧ ∃ rest, l = enc n ++ rest ∧ s = ((enc n).length : Int) := by
  obtain ⟨v, rest, rfl, _, hb, rfl, rfl⟩ := dec_sound 9 0 l n s (by omega) hl (by simp) h
  simp only [Nat.sub_self, Nat.mul_zero, Nat.pow_zero, Nat.mul_one, Nat.zero_add] at hb ⊢
  have hr := unzz_range (u := (v : Int)) (by omega) (by omega)
  refine ⟨hr.1, hr.2, rest, ?_, ?_⟩
  · unfold enc
    rw [zz_unzz (by omega)]
    rfl
  · unfold enc
    rw [zz_unzz (by omega)]
    simp
/-- With an error the numbers are zero; the error is one of three. -/
theorem dec_bad : ∀ (d : Nat) (u : Int) (l : List Int) (n s e : Int), dec d u l = (n, s, e) → e = 0 ∨ (n = 0 ∧ s = 0 ∧ (e = 9 ∨ e = 11)) := by
  intro d
  induction d with
  | zero => intro u l n s e h; simp [dec] at h; omega
  | succ d ih =>
    intro u l n s e h
    cases l with
    | nil => simp [dec] at h; omega
    | cons c t =>
      simp only [dec] at h
      split at h
      · exact ih _ _ _ _ _ h
      · split at h
        · simp at h; omega
        · simp at h; omega
/-- Of a cut encoding nothing is read. -/
theorem dec_cut : ∀ (d : Nat) (u v : Nat) (m : Nat), d < 10 → v < 128 ^ (d + 1) → (d = 9 ∨ v ≠ 0) → m < (encN v).length → dec (d + 1) (u : Int) ((encN v).take m) = (0, 0, 9) := by
  intro d
  induction d with
  | zero =>
    intro u v m _ hv hz hm
    have hv1 : v < 128 := by simpa using hv
    rw [encN_small hv1] at hm ⊢
    simp at hm
    subst hm
    rfl
  | succ d ih =>
    intro u v m hd hv hz hm
    by_cases hs : v < 128
    · rw [encN_small hs] at hm ⊢
      simp at hm
      subst hm
      rfl
    · rw [encN_big hs] at hm ⊢
      cases m with
      | zero => rfl
      | succ m =>
        simp only [List.take_succ_cons, dec]
        rw [if_pos (by omega)]
        have e3 : ((u : Int) + (((v % 128 + 128 : Nat) : Int) % 128) * 2 ^ (7 * (9 - (d + 1)))) = ((u + v % 128 * 2 ^ (7 * (9 - (d + 1))) : Nat) : Int) := by
          rw [show (((v % 128 + 128 : Nat) : Int) % 128) = ((v % 128 : Nat) : Int) by omega]
          simp
        rw [e3]
        exact ih _ _ m (by omega) (by rw [Nat.div_lt_iff_lt_mul (by omega)]; rw [Nat.pow_succ] at hv; exact hv) (.inr (by omega)) (by simpa using hm)
theorem dec_enc_cut {a : Int} (h0 : -9223372036854775808 ≤ a) (h1 : a < 9223372036854775808) (m : Nat) (hm : m < (enc a).length) : dec 10 0 ((enc a).take m) = (0, 0, 9) := by
  have hz := zz_range h0 h1
  exact dec_cut 9 0 (zz a).toNat m (by omega) (by omega) (.inl rfl) hm
end Go.Proofs.Ytnmmkgagbfniiaa.Pl
end
section
/- What the integer functions of the program and of its reference compute, out of their printed forms: PutInt, Int, SameBytes. -/
namespace Go.Proofs.Ytnmmkgagbfniiaa.Pl
open Go.RowKit Go.Proofs.YtnmmkgagbfniiaaW.PrintWords Go.Proofs.YtnmmkgagbfniiaaW.PrintMore Go.Proofs.Ytnmmkgagbfniiaa.A
set_option linter.unusedVariables false

theorem appendInt_ev : ∀ (u : Nat) (x : List Int), x.length + (encN u).length ≤ 140737488355328 → Ev (fun k => event_appendInt.l0 k x (u : Int)) (x ++ encN u) := by
  intro u
  induction u using Nat.strongRecOn with
  | _ u ih =>
    intro x hx
    by_cases h : u < 128
    · rw [encN_small h] at hx ⊢
      refine Ev.step (f := fun _ => some (x ++ [(u : Int)])) (fun k => ?_) (Ev.now _)
      simp only [List.length_singleton] at hx
      simp only [event_appendInt.l0]
      rw [if_neg (by omega), if_pos (by omega), show (u : Int) % 256 = u by omega]
    · rw [encN_big h] at hx ⊢
      simp only [List.length_cons] at hx
      refine Ev.step (f := fun k => event_appendInt.l0 k (x ++ [((u % 128 + 128 : Nat) : Int)]) ((u / 128 : Nat) : Int)) (fun k => ?_) ?_
      · simp only [event_appendInt.l0]
        rw [if_pos (by omega), if_pos (by omega), u8_or128', show (u : Int) % 128 + 128 = ((u % 128 + 128 : Nat) : Int) by omega, show (u : Int) / 128 = ((u / 128 : Nat) : Int) by omega]
      · have := ih (u / 128) (by omega) (x ++ [((u % 128 + 128 : Nat) : Int)]) (by rw [List.length_append, List.length_singleton]; omega)
        simpa using this
theorem appendInt_f {a : Int} (h0 : -9223372036854775808 ≤ a) (h1 : a < 9223372036854775808) (x : List Int) (hx : x.length ≤ 140737488355318) : Ev (fun k => event_appendInt.f k x a) (x ++ enc a) := by
  have hz := zz_range h0 h1
  have hl := enc_len h0 h1
  have := appendInt_ev (zz a).toNat x (by unfold enc at hl; omega)
  refine Ev.congr (fun k => ?_) this
  unfold event_appendInt.f
  rw [zz_impl h0 h1, show ((zz a).toNat : Int) = zz a by omega]
theorem putInt_f {a : Int} (h0 : -9223372036854775808 ≤ a) (h1 : a < 9223372036854775808) (x : List Int) (hx : x.length ≤ 140737488355318) : Ev (fun k => event_PutInt.f k x a) (x ++ enc a) := appendInt_f h0 h1 x hx

theorem refPutInt_ev : ∀ (u : Nat) (x : List Int), x.length + (encN u).length ≤ 140737488355328 → Ev (fun k => interleaveref11_PutInt.l0 k (u : Int) x) (x ++ encN u) := by
  intro u
  induction u using Nat.strongRecOn with
  | _ u ih =>
    intro x hx
    by_cases h : u < 128
    · rw [encN_small h] at hx ⊢
      refine Ev.step (f := fun _ => some (x ++ [(u : Int)])) (fun k => ?_) (Ev.now _)
      simp only [List.length_singleton] at hx
      simp only [interleaveref11_PutInt.l0]
      rw [if_neg (by omega), if_pos (by omega), show (u : Int) % 256 = u by omega]
    · rw [encN_big h] at hx ⊢
      simp only [List.length_cons] at hx
      refine Ev.step (f := fun k => interleaveref11_PutInt.l0 k ((u / 128 : Nat) : Int) (x ++ [((u % 128 + 128 : Nat) : Int)])) (fun k => ?_) ?_
      · simp only [interleaveref11_PutInt.l0]
        rw [if_pos (by omega), if_pos (by omega), u8_or128', show (u : Int) % 128 + 128 = ((u % 128 + 128 : Nat) : Int) by omega, show (u : Int) / 128 = ((u / 128 : Nat) : Int) by omega]
      · have := ih (u / 128) (by omega) (x ++ [((u % 128 + 128 : Nat) : Int)]) (by rw [List.length_append, List.length_singleton]; omega)
        simpa using this
theorem refPutInt_f {a : Int} (h0 : -9223372036854775808 ≤ a) (h1 : a < 9223372036854775808) (x : List Int) (hx : x.length ≤ 140737488355318) : Ev (fun k => interleaveref11_PutInt.f k x a) (x ++ enc a) := by
  have hz := zz_range h0 h1
  have hl := enc_len h0 h1
  have := refPutInt_ev (zz a).toNat x (by unfold enc at hl; omega)
  rw [show ((zz a).toNat : Int) = zz a by omega] at this
  refine Ev.step (f := fun k => interleaveref11_PutInt.l0 k (zz a) x) (fun k => ?_) this
  unfold interleaveref11_PutInt.f
  by_cases h : a < 0
  · rw [if_pos h, zz_ref_neg h0 h]
    simp only [interleaveref11_PutInt.j0, Option.bind_some, List.nil_append, List.length_nil]
    rw [if_pos (by omega)]
  · rw [if_neg h, zz_ref_pos (by omega) h1]
    simp only [interleaveref11_PutInt.j0, Option.bind_some, List.nil_append, List.length_nil]
    rw [if_pos (by omega)]

/-- Two lists of bytes are compared. -/
theorem same_loop (x y : List Int) (hl : x.length = y.length) (hm : x.length ≤ 140737488355328) : ∀ (d i : Nat), i + d = x.length → Ev (fun k => interleaveref11_SameBytes.l0 k x y (i : Int)) (decide (x.drop i = y.drop i)) := by
  intro d
  induction d with
  | zero =>
    intro i hi
    refine Ev.step (f := fun _ => some _) (fun k => ?_) (Ev.now _)
    simp only [interleaveref11_SameBytes.l0]
    rw [if_neg (by omega), List.drop_of_length_le (by omega), List.drop_of_length_le (by omega)]
    simp
  | succ d ih =>
    intro i hi
    have hx : i < x.length := by omega
    have hy : i < y.length := by omega
    have ex : rd x (i : Int) = x[i] := by simp [rd, List.getD_eq_getElem?_getD, List.getElem?_eq_getElem hx]
    have ey : rd y (i : Int) = y[i] := by simp [rd, List.getD_eq_getElem?_getD, List.getElem?_eq_getElem hy]
    rw [List.drop_eq_getElem_cons hx, List.drop_eq_getElem_cons hy]
    by_cases h : x[i] = y[i]
    · refine Ev.step (f := fun k => interleaveref11_SameBytes.l0 k x y ((i + 1 : Nat) : Int)) (fun k => ?_) ?_
      · simp only [interleaveref11_SameBytes.l0]
        rw [if_pos (by omega), if_pos (by omega), if_pos (by omega), ex, ey, if_pos h, wrap64_id (by omega) (by omega)]
        rfl
      · have := ih (i + 1) (by omega)
        rwa [show decide (x[i] :: x.drop (i + 1) = y[i] :: y.drop (i + 1)) = decide (x.drop (i + 1) = y.drop (i + 1)) from decide_eq_decide.mpr ⟨fun e => (List.cons.inj e).2, fun e => by rw [h, e]⟩]
    · rw [show decide (x[i] :: x.drop (i + 1) = y[i] :: y.drop (i + 1)) = false from decide_eq_false (fun e => h (List.cons.inj e).1)]
      refine Ev.step (f := fun _ => some _) (fun k => ?_) (Ev.now _)
      simp only [interleaveref11_SameBytes.l0]
      rw [if_pos (by omega), if_pos (by omega), if_pos (by omega), ex, ey, if_neg h]
theorem same_f (x y : List Int) (hm : x.length ≤ 140737488355328) : Ev (fun k => interleaveref11_SameBytes.f k x y) (decide (x = y)) := by
  by_cases hl : x.length = y.length
  · have := same_loop x y hl hm x.length 0 (by omega)
    simp only [List.drop_zero] at this
    refine Ev.congr (fun k => ?_) this
    unfold interleaveref11_SameBytes.f
    rw [if_pos (by omega)]
    rfl
  · refine ⟨0, fun k _ => ?_⟩
    show interleaveref11_SameBytes.f k x y = _
    unfold interleaveref11_SameBytes.f
    rw [if_neg (by omega)]
    have : x ≠ y := fun e => hl (by rw [e])
    simp [this]
theorem same_yes (x : List Int) (hm : x.length ≤ 140737488355328) : Ev (fun k => interleaveref11_SameBytes.f k x x) true := by simpa using same_f x x hm
theorem rd_at {x : List Int} {i : Nat} (h : i < x.length) : rd x (i : Int) = x[i] := by simp [rd, List.getD_eq_getElem?_getD, List.getElem?_eq_getElem h]
end Go.Proofs.Ytnmmkgagbfniiaa.Pl
end
section
/- What Pack computes, of the program and of the reference: 'pk'. -/
namespace Go.Proofs.Ytnmmkgagbfniiaa.Pl
open Go.RowKit Go.Proofs.YtnmmkgagbfniiaaW.PrintWords Go.Proofs.YtnmmkgagbfniiaaW.PrintMore Go.Proofs.Ytnmmkgagbfniiaa.A
set_option linter.unusedVariables false

/-- How far the bytes at i equal those d ahead of them. -/
def ml (b : List Int) (i d : Nat) : Nat → Nat → Nat
  | 0, n => n
  | m + 1, n => if i + n < b.length ∧ rd b ((i + n : Nat) : Int) = rd b ((i + n - d : Nat) : Int) then ml b i d m (n + 1) else n
def up (p : Nat × Nat) (r d : Nat) : Nat × Nat := if p.1 < r then (r, d) else p
/-- The longest copy at i, the least distance first. -/
def bs (b : List Int) (i : Nat) : Nat → Nat → Nat × Nat → Nat × Nat
  | 0, _, p => p
  | f + 1, d, p => bs b i f (d + 1) (up p (ml b i d 130 0) d)
def lg (b : List Int) (i : Nat) : Nat × Nat := bs b i (min i 255) 1 (0, 0)
theorem ml_zero (b : List Int) (i d n : Nat) : ml b i d 0 n = n := rfl
theorem ml_succ (b : List Int) (i d m n : Nat) : ml b i d (m + 1) n = if i + n < b.length ∧ rd b ((i + n : Nat) : Int) = rd b ((i + n - d : Nat) : Int) then ml b i d m (n + 1) else n := rfl
theorem bs_zero (b : List Int) (i d : Nat) (p : Nat × Nat) : bs b i 0 d p = p := rfl
theorem bs_succ (b : List Int) (i f d : Nat) (p : Nat × Nat) : bs b i (f + 1) d p = bs b i f (d + 1) (up p (ml b i d 130 0) d) := rfl
theorem up_def (p : Nat × Nat) (r d : Nat) : up p r d = if p.1 < r then (r, d) else p := rfl
theorem lg_def (b : List Int) (i : Nat) : lg b i = bs b i (min i 255) 1 (0, 0) := rfl
attribute [irreducible] ml up bs lg
theorem ml_le (b : List Int) (i d : Nat) : ∀ m n, n ≤ ml b i d m n ∧ ml b i d m n ≤ n + m ∧ (i + n ≤ b.length → i + ml b i d m n ≤ b.length) ∧ (∀ j, n ≤ j → j < ml b i d m n → rd b ((i + j : Nat) : Int) = rd b ((i + j - d : Nat) : Int)) := by
  intro m
  induction m with
  | zero => intro n; exact ⟨by simp [ml_zero], by simp [ml_zero], by simp [ml_zero], fun j h h1 => by rw [ml_zero] at h1; omega⟩
  | succ m ih =>
    intro n
    rw [ml_succ]
    by_cases h : i + n < b.length ∧ rd b ((i + n : Nat) : Int) = rd b ((i + n - d : Nat) : Int)
    · rw [if_pos h]
      obtain ⟨h1, h2, h3, h4⟩ := ih (n + 1)
      refine ⟨by omega, by omega, fun _ => h3 (by omega), fun j hj hj2 => ?_⟩
      by_cases e : j = n
      · subst e
        exact h.2
      · exact h4 j (by omega) hj2
    · rw [if_neg h]
      exact ⟨by omega, by omega, fun h => h, fun j h1 h2 => by omega⟩
/-- What a copy must be. -/
def Good (b : List Int) (i : Nat) (p : Nat × Nat) : Prop := p.1 = 0 ∨ (p.1 ≤ 130 ∧ i + p.1 ≤ b.length ∧ 1 ≤ p.2 ∧ p.2 ≤ 255 ∧ p.2 ≤ i ∧ ∀ j, j < p.1 → rd b ((i + j : Nat) : Int) = rd b ((i + j - p.2 : Nat) : Int))
theorem bs_good {b : List Int} {i : Nat} (hi : i ≤ b.length) : ∀ f d p, 1 ≤ d → d + f ≤ min i 255 + 1 → Good b i p → Good b i (bs b i f d p) := by
  intro f
  induction f with
  | zero => intro d p _ _ h; rw [bs_zero]; exact h
  | succ f ih =>
    intro d p h1 h2 h
    rw [bs_succ]
    refine ih (d + 1) _ (by omega) (by omega) ?_
    rw [up_def]
    split
    · obtain ⟨m1, m2, m3, m4⟩ := ml_le b i d 130 0
      exact .inr ⟨by simpa using m2, by simpa using m3 (by omega), h1, by show d ≤ 255; omega, by show d ≤ i; omega, fun j hj => m4 j (by omega) hj⟩
    · exact h
theorem lg_good {b : List Int} {i : Nat} (hi : i ≤ b.length) : Good b i (lg b i) := lg_def b i ▸ bs_good hi _ _ _ (by omega) (by omega) (.inl rfl)
section
variable (b : List Int) (hm : b.length ≤ 1000000000000) (i : Nat) (hi : i ≤ b.length)
include hm hi
theorem longest_in (p : Nat × Nat) (d : Nat) (h1 : 1 ≤ d) (hd : d ≤ i) {r : Int × Int} {R : Nat} (h : Ev (fun k => pack_longest.l0 k b (i : Int) ((up p R d).1 : Int) ((up p R d).2 : Int) ((d + 1 : Nat) : Int)) r) (hd2 : d ≤ 255) :
    ∀ m n, n + m = 130 → Aside0 (ml b i d m n = R) → Ev (fun k => pack_longest.l1 k b (i : Int) (p.1 : Int) (p.2 : Int) (d : Int) (n : Int)) r := by
  have ed : wrap64 ((d : Int) + 1) = ((d + 1 : Nat) : Int) := by rw [wrap64_id (by omega) (by omega)]; omega
  have fin : ∀ n : Nat, n = R → Ev (fun k => if (n : Int) > (p.1 : Int) then (pack_longest.l0 k b (i : Int) (n : Int) (d : Int) (wrap64 ((d : Int) + 1))) else (pack_longest.l0 k b (i : Int) (p.1 : Int) (p.2 : Int) (wrap64 ((d : Int) + 1)))) r := by
    intro n hn
    rw [ed]
    rw [← hn] at h
    rw [up_def] at h
    by_cases c : p.1 < n
    · rw [if_pos c] at h
      exact Ev.congr (fun k => by rw [if_pos (by omega)]) h
    · rw [if_neg c] at h
      exact Ev.congr (fun k => by rw [if_neg (by omega)]) h
  intro m
  induction m with
  | zero =>
    intro n hn e
    have e := e.out
    rw [ml_zero] at e
    refine Ev.step (fun k => ?_) (fin n e)
    simp only [pack_longest.l1]
    rw [if_neg (by omega)]
  | succ m ih =>
    intro n hn e
    have e1 : wrap64 ((i : Int) + (n : Int)) = ((i + n : Nat) : Int) := by rw [wrap64_id (by omega) (by omega)]; omega
    have e2 : wrap64 (((i + n : Nat) : Int) - (d : Int)) = ((i + n - d : Nat) : Int) := by rw [wrap64_id (by omega) (by omega)]; omega
    have e3 : wrap64 ((n : Int) + 1) = ((n + 1 : Nat) : Int) := by rw [wrap64_id (by omega) (by omega)]; omega
    have e' := Aside0.mk ((ml_succ b i d m n).symm.trans e.out)
    clear e
    by_cases c : i + n < b.length
    · by_cases c2 : rd b ((i + n : Nat) : Int) = rd b ((i + n - d : Nat) : Int)
      · have e := Aside0.mk ((if_pos ⟨c, c2⟩).symm.trans e'.out)
        refine Ev.step (fun k => ?_) (ih (n + 1) (by omega) e)
        simp only [pack_longest.l1]
        rw [if_pos (by omega), e1, if_pos (by omega), if_pos (by omega), e2, if_pos (by omega), if_pos (by omega), if_pos c2, e3]
      · have e := (if_neg (fun h => c2 h.2)).symm.trans e'.out
        refine Ev.step (fun k => ?_) (fin n e)
        simp only [pack_longest.l1]
        rw [if_pos (by omega), e1, if_pos (by omega), if_pos (by omega), e2, if_pos (by omega), if_pos (by omega), if_neg c2]
    · have e := (if_neg (fun h => c h.1)).symm.trans e'.out
      refine Ev.step (fun k => ?_) (fin n e)
      simp only [pack_longest.l1]
      rw [if_pos (by omega), e1, if_neg (by omega)]
theorem longest_out : ∀ f d p, 1 ≤ d → d + f = min i 255 + 1 → Ev (fun k => pack_longest.l0 k b (i : Int) ((p : Nat × Nat).1 : Int) (p.2 : Int) ((d : Nat) : Int)) (((bs b i f d p).1 : Int), ((bs b i f d p).2 : Int)) := by
  have em : mn (i : Int) 255 = ((min i 255 : Nat) : Int) := by unfold mn; split <;> omega
  intro f
  induction f with
  | zero =>
    intro d p h1 h
    refine Ev.step (f := fun _ => some _) (fun k => ?_) (Ev.now _)
    simp only [pack_longest.l0, bs_zero]
    rw [em, if_neg (by omega)]
  | succ f ih =>
    intro d p h1 h
    rw [bs_succ]
    have := longest_in b hm i hi p d h1 (by omega) (ih (d + 1) (up p (ml b i d 130 0) d) (by omega) (by omega)) (by omega) 130 0 rfl ⟨rfl⟩
    refine Ev.step (fun k => ?_) this
    simp only [pack_longest.l0]
    rw [em, if_pos (by omega)]
    rfl
theorem longest_f : Ev (fun k => pack_longest.f k b (i : Int)) (((lg b i).1 : Int), ((lg b i).2 : Int)) := by
  rw [lg_def]
  exact longest_out b hm i hi (min i 255) 1 (0, 0) (by omega) (by omega)
theorem match_in (p : Nat × Nat) (d : Nat) (h1 : 1 ≤ d) (hd : d ≤ i) {r : Int × Int} {R : Nat} (h : Ev (fun k => interleaveref11_Match.l0 k b (i : Int) ((up p R d).1 : Int) ((up p R d).2 : Int) ((d + 1 : Nat) : Int)) r) (hd2 : d ≤ 255) :
    ∀ m n, n + m = 130 → Aside0 (ml b i d m n = R) → Ev (fun k => interleaveref11_Match.l1 k b (i : Int) (p.1 : Int) (p.2 : Int) (d : Int) (n : Int)) r := by
  have ed : wrap64 ((d : Int) + 1) = ((d + 1 : Nat) : Int) := by rw [wrap64_id (by omega) (by omega)]; omega
  have fin : ∀ n : Nat, n = R → Ev (fun k => if (n : Int) > (p.1 : Int) then (interleaveref11_Match.l0 k b (i : Int) (n : Int) (d : Int) (wrap64 ((d : Int) + 1))) else (interleaveref11_Match.l0 k b (i : Int) (p.1 : Int) (p.2 : Int) (wrap64 ((d : Int) + 1)))) r := by
    intro n hn
    rw [ed]
    rw [← hn] at h
    rw [up_def] at h
    by_cases c : p.1 < n
    · rw [if_pos c] at h
      exact Ev.congr (fun k => by rw [if_pos (by omega)]) h
    · rw [if_neg c] at h
      exact Ev.congr (fun k => by rw [if_neg (by omega)]) h
  intro m
  induction m with
  | zero =>
    intro n hn e
    have e := e.out
    rw [ml_zero] at e
    refine Ev.step (fun k => ?_) (fin n e)
    simp only [interleaveref11_Match.l1]
    rw [if_neg (by omega)]
  | succ m ih =>
    intro n hn e
    have e1 : wrap64 ((i : Int) + (n : Int)) = ((i + n : Nat) : Int) := by rw [wrap64_id (by omega) (by omega)]; omega
    have e2 : wrap64 (((i + n : Nat) : Int) - (d : Int)) = ((i + n - d : Nat) : Int) := by rw [wrap64_id (by omega) (by omega)]; omega
    have e3 : wrap64 ((n : Int) + 1) = ((n + 1 : Nat) : Int) := by rw [wrap64_id (by omega) (by omega)]; omega
    have e' := Aside0.mk ((ml_succ b i d m n).symm.trans e.out)
    clear e
    by_cases c : i + n < b.length
    · by_cases c2 : rd b ((i + n : Nat) : Int) = rd b ((i + n - d : Nat) : Int)
      · have e := Aside0.mk ((if_pos ⟨c, c2⟩).symm.trans e'.out)
        refine Ev.step (fun k => ?_) (ih (n + 1) (by omega) e)
        simp only [interleaveref11_Match.l1]
        rw [if_pos (by omega), e1, if_pos (by omega), if_pos (by omega), e2, if_pos (by omega), if_pos (by omega), if_pos c2, e3]
      · have e := (if_neg (fun h => c2 h.2)).symm.trans e'.out
        refine Ev.step (fun k => ?_) (fin n e)
        simp only [interleaveref11_Match.l1]
        rw [if_pos (by omega), e1, if_pos (by omega), if_pos (by omega), e2, if_pos (by omega), if_pos (by omega), if_neg c2]
    · have e := (if_neg (fun h => c h.1)).symm.trans e'.out
      refine Ev.step (fun k => ?_) (fin n e)
      simp only [interleaveref11_Match.l1]
      rw [if_pos (by omega), e1, if_neg (by omega)]
/-- What Match makes of it. -/
def mt (p : Nat × Nat) : Nat × Nat := if p.1 < 3 then (0, 0) else p
omit hm hi in
theorem match_end (p : Nat × Nat) (d : Int) : Ev (fun k => interleaveref11_Match.j1 k b (i : Int) (p.1 : Int) (p.2 : Int) d false) (((mt p).1 : Int), ((mt p).2 : Int)) := by
  refine Ev.step (f := fun _ => some _) (fun k => ?_) (Ev.now _)
  simp only [interleaveref11_Match.j1]
  rw [if_neg (by simp)]
  unfold mt
  by_cases c : p.1 < 3
  · rw [if_pos (by omega), if_pos c]
    rfl
  · rw [if_neg (by omega), if_neg c]
theorem match_out : ∀ f d p, 1 ≤ d → d + f = min i 255 + 1 → Ev (fun k => interleaveref11_Match.l0 k b (i : Int) ((p : Nat × Nat).1 : Int) (p.2 : Int) ((d : Nat) : Int)) (((mt (bs b i f d p)).1 : Int), ((mt (bs b i f d p)).2 : Int)) := by
  intro f
  induction f with
  | zero =>
    intro d p h1 h
    refine Ev.step (fun k => ?_) (by rw [bs_zero]; exact match_end b i p (d : Int))
    simp only [interleaveref11_Match.l0]
    by_cases c : (d : Int) ≤ 255
    · rw [if_pos c, show decide ((d : Int) ≤ (i : Int)) = false from decide_eq_false (by omega)]
    · rw [if_neg c]
  | succ f ih =>
    intro d p h1 h
    rw [bs_succ]
    have := match_in b hm i hi p d h1 (by omega) (ih (d + 1) (up p (ml b i d 130 0) d) (by omega) (by omega)) (by omega) 130 0 rfl ⟨rfl⟩
    refine Ev.step (f := fun k => interleaveref11_Match.j1 k b (i : Int) (p.1 : Int) (p.2 : Int) (d : Int) true) (fun k => ?_) (Ev.step (fun k => ?_) this)
    · simp only [interleaveref11_Match.l0]
      rw [if_pos (by omega), show decide ((d : Int) ≤ (i : Int)) = true from decide_eq_true (by omega)]
    · simp only [interleaveref11_Match.j1]
      rw [if_pos trivial]
      rfl
theorem match_f : Ev (fun k => interleaveref11_Match.f k b (i : Int)) (((mt (lg b i)).1 : Int), ((mt (lg b i)).2 : Int)) := by
  rw [lg_def]
  exact match_out b hm i hi (min i 255) 1 (0, 0) (by omega) (by omega)
end
end Go.Proofs.Ytnmmkgagbfniiaa.Pl
end
section
/- The packed stream 'pk': what both Pack functions return. -/
namespace Go.Proofs.Ytnmmkgagbfniiaa.Pl
open Go.RowKit Go.Proofs.YtnmmkgagbfniiaaW.PrintWords Go.Proofs.YtnmmkgagbfniiaaW.PrintMore Go.Proofs.Ytnmmkgagbfniiaa.A
set_option linter.unusedVariables false
/-- A literal item of the bytes from s to e, if there are any. -/
def lit (b : List Int) (s e : Nat) : List Int := if s < e then (((e - s - 1 : Nat) : Int)) :: (b.take e).drop s else []
def pk (b : List Int) : Nat → Nat → Nat → List Int
  | 0, _, _ => []
  | n + 1, i, s =>
    if i < b.length then
      (if (lg b i).1 < 3 then (if i + 1 - s = 128 then lit b s (i + 1) ++ pk b n (i + 1) (i + 1) else pk b n (i + 1) s)
      else lit b s i ++ ([((((lg b i).1 + 125 : Nat)) : Int), ((lg b i).2 : Int)] ++ pk b n (i + (lg b i).1) (i + (lg b i).1)))
    else lit b s b.length
def packS (b : List Int) : List Int := pk b (b.length + 1) 0 0
theorem lit_length {b : List Int} {s e : Nat} (he : e ≤ b.length) : (lit b s e).length = if s < e then e - s + 1 else 0 := by
  unfold lit
  split
  · rw [List.length_cons, List.length_drop, List.length_take]; omega
  · rfl
theorem lg_bounds {b : List Int} {i : Nat} (hi : i ≤ b.length) (h : ¬ (lg b i).1 < 3) : (lg b i).1 ≤ 130 ∧ i + (lg b i).1 ≤ b.length ∧ 1 ≤ (lg b i).2 ∧ (lg b i).2 ≤ 255 ∧ (lg b i).2 ≤ i := by
  rcases lg_good hi with h0 | ⟨h1, h2, h3, h4, h5, _⟩
  · omega
  · exact ⟨h1, h2, h3, h4, h5⟩
/-- A packed stream is at most one byte longer for each 128 bytes that were begun. -/
theorem pk_length (b : List Int) : ∀ n i s, s ≤ i → i ≤ b.length → i - s < 128 → b.length - i < n → (pk b n i s).length ≤ (b.length - s) + (b.length - s + 127) / 128 := by
  intro n
  induction n with
  | zero => intro i s _ _ _ h; omega
  | succ n ih =>
    intro i s hs hi hp hn
    rw [pk]
    by_cases c : i < b.length
    · rw [if_pos c]
      by_cases c1 : (lg b i).1 < 3
      · rw [if_pos c1]
        by_cases c2 : i + 1 - s = 128
        · rw [if_pos c2, List.length_append, lit_length (by omega), if_pos (by omega)]
          have := ih (i + 1) (i + 1) (by omega) (by omega) (by omega) (by omega)
          omega
        · rw [if_neg c2]
          have := ih (i + 1) s (by omega) (by omega) (by omega) (by omega)
          omega
      · rw [if_neg c1, List.length_append, List.length_append, lit_length (by omega)]
        obtain ⟨g1, g2, _⟩ := lg_bounds (by omega) c1
        have := ih (i + (lg b i).1) (i + (lg b i).1) (by omega) (by omega) (by omega) (by omega)
        simp only [List.length_cons, List.length_nil]
        generalize (lg b i).1 = l at *
        split <;> omega
    · rw [if_neg c, lit_length (by omega)]
      split <;> omega
theorem packS_length (b : List Int) : (packS b).length ≤ b.length + (b.length + 127) / 128 := by
  have := pk_length b (b.length + 1) 0 0 (by omega) (by omega) (by omega) (by omega)
  simpa [packS] using this
theorem flush_is {b out : List Int} {s e : Nat} (he : e ≤ b.length) (h1 : e - s ≤ 128) (hl : out.length + (lit b s e).length < 140737488355328) : pack_Pack.flush b out (s : Int) (e : Int) = some (out ++ lit b s e) := by
  rw [lit_length he] at hl
  unfold pack_Pack.flush lit
  by_cases c : s < e
  · rw [if_pos c] at hl
    rw [if_pos (by omega), if_pos (by omega), if_pos c]
    rw [show ((e : Int) - (s : Int) - 1) % 256 = ((e - s - 1 : Nat) : Int) by omega]
    simp
  · rw [if_neg (by omega), if_neg c, List.append_nil]
theorem ev_all {α : Type} {f : Nat → Nat → Option α} {r : Nat → α} : ∀ n, (∀ i, i < n → Ev (fun k => f k i) (r i)) → ∃ K, ∀ k, K ≤ k → ∀ i, i < n → f k i = some (r i) := by
  intro n
  induction n with
  | zero => intro _; exact ⟨0, fun k _ i h => by omega⟩
  | succ n ih =>
    intro h
    obtain ⟨K, hK⟩ := ih (fun i hi => h i (by omega))
    obtain ⟨K2, hK2⟩ := h n (by omega)
    refine ⟨max K K2, fun k hk i hi => ?_⟩
    by_cases e : i = n
    · subst e
      exact hK2 k (by omega)
    · exact hK k (by omega) i (by omega)
theorem go_is {b : List Int} {k : Nat} (hK : ∀ i, i < b.length → pack_longest.f k b (i : Int) = some (((lg b i).1 : Int), ((lg b i).2 : Int))) :
    ∀ n m i s out, s ≤ i → i ≤ b.length → i - s < 128 → b.length - i < n → n ≤ m → out.length + (pk b n i s).length + 3 < 140737488355328 →
      pack_Pack.go k b m (i : Int) (s : Int) out = some (out ++ pk b n i s) := by
  intro n
  induction n with
  | zero => intro m i s out _ _ _ h; omega
  | succ n ih =>
    intro m i s out hs hi hp hn hm hl
    obtain ⟨m, rfl⟩ : ∃ m', m = m' + 1 := ⟨m - 1, by omega⟩
    rw [pack_Pack.go]
    rw [pk] at hl ⊢
    by_cases c : i < b.length
    · rw [if_pos c] at hl ⊢
      rw [if_pos (by omega), hK i c, Option.bind_some]
      have e1 : (i : Int) + 1 = ((i + 1 : Nat) : Int) := by omega
      by_cases c1 : (lg b i).1 < 3
      · rw [if_pos c1] at hl ⊢
        rw [if_pos (by show ((lg b i).1 : Int) < 3; omega), e1]
        by_cases c2 : i + 1 - s = 128
        · rw [if_pos c2] at hl ⊢
          rw [List.length_append] at hl
          rw [if_pos (by omega), flush_is (by omega) (by omega) (by omega), Option.bind_some, ih m (i + 1) (i + 1) _ (by omega) (by omega) (by omega) (by omega) (by omega) (by rw [List.length_append]; omega), List.append_assoc]
        · rw [if_neg c2] at hl ⊢
          rw [if_neg (by omega)]
          exact ih m (i + 1) s out (by omega) (by omega) (by omega) (by omega) (by omega) (by omega)
      · rw [if_neg c1] at hl ⊢
        obtain ⟨g1, g2, _, g4, _⟩ := lg_bounds (by omega) c1
        rw [List.length_append, List.length_append] at hl
        simp only [List.length_cons, List.length_nil] at hl
        have e2 : (i : Int) + ((lg b i).1 : Int) = ((i + (lg b i).1 : Nat) : Int) := by omega
        have e3 : ((lg b i).1 : Int) - 3 + 128 = (((lg b i).1 + 125 : Nat) : Int) := by omega
        have e4 : ((lg b i).2 : Int) % 256 = ((lg b i).2 : Int) := by omega
        rw [if_neg (by show ¬ ((lg b i).1 : Int) < 3; omega), if_pos (by constructor <;> (show ((_ : Int) ≤ _); omega)), flush_is (by omega) (by omega) (by omega), Option.bind_some, if_pos (by rw [List.length_append]; omega)]
        show pack_Pack.go k b m ((i : Int) + ((lg b i).1 : Int)) ((i : Int) + ((lg b i).1 : Int)) (out ++ lit b s i ++ [((lg b i).1 : Int) - 3 + 128, ((lg b i).2 : Int) % 256]) = _
        rw [e2, e3, e4, ih m _ _ _ (by omega) (by omega) (by omega) (by omega) (by omega) (by rw [List.length_append, List.length_append]; simp only [List.length_cons, List.length_nil]; omega), List.append_assoc, List.append_assoc]
    · rw [if_neg c] at hl ⊢
      obtain rfl : i = b.length := by omega
      rw [if_neg (by omega), flush_is (by omega) (by omega) (by omega)]
theorem pack_f (b : List Int) (hm : b.length ≤ 1000000000000) : Ev (fun k => pack_Pack.f k b) (packS b) := by
  obtain ⟨K, hK⟩ := ev_all (f := fun k i => pack_longest.f k b (i : Int)) (r := fun i => (((lg b i).1 : Int), ((lg b i).2 : Int))) b.length (fun i hi => longest_f b hm i (by omega))
  refine ⟨max K (b.length + 1), fun k hk => ?_⟩
  have h1 := packS_length b
  have := go_is (hK k (by omega)) (b.length + 1) k 0 0 [] (by omega) (by omega) (by omega) (by omega) (by omega) (by simp only [List.length_nil]; unfold packS at h1; omega)
  exact this
theorem refLit_is {b out : List Int} {s e : Nat} (hs : s ≤ e) (he : e ≤ b.length) (h1 : e - s ≤ 128) (hl : out.length + (lit b s e).length < 140737488355328) : interleaveref11_literal.f out ((b.take e).drop s) = some (out ++ lit b s e) := by
  have hlen : ((b.take e).drop s).length = e - s := by rw [List.length_drop, List.length_take]; omega
  rw [lit_length he] at hl
  unfold interleaveref11_literal.f lit
  rw [hlen]
  by_cases c : s < e
  · rw [if_pos c] at hl
    rw [if_neg (by omega), if_pos (by omega), if_pos c, wrap64_id (by omega) (by omega)]
    show (if (out ++ [(((e - s : Nat) : Int) - 1) % 256]).length + (e - s) < 140737488355328 then _ else _) = _
    rw [if_pos (by simp; omega), show (((e - s : Nat) : Int) - 1) % 256 = ((e - s - 1 : Nat) : Int) by omega]
    simp
  · rw [if_pos (by omega), if_neg c, List.append_nil]
theorem take_snoc {b : List Int} {i s : Nat} (hi : i < b.length) (hs : s ≤ i) : (b.take i).drop s ++ [rd b (i : Int)] = (b.take (i + 1)).drop s := by
  rw [List.take_add_one, List.getElem?_eq_getElem hi, List.drop_append_of_le_length (by rw [List.length_take]; omega), rd_at hi]
  rfl
theorem wrap_add {i l : Nat} (h : i + l ≤ 1000000000000) : wrap64 ((i : Int) + (l : Int)) = ((i + l : Nat) : Int) := by rw [wrap64_id (by omega) (by omega)]; omega
theorem wrap_125 {l : Nat} (h : l ≤ 130) : wrap64 ((l : Int) + 125) % 256 = ((l + 125 : Nat) : Int) := by rw [wrap64_id (by omega) (by omega)]; omega
theorem mod_byte {d : Nat} (h : d ≤ 255) : (d : Int) % 256 = (d : Int) := by omega
theorem refPack_l0 {b : List Int} (hm : b.length ≤ 1000000000000) :
    ∀ n i s out, s ≤ i → i ≤ b.length → i - s < 128 → b.length - i < n → out.length + (pk b n i s).length + 3 < 140737488355328 →
      Ev (fun k => interleaveref11_Pack.l0 k b out ((b.take i).drop s) (i : Int)) (out ++ pk b n i s) := by
  intro n
  induction n with
  | zero => intro i s out _ _ _ h; omega
  | succ n ih =>
    intro i s out hs hi hp hn hl
    rw [pk] at hl ⊢
    by_cases c : i < b.length
    · rw [if_pos c] at hl ⊢
      have hM := match_f b hm i (by omega)
      have e1 : Aside0 (wrap64 ((i : Int) + 1) = ((i + 1 : Nat) : Int)) := ⟨by rw [wrap64_id (by omega) (by omega)]; omega⟩
      refine Ev.step (fun k => by simp only [interleaveref11_Pack.l0]; rw [if_pos (by omega)]) (Ev.bind hM ?_)
      have hG := lg_bounds (b := b) (i := i) (by omega)
      clear hM
      generalize lg b i = p at hG hl ⊢
      obtain ⟨l, d⟩ := p
      dsimp only at hG hl ⊢
      by_cases c1 : l < 3
      · rw [if_pos c1] at hl ⊢
        rw [show mt (l, d) = (0, 0) from if_pos c1]
        refine Ev.congr (f := fun k => (if ((b.take (i + 1)).drop s).length = 128 then ((interleaveref11_literal.f out ((b.take (i + 1)).drop s)).bind fun t269 => (interleaveref11_Pack.l0 k b t269 ([] : List Int) ((i + 1 : Nat) : Int))) else (interleaveref11_Pack.l0 k b out ((b.take (i + 1)).drop s) ((i + 1 : Nat) : Int)))) (fun k => ?_) ?_
        · show (if ((0 : Nat) : Int) > 0 then _ else _) = _
          rw [if_neg (by omega), if_pos (by omega), if_pos (by rw [List.length_drop, List.length_take]; omega), take_snoc c hs, e1.out, Option.bind_some]
          by_cases c3 : ((b.take (i + 1)).drop s).length = 128
          · rw [if_pos (by omega), if_pos c3]
          · rw [if_neg (by omega), if_neg c3]
        · have hlen : ((b.take (i + 1)).drop s).length = i + 1 - s := by rw [List.length_drop, List.length_take]; omega
          rw [hlen]
          by_cases c2 : i + 1 - s = 128
          · rw [if_pos c2] at hl ⊢
            rw [List.length_append] at hl
            refine Ev.congr (fun k => by rw [if_pos c2, refLit_is (by omega) (by omega) (by omega) (by omega), Option.bind_some]) ?_
            have := ih (i + 1) (i + 1) (out ++ lit b s (i + 1)) (by omega) (by omega) (by omega) (by omega) (by rw [List.length_append]; omega)
            rw [List.drop_of_length_le (by rw [List.length_take]; omega), List.append_assoc] at this
            exact this
          · rw [if_neg c2] at hl ⊢
            exact Ev.congr (fun k => by rw [if_neg c2]) (ih (i + 1) s out (by omega) (by omega) (by omega) (by omega) (by omega))
      · rw [if_neg c1] at hl ⊢
        obtain ⟨g1, g2, _, g4, _⟩ := hG c1
        rw [show mt (l, d) = (l, d) from if_neg c1]
        rw [List.length_append, List.length_append] at hl
        simp only [List.length_cons, List.length_nil] at hl
        have e2 := Aside0.mk (wrap_add (i := i) (l := l) (by omega))
        have e3 := Aside0.mk (wrap_125 g1)
        have e4 := Aside0.mk (mod_byte g4)
        have := Aside0.mk (ih (i + l) (i + l) (out ++ lit b s i ++ [((l + 125 : Nat) : Int), (d : Int)]) (by omega) (by omega) (by omega) (by omega) (by rw [List.length_append, List.length_append]; simp only [List.length_cons, List.length_nil]; omega))
        have this := this.out
        rw [List.drop_of_length_le (by rw [List.length_take]; omega)] at this
        rw [show out ++ (lit b s i ++ ([((l + 125 : Nat) : Int), (d : Int)] ++ pk b n (i + l) (i + l))) = out ++ lit b s i ++ [((l + 125 : Nat) : Int), (d : Int)] ++ pk b n (i + l) (i + l) by simp only [List.append_assoc]]
        refine Ev.congr (fun k => ?_) this
        clear this
        show (if (l : Int) > 0 then _ else _) = _
        rw [if_pos (by omega), refLit_is (by omega) (by omega) (by omega) (by omega), Option.bind_some, Option.bind_some, if_pos (by rw [List.length_append]; simp only [List.length_cons, List.length_nil]; omega)]
        show interleaveref11_Pack.l0 k b (out ++ lit b s i ++ [wrap64 ((l : Int) + 125) % 256, (d : Int) % 256]) [] (wrap64 ((i : Int) + (l : Int))) = _
        rw [e2.out, e3.out, e4.out]
    · rw [if_neg c] at hl ⊢
      obtain rfl : i = b.length := by omega
      refine Ev.step (f := fun _ => some _) (fun k => ?_) (Ev.now _)
      simp only [interleaveref11_Pack.l0]
      rw [if_neg (by omega), refLit_is (by omega) (by omega) (by omega) (by omega)]
      rfl
theorem refPack_f (b : List Int) (hm : b.length ≤ 1000000000000) : Ev (fun k => interleaveref11_Pack.f k b) (packS b) := by
  have h1 := packS_length b
  exact refPack_l0 hm (b.length + 1) 0 0 [] (by omega) (by omega) (by omega) (by omega) (by simp only [List.length_nil]; unfold packS at h1; omega)
theorem lg_zero (b : List Int) : lg b 0 = (0, 0) := by rw [lg_def]; exact bs_zero _ _ _ _
end Go.Proofs.Ytnmmkgagbfniiaa.Pl
end
section
/- A packed stream tells its bytes, item by item. -/
namespace Go.Proofs.Ytnmmkgagbfniiaa.Pl
open Go.RowKit Go.Proofs.YtnmmkgagbfniiaaW.PrintWords Go.Proofs.YtnmmkgagbfniiaaW.PrintMore Go.Proofs.Ytnmmkgagbfniiaa.A
set_option linter.unusedVariables false
/-- A stream that tells b from s on. -/
inductive Ch (b : List Int) : Nat → List Int → Prop
  | done : Ch b b.length []
  | lit (s e : Nat) (t : List Int) : s < e → e ≤ b.length → e - s ≤ 128 → Ch b e t → Ch b s (((e - s - 1 : Nat) : Int) :: ((b.take e).drop s ++ t))
  | copy (s l d : Nat) (t : List Int) : 3 ≤ l → l ≤ 130 → 1 ≤ d → d ≤ 255 → d ≤ s → s + l ≤ b.length → (∀ j, j < l → rd b ((s + j : Nat) : Int) = rd b ((s + j - d : Nat) : Int)) → Ch b (s + l) t → Ch b s (((l + 125 : Nat) : Int) :: (d : Int) :: t)
theorem lit_ch {b t : List Int} {s e : Nat} (hs : s ≤ e) (he : e ≤ b.length) (h1 : e - s ≤ 128) (h : Ch b e t) : Ch b s (lit b s e ++ t) := by
  unfold lit
  by_cases c : s < e
  · rw [if_pos c]
    exact .lit s e t c he h1 h
  · rw [if_neg c]
    obtain rfl : s = e := by omega
    exact h
theorem pk_ch (b : List Int) : ∀ n i s, s ≤ i → i ≤ b.length → i - s < 128 → b.length - i < n → Ch b s (pk b n i s) := by
  intro n
  induction n with
  | zero => intro i s _ _ _ h; omega
  | succ n ih =>
    intro i s hs hi hp hn
    have hG := lg_good hi
    rw [pk]
    generalize lg b i = p at hG ⊢
    obtain ⟨l, d⟩ := p
    unfold Good at hG
    dsimp only at hG ⊢
    by_cases c : i < b.length
    · rw [if_pos c]
      by_cases c1 : l < 3
      · rw [if_pos c1]
        by_cases c2 : i + 1 - s = 128
        · rw [if_pos c2]
          exact lit_ch (by omega) (by omega) (by omega) (ih (i + 1) (i + 1) (by omega) (by omega) (by omega) (by omega))
        · rw [if_neg c2]
          exact ih (i + 1) s (by omega) (by omega) (by omega) (by omega)
      · rw [if_neg c1]
        rcases hG with h0 | ⟨h1, h2, h3, h4, h5, h6⟩
        · omega
        · refine lit_ch (by omega) (by omega) (by omega) ?_
          exact .copy i l d _ (by omega) h1 h3 h4 h5 h2 h6 (ih (i + l) (i + l) (by omega) (by omega) (by omega) (by omega))
    · rw [if_neg c]
      obtain rfl : i = b.length := by omega
      have := lit_ch (b := b) (t := []) hs (by omega) (by omega) .done
      rwa [List.append_nil] at this
theorem packS_ch (b : List Int) : Ch b 0 (packS b) := pk_ch b (b.length + 1) 0 0 (by omega) (by omega) (by omega) (by omega)
theorem ch_bytes {b : List Int} (hb : ∀ c ∈ b, 0 ≤ c ∧ c < 256) {s : Nat} {t : List Int} (h : Ch b s t) : ∀ c ∈ t, 0 ≤ c ∧ c < 256 := by
  induction h with
  | done => intro c hc; simp at hc
  | lit s e t h1 h2 h3 _ ih =>
    intro c hc
    rcases List.mem_cons.1 hc with rfl | hc
    · omega
    · rcases List.mem_append.1 hc with hc | hc
      · exact hb c (List.mem_of_mem_take (List.mem_of_mem_drop hc))
      · exact ih c hc
  | copy s l d t h1 h2 h3 h4 h5 h6 h7 _ ih =>
    intro c hc
    rcases List.mem_cons.1 hc with rfl | hc
    · omega
    · rcases List.mem_cons.1 hc with rfl | hc
      · omega
      · exact ih c hc
end Go.Proofs.Ytnmmkgagbfniiaa.Pl
end
section
/- The checksum, in plain Lean: what it is, that it is linear, that each step can be undone. -/
namespace Go.Proofs.Ytnmmkgagbfniiaa.Pl
open Go.RowKit Go.Proofs.YtnmmkgagbfniiaaW.PrintWords Go.Proofs.YtnmmkgagbfniiaaW.PrintMore
set_option linter.unusedVariables false
def crcBit (c : Nat) : Nat := if c % 2 = 1 then (c / 2) ^^^ 3988292384 else c / 2
def crcBits : Nat → Nat → Nat
  | 0, c => c
  | n + 1, c => crcBits n (crcBit c)
def crcByte (c : Nat) (x : Int) : Nat := crcBits 8 (c ^^^ x.toNat)
def crc (c : Nat) (l : List Int) : Nat := l.foldl crcByte c
def sumS (l : List Int) : Nat := 4294967295 ^^^ crc 4294967295 l
theorem crcBit_lt {c : Nat} (h : c < 4294967296) : crcBit c < 4294967296 := by
  unfold crcBit
  split
  · have : (c / 2) ^^^ 3988292384 < 2 ^ 32 := Nat.xor_lt_two_pow (by omega) (by omega)
    omega
  · omega
theorem crcBits_lt : ∀ (n : Nat) {c : Nat}, c < 4294967296 → crcBits n c < 4294967296
  | 0, _, h => h
  | n + 1, _, h => crcBits_lt n (crcBit_lt h)
theorem xor_byte_lt {c : Nat} {x : Int} (h : c < 4294967296) (hx : x < 256) : c ^^^ x.toNat < 4294967296 := by
  have : c ^^^ x.toNat < 2 ^ 32 := Nat.xor_lt_two_pow (by omega) (by omega)
  omega
theorem crcByte_lt {c : Nat} {x : Int} (h : c < 4294967296) (hx : x < 256) : crcByte c x < 4294967296 := crcBits_lt 8 (xor_byte_lt h hx)
theorem crc_lt : ∀ (l : List Int) {c : Nat}, c < 4294967296 → (∀ x ∈ l, x < 256) → crc c l < 4294967296
  | [], _, h, _ => h
  | x :: l, c, h, hl => crc_lt l (crcByte_lt h (hl x List.mem_cons_self)) (fun y hy => hl y (List.mem_cons_of_mem _ hy))
theorem sumS_lt (l : List Int) (hl : ∀ x ∈ l, x < 256) : sumS l < 4294967296 := by
  have h1 := crc_lt l (c := 4294967295) (by omega) hl
  have : (4294967295 ^^^ crc 4294967295 l) < 2 ^ 32 := Nat.xor_lt_two_pow (by omega) (by omega)
  unfold sumS
  omega
theorem xor_half (a b : Nat) : (a ^^^ b) / 2 = (a / 2) ^^^ (b / 2) := by
  have := Nat.shiftRight_xor_distrib (a := a) (b := b) (i := 1)
  simpa [Nat.shiftRight_eq_div_pow] using this
theorem xor_par (a b : Nat) : (a ^^^ b) % 2 = (a % 2 + b % 2) % 2 := by
  have h := Nat.xor_mod_two_pow (a := a) (b := b) (n := 1)
  simp only [Nat.pow_one] at h
  rw [h]
  have ha : a % 2 = 0 ∨ a % 2 = 1 := by omega
  have hb : b % 2 = 0 ∨ b % 2 = 1 := by omega
  rcases ha with ha | ha <;> rcases hb with hb | hb <;> rw [ha, hb] <;> rfl
theorem xor_swap (a b c d : Nat) : (a ^^^ b) ^^^ (c ^^^ d) = (a ^^^ c) ^^^ (b ^^^ d) := by
  rw [Nat.xor_assoc, Nat.xor_assoc, ← Nat.xor_assoc b, Nat.xor_comm b c, Nat.xor_assoc c]
/-- One step is linear. -/
theorem crcBit_xor (a b : Nat) : crcBit (a ^^^ b) = crcBit a ^^^ crcBit b := by
  unfold crcBit
  rw [xor_par, xor_half]
  have ha : a % 2 = 0 ∨ a % 2 = 1 := by omega
  have hb : b % 2 = 0 ∨ b % 2 = 1 := by omega
  rcases ha with ha | ha <;> rcases hb with hb | hb <;> rw [ha, hb] <;> simp only [Nat.reduceAdd, Nat.reduceMod, Nat.zero_ne_one, if_true, if_false]
  · rw [Nat.xor_assoc]
  · rw [Nat.xor_assoc, Nat.xor_comm (b / 2), ← Nat.xor_assoc]
  · rw [xor_swap, Nat.xor_self, Nat.xor_zero]
theorem crcBits_xor : ∀ (n a b : Nat), crcBits n (a ^^^ b) = crcBits n a ^^^ crcBits n b
  | 0, _, _ => rfl
  | n + 1, a, b => by simp only [crcBits]; rw [crcBit_xor, crcBits_xor n]
/-- Three texts of one length. -/
theorem crc_three : ∀ (a b c d : List Int) (x y z : Nat), a.length = d.length → b.length = d.length → c.length = d.length →
    (∀ i (h : i < d.length) (ha : i < a.length) (hb : i < b.length) (hc : i < c.length), d[i].toNat = a[i].toNat ^^^ b[i].toNat ^^^ c[i].toNat) → crc (x ^^^ y ^^^ z) d = crc x a ^^^ crc y b ^^^ crc z c
  | [], [], [], [], _, _, _, _, _, _, _ => rfl
  | p :: a, q :: b, r :: c, s :: d, x, y, z, h1, h2, h3, h => by
    simp only [crc, List.foldl_cons]
    have h0 : s.toNat = p.toNat ^^^ q.toNat ^^^ r.toNat := h 0 (by simp) (by simp) (by simp) (by simp)
    have e : crcByte (x ^^^ y ^^^ z) s = crcByte x p ^^^ crcByte y q ^^^ crcByte z r := by
      unfold crcByte
      rw [h0, xor_swap (x ^^^ y) z, xor_swap x y, crcBits_xor, crcBits_xor]
    rw [e]
    exact crc_three a b c d _ _ _ (by simpa using h1) (by simpa using h2) (by simpa using h3) (fun i hi ha hb hc => h (i + 1) (by simpa using hi) (by simpa using ha) (by simpa using hb) (by simpa using hc))
  | _ :: _, _, _, [], _, _, _, h1, _, _, _ => by simp at h1
  | [], _, _, _ :: _, _, _, _, h1, _, _, _ => by simp at h1
  | _, _ :: _, _, [], _, _, _, _, h2, _, _ => by simp at h2
  | _, [], _, _ :: _, _, _, _, _, h2, _, _ => by simp at h2
  | _, _, _ :: _, [], _, _, _, _, _, h3, _ => by simp at h3
  | _, _, [], _ :: _, _, _, _, _, _, h3, _ => by simp at h3
theorem xor3 (M A B C : Nat) : M ^^^ (A ^^^ B ^^^ C) = (M ^^^ A) ^^^ (M ^^^ B) ^^^ (M ^^^ C) := by
  rw [xor_swap M A M B, Nat.xor_self, Nat.zero_xor, ← Nat.xor_assoc (A ^^^ B) M C, Nat.xor_comm (A ^^^ B) M, Nat.xor_assoc M]
theorem sumS_three (a b c d : List Int) (h1 : a.length = d.length) (h2 : b.length = d.length) (h3 : c.length = d.length)
    (h : ∀ i (h : i < d.length) (ha : i < a.length) (hb : i < b.length) (hc : i < c.length), d[i].toNat = a[i].toNat ^^^ b[i].toNat ^^^ c[i].toNat) : sumS d = sumS a ^^^ sumS b ^^^ sumS c := by
  have h0 := crc_three a b c d 4294967295 4294967295 4294967295 h1 h2 h3 h
  have e : (4294967295 ^^^ 4294967295 ^^^ 4294967295 : Nat) = 4294967295 := by decide
  rw [e] at h0
  unfold sumS
  rw [h0]
  exact xor3 _ _ _ _
theorem sum9 : sumS [49, 50, 51, 52, 53, 54, 55, 56, 57] = 3421780262 := by decide +kernel
end Go.Proofs.Ytnmmkgagbfniiaa.Pl
end
section
/- What the two Sum functions compute, out of their printed forms; the sanity check of layer 13. -/
namespace Go.Proofs.Ytnmmkgagbfniiaa.Pl
open Go.RowKit Go.Proofs.YtnmmkgagbfniiaaW.PrintWords Go.Proofs.YtnmmkgagbfniiaaW.PrintMore Go.Proofs.Ytnmmkgagbfniiaa.A
set_option linter.unusedVariables false
theorem crcBit_int (c : Nat) (h : c < 4294967296) : (if bits .and .u32 (c : Int) 1 = 1 then bits .xor .u32 ((c : Int) / 2) 3988292384 else (c : Int) / 2) = ((crcBit c : Nat) : Int) := by
  have e1 : bits .and .u32 (c : Int) 1 = ((c % 2 : Nat) : Int) := by
    have := u32_and_nat c 1 h (by omega)
    rw [nat_mask1] at this
    exact this
  have e2 : bits .xor .u32 ((c : Int) / 2) 3988292384 = (((c / 2) ^^^ 3988292384 : Nat) : Int) := by
    have := u32_xor_nat (c / 2) 3988292384 (by omega) (by omega)
    rw [show ((c / 2 : Nat) : Int) = (c : Int) / 2 by omega] at this
    exact this
  rw [e1, e2]
  unfold crcBit
  by_cases hc : c % 2 = 1
  · rw [if_pos (by omega), if_pos hc]
  · rw [if_neg (by omega), if_neg hc]
    omega
theorem sum_bits {xs : List Int} {n i r : Int} : ∀ (d j c : Nat), j + d = 8 → c < 4294967296 → Ev (fun k => block_Sum.l0 k ((crcBits d c : Nat) : Int) xs n (wrap64 (i + 1))) r → Ev (fun k => block_Sum.l1 k (c : Int) xs n i (j : Int)) r := by
  intro d
  induction d with
  | zero =>
    intro j c hj hc h
    refine Ev.step (fun k => ?_) h
    simp only [block_Sum.l1]
    rw [if_neg (by omega)]
    rfl
  | succ d ih =>
    intro j c hj hc h
    refine Ev.step (f := fun k => block_Sum.l1 k ((crcBit c : Nat) : Int) xs n i ((j + 1 : Nat) : Int)) (fun k => ?_) (ih (j + 1) (crcBit c) (by omega) (crcBit_lt hc) h)
    simp only [block_Sum.l1]
    rw [if_pos (by omega), wrap64_id (x := (j : Int) + 1) (by omega) (by omega), ← crcBit_int c hc]
    split <;> rfl
theorem sum_loop (xs : List Int) (hm : xs.length ≤ 140737488355328) (hx : ∀ c ∈ xs, 0 ≤ c ∧ c < 256) : ∀ (d i c : Nat), i + d = xs.length → c < 4294967296 →
    Ev (fun k => block_Sum.l0 k (c : Int) xs (xs.length : Int) (i : Int)) ((4294967295 ^^^ crc c (xs.drop i) : Nat) : Int) := by
  intro d
  induction d with
  | zero =>
    intro i c hi hc
    refine Ev.step (f := fun _ => some _) (fun k => ?_) (Ev.now _)
    simp only [block_Sum.l0]
    rw [if_neg (by omega), List.drop_of_length_le (by omega)]
    have := u32_xor_nat 4294967295 c (by omega) hc
    exact congrArg some this
  | succ d ih =>
    intro i c hi hc
    have hlt : i < xs.length := by omega
    have hb := hx xs[i] (List.getElem_mem hlt)
    have e : bits .xor .u32 (c : Int) ((rd xs (i : Int)) % 4294967296) = ((c ^^^ xs[i].toNat : Nat) : Int) := by
      rw [show rd xs (i : Int) = xs[i] by simp [rd, List.getD_eq_getElem?_getD, List.getElem?_eq_getElem hlt]]
      have := u32_xor_nat c xs[i].toNat hc (by omega)
      rw [show ((xs[i].toNat : Nat) : Int) = xs[i] % 4294967296 by omega] at this
      exact this
    refine Ev.step (f := fun k => block_Sum.l1 k ((c ^^^ xs[i].toNat : Nat) : Int) xs (xs.length : Int) (i : Int) ((0 : Nat) : Int)) (fun k => ?_) ?_
    · simp only [block_Sum.l0]
      rw [if_pos (by omega), if_pos (by omega), if_pos (by omega), e]
      rfl
    · refine sum_bits 8 0 _ rfl (xor_byte_lt hc hb.2) ?_
      have := ih (i + 1) (crcByte c xs[i]) (by omega) (crcByte_lt hc hb.2)
      rw [List.drop_eq_getElem_cons hlt, wrap64_id (x := (i : Int) + 1) (by omega) (by omega)]
      exact this
theorem sum_f (xs : List Int) (hm : xs.length ≤ 140737488355328) (hx : ∀ c ∈ xs, 0 ≤ c ∧ c < 256) : Ev (fun k => block_Sum.f k xs) ((sumS xs : Nat) : Int) := by
  have := sum_loop xs hm hx xs.length 0 4294967295 (by omega) (by omega)
  exact this
theorem refSum_bits {xs : List Int} {i r : Int} : ∀ (d j c : Nat), j + d = 8 → c < 4294967296 → Ev (fun k => interleaveref11_Sum.l0 k xs ((crcBits d c : Nat) : Int) (wrap64 (i + 1))) r → Ev (fun k => interleaveref11_Sum.l1 k xs (c : Int) i (j : Int)) r := by
  intro d
  induction d with
  | zero =>
    intro j c hj hc h
    refine Ev.step (fun k => ?_) h
    simp only [interleaveref11_Sum.l1]
    rw [if_neg (by omega)]
    rfl
  | succ d ih =>
    intro j c hj hc h
    refine Ev.step (f := fun k => interleaveref11_Sum.l1 k xs ((crcBit c : Nat) : Int) i ((j + 1 : Nat) : Int)) (fun k => ?_) (ih (j + 1) (crcBit c) (by omega) (crcBit_lt hc) h)
    simp only [interleaveref11_Sum.l1]
    rw [if_pos (by omega), wrap64_id (x := (j : Int) + 1) (by omega) (by omega), ← crcBit_int c hc]
    split <;> rfl
theorem refSum_loop (xs : List Int) (hm : xs.length ≤ 140737488355328) (hx : ∀ c ∈ xs, 0 ≤ c ∧ c < 256) : ∀ (d i c : Nat), i + d = xs.length → c < 4294967296 →
    Ev (fun k => interleaveref11_Sum.l0 k xs (c : Int) (i : Int)) ((4294967295 ^^^ crc c (xs.drop i) : Nat) : Int) := by
  intro d
  induction d with
  | zero =>
    intro i c hi hc
    refine Ev.step (f := fun _ => some _) (fun k => ?_) (Ev.now _)
    simp only [interleaveref11_Sum.l0]
    rw [if_neg (by omega), List.drop_of_length_le (by omega)]
    have := u32_xor_nat c 4294967295 hc (by omega)
    rw [Nat.xor_comm] at this
    exact congrArg some this
  | succ d ih =>
    intro i c hi hc
    have hlt : i < xs.length := by omega
    have hb := hx xs[i] (List.getElem_mem hlt)
    have e : bits .xor .u32 (c : Int) ((rd xs (i : Int)) % 4294967296) = ((c ^^^ xs[i].toNat : Nat) : Int) := by
      rw [show rd xs (i : Int) = xs[i] by simp [rd, List.getD_eq_getElem?_getD, List.getElem?_eq_getElem hlt]]
      have := u32_xor_nat c xs[i].toNat hc (by omega)
      rw [show ((xs[i].toNat : Nat) : Int) = xs[i] % 4294967296 by omega] at this
      exact this
    refine Ev.step (f := fun k => interleaveref11_Sum.l1 k xs ((c ^^^ xs[i].toNat : Nat) : Int) (i : Int) ((0 : Nat) : Int)) (fun k => ?_) ?_
    · simp only [interleaveref11_Sum.l0]
      rw [if_pos (by omega), if_pos (by omega), e]
      rfl
    · refine refSum_bits 8 0 _ rfl (xor_byte_lt hc hb.2) ?_
      have := ih (i + 1) (crcByte c xs[i]) (by omega) (crcByte_lt hc hb.2)
      rw [List.drop_eq_getElem_cons hlt, wrap64_id (x := (i : Int) + 1) (by omega) (by omega)]
      exact this
theorem refSum_f (xs : List Int) (hm : xs.length ≤ 140737488355328) (hx : ∀ c ∈ xs, 0 ≤ c ∧ c < 256) : Ev (fun k => interleaveref11_Sum.f k xs) ((sumS xs : Nat) : Int) := by
  have := refSum_loop xs hm hx xs.length 0 4294967295 (by omega) (by omega)
  exact this
theorem block_awake : Ev (fun k => interleavelaw13_awake.f k) true := by
  have h := sum_f [49, 50, 51, 52, 53, 54, 55, 56, 57] (by simp) (by decide)
  rw [sum9] at h
  exact Ev.bind h ⟨0, fun k _ => by simp⟩
end Go.Proofs.Ytnmmkgagbfniiaa.Pl
end
section
/- The bytes of a record, and that Append and the reference's Append put just these behind what they are given. -/
namespace Go.Proofs.Ytnmmkgagbfniiaa.Pl
open Go.RowKit Go.Proofs.YtnmmkgagbfniiaaW.PrintWords Go.Proofs.YtnmmkgagbfniiaaW.PrintMore Go.Proofs.Ytnmmkgagbfniiaa.A
set_option linter.unusedVariables false
def I64 (a : Int) : Prop := -9223372036854775808 ≤ a ∧ a < 9223372036854775808
theorem wrap64_I64 (x : Int) : I64 (wrap64 x) := by unfold I64 wrap64; omega
def encDiffs : Int → List Int → List Int
  | _, [] => []
  | last, n :: t => enc (wrap64 (n - last)) ++ encDiffs n t
def encL (l : List Int) : List Int := enc (l.length : Int) ++ encDiffs 0 l
def encR (d kind obj val site : Int) (deps frm : List Int) : List Int := enc d ++ (enc kind ++ (enc obj ++ (enc val ++ (enc site ++ (encL deps ++ encL frm)))))
theorem enc_le {a : Int} (h : I64 a) : (enc a).length ≤ 10 := (enc_len h.1 h.2).2
theorem encDiffs_len : ∀ (l : List Int) (last : Int), (encDiffs last l).length ≤ 10 * l.length
  | [], _ => by simp [encDiffs]
  | n :: t, last => by
    have h1 := enc_le (wrap64_I64 (n - last))
    have h2 := encDiffs_len t n
    simp only [encDiffs, List.length_append, List.length_cons]
    omega
theorem encL_len (l : List Int) (hl : l.length ≤ 400) : (encL l).length ≤ 10 * l.length + 10 := by
  have h1 := encDiffs_len l 0
  have h2 := enc_le (a := (l.length : Int)) ⟨by omega, by omega⟩
  unfold encL
  rw [List.length_append]
  omega
theorem encDiffs_bytes : ∀ (l : List Int) (last : Int), ∀ x ∈ encDiffs last l, 0 ≤ x ∧ x < 256
  | [], _ => fun x hx => by simp [encDiffs] at hx
  | n :: t, last => fun x hx => by
    simp only [encDiffs, List.mem_append] at hx
    rcases hx with hx | hx
    · exact enc_bytes _ x hx
    · exact encDiffs_bytes t n x hx
theorem encL_bytes (l : List Int) : ∀ x ∈ encL l, 0 ≤ x ∧ x < 256 := fun x hx => by
  rcases List.mem_append.1 hx with hx | hx
  · exact enc_bytes _ x hx
  · exact encDiffs_bytes _ _ x hx
theorem encR_bytes (d kind obj val site : Int) (deps frm : List Int) : ∀ x ∈ encR d kind obj val site deps frm, 0 ≤ x ∧ x < 256 := fun x hx => by
  simp only [encR, List.mem_append] at hx
  rcases hx with hx | hx | hx | hx | hx | hx | hx
  · exact enc_bytes _ x hx
  · exact enc_bytes _ x hx
  · exact enc_bytes _ x hx
  · exact enc_bytes _ x hx
  · exact enc_bytes _ x hx
  · exact encL_bytes _ x hx
  · exact encL_bytes _ x hx
theorem encR_len (d kind obj val site : Int) (deps frm : List Int) (h0 : I64 d) (h1 : I64 kind) (h2 : I64 obj) (h3 : I64 val) (h4 : I64 site) (h5 : deps.length ≤ 400) (h6 : frm.length ≤ 400) : (encR d kind obj val site deps frm).length ≤ 10 * (deps.length + frm.length) + 70 := by
  have a0 := enc_le h0
  have a1 := enc_le h1
  have a2 := enc_le h2
  have a3 := enc_le h3
  have a4 := enc_le h4
  have a5 := encL_len deps h5
  have a6 := encL_len frm h6
  unfold encR
  simp only [List.length_append]
  omega
theorem encR_pos (d kind obj val site : Int) (deps frm : List Int) : 0 < (encR d kind obj val site deps frm).length := by
  unfold encR
  rw [List.length_append]
  have : 0 < (enc d).length := encN_pos _
  omega

theorem appendList_loop (l : List Int) (hl : l.length ≤ 140737488355328) : ∀ (d i : Nat) (x : List Int) (last : Int), i + d = l.length → x.length + 10 * d ≤ 140737488355318 →
    Ev (fun k => event_appendList.l0 k x last l (l.length : Int) (i : Int)) (x ++ encDiffs last (l.drop i)) := by
  intro d
  induction d with
  | zero =>
    intro i x last hi hx
    refine Ev.step (f := fun _ => some _) (fun k => ?_) (Ev.now _)
    simp only [event_appendList.l0]
    rw [if_neg (by omega), List.drop_of_length_le (by omega)]
    simp [encDiffs]
  | succ d ih =>
    intro i x last hi hx
    have hlt : i < l.length := by omega
    have hw := wrap64_I64 (l[i] - last)
    refine Ev.step (f := fun k => (event_appendInt.f k x (wrap64 (l[i] - last))).bind fun t => event_appendList.l0 k t l[i] l (l.length : Int) ((i + 1 : Nat) : Int)) (fun k => ?_) ?_
    · simp only [event_appendList.l0]
      rw [if_pos (by omega), if_pos (by omega), if_pos (by omega), rd_at hlt, wrap64_id (x := (i : Int) + 1) (by omega) (by omega)]
      rfl
    · refine Ev.bind (appendInt_f hw.1 hw.2 x (by omega)) ?_
      have h10 := enc_le hw
      have := ih (i + 1) (x ++ enc (wrap64 (l[i] - last))) l[i] (by omega) (by rw [List.length_append]; omega)
      rw [List.drop_eq_getElem_cons hlt]
      simpa [encDiffs] using this
theorem appendList_f (l x : List Int) (hl : l.length ≤ 400) (hx : x.length ≤ 140737488300000) : Ev (fun k => event_appendList.f k x l) (x ++ encL l) := by
  have h10 := enc_le (a := (l.length : Int)) ⟨by omega, by omega⟩
  refine Ev.bind (appendInt_f (a := (l.length : Int)) (by omega) (by omega) x (by omega)) ?_
  have := appendList_loop l (by omega) l.length 0 (x ++ enc (l.length : Int)) 0 (by omega) (by rw [List.length_append]; omega)
  simpa [encL] using this
theorem putList_loop (l : List Int) (hl : l.length ≤ 140737488355328) : ∀ (d i : Nat) (x : List Int) (last : Int), i + d = l.length → x.length + 10 * d ≤ 140737488355318 →
    Ev (fun k => interleaveref11_putList.l0 k x l last (i : Int)) (x ++ encDiffs last (l.drop i)) := by
  intro d
  induction d with
  | zero =>
    intro i x last hi hx
    refine Ev.step (f := fun _ => some _) (fun k => ?_) (Ev.now _)
    simp only [interleaveref11_putList.l0]
    rw [if_neg (by omega), List.drop_of_length_le (by omega)]
    simp [encDiffs]
  | succ d ih =>
    intro i x last hi hx
    have hlt : i < l.length := by omega
    have hw := wrap64_I64 (l[i] - last)
    refine Ev.step (f := fun k => (interleaveref11_PutInt.f k x (wrap64 (l[i] - last))).bind fun t => interleaveref11_putList.l0 k t l l[i] ((i + 1 : Nat) : Int)) (fun k => ?_) ?_
    · simp only [interleaveref11_putList.l0]
      rw [if_pos (by omega), if_pos (by omega), rd_at hlt, wrap64_id (x := (i : Int) + 1) (by omega) (by omega)]
      rfl
    · refine Ev.bind (refPutInt_f hw.1 hw.2 x (by omega)) ?_
      have h10 := enc_le hw
      have := ih (i + 1) (x ++ enc (wrap64 (l[i] - last))) l[i] (by omega) (by rw [List.length_append]; omega)
      rw [List.drop_eq_getElem_cons hlt]
      simpa [encDiffs] using this
theorem putList_f (l x : List Int) (hl : l.length ≤ 400) (hx : x.length ≤ 140737488300000) : Ev (fun k => interleaveref11_putList.f k x l) (x ++ encL l) := by
  have h10 := enc_le (a := (l.length : Int)) ⟨by omega, by omega⟩
  refine Ev.bind (refPutInt_f (a := (l.length : Int)) (by omega) (by omega) x (by omega)) ?_
  have := putList_loop l (by omega) l.length 0 (x ++ enc (l.length : Int)) 0 (by omega) (by rw [List.length_append]; omega)
  simpa [encL] using this
theorem append_f (x : List Int) (seq thread kind obj val site : Int) (deps frm : List Int) (q : Int) (hx : x.length ≤ 140737488200000) (h1 : I64 kind) (h2 : I64 obj) (h3 : I64 val) (h4 : I64 site) (h5 : deps.length ≤ 400) (h6 : frm.length ≤ 400) :
    Ev (fun k => event_Append.f k x seq thread kind obj val site deps frm q) (x ++ encR (wrap64 (seq - q)) kind obj val site deps frm) := by
  have hw := wrap64_I64 (seq - q)
  have a0 := enc_le hw
  have a1 := enc_le h1
  have a2 := enc_le h2
  have a3 := enc_le h3
  have a4 := enc_le h4
  have a5 := encL_len deps h5
  refine Ev.bind (appendInt_f hw.1 hw.2 x (by omega)) ?_
  refine Ev.bind (appendInt_f h1.1 h1.2 _ (by rw [List.length_append]; omega)) ?_
  refine Ev.bind (appendInt_f h2.1 h2.2 _ (by simp only [List.length_append]; omega)) ?_
  refine Ev.bind (appendInt_f h3.1 h3.2 _ (by simp only [List.length_append]; omega)) ?_
  refine Ev.bind (appendInt_f h4.1 h4.2 _ (by simp only [List.length_append]; omega)) ?_
  refine Ev.bind (appendList_f deps _ h5 (by simp only [List.length_append]; omega)) ?_
  have := appendList_f frm (x ++ enc (wrap64 (seq - q)) ++ enc kind ++ enc obj ++ enc val ++ enc site ++ encL deps) h6 (by simp only [List.length_append]; omega)
  simpa [encR, List.append_assoc] using this
theorem refAppend_f (x : List Int) (seq thread kind obj val site : Int) (deps frm : List Int) (q : Int) (hx : x.length ≤ 140737488200000) (h1 : I64 kind) (h2 : I64 obj) (h3 : I64 val) (h4 : I64 site) (h5 : deps.length ≤ 400) (h6 : frm.length ≤ 400) :
    Ev (fun k => interleaveref11_Append.f k x seq thread kind obj val site deps frm q) (x ++ encR (wrap64 (seq - q)) kind obj val site deps frm) := by
  have hw := wrap64_I64 (seq - q)
  have a0 := enc_le hw
  have a1 := enc_le h1
  have a2 := enc_le h2
  have a3 := enc_le h3
  have a4 := enc_le h4
  have a5 := encL_len deps h5
  refine Ev.bind (refPutInt_f hw.1 hw.2 x (by omega)) ?_
  refine Ev.bind (refPutInt_f h1.1 h1.2 _ (by rw [List.length_append]; omega)) ?_
  refine Ev.bind (refPutInt_f h2.1 h2.2 _ (by simp only [List.length_append]; omega)) ?_
  refine Ev.bind (refPutInt_f h3.1 h3.2 _ (by simp only [List.length_append]; omega)) ?_
  refine Ev.bind (refPutInt_f h4.1 h4.2 _ (by simp only [List.length_append]; omega)) ?_
  refine Ev.bind (putList_f deps _ h5 (by simp only [List.length_append]; omega)) ?_
  have := putList_f frm (x ++ enc (wrap64 (seq - q)) ++ enc kind ++ enc obj ++ enc val ++ enc site ++ encL deps) h6 (by simp only [List.length_append]; omega)
  refine Ev.bind this ?_
  simpa [encR, List.append_assoc] using Ev.now (x ++ encR (wrap64 (seq - q)) kind obj val site deps frm)
end Go.Proofs.Ytnmmkgagbfniiaa.Pl
end
section
/- The sanity check of layer 11 answers true. -/
namespace Go.Proofs.Ytnmmkgagbfniiaa.Pl
open Go.RowKit Go.Proofs.YtnmmkgagbfniiaaW.PrintWords Go.Proofs.YtnmmkgagbfniiaaW.PrintMore Go.Proofs.Ytnmmkgagbfniiaa.A
theorem enc64 : enc 64 = [128, 1] := by
  unfold enc
  rw [show (zz 64).toNat = 128 from rfl, encN_big (by omega), encN_small (by omega)]
  rfl
theorem event_awake : Ev (fun k => interleavelaw11_awake.f k) true := by
  have h := putInt_f (a := 64) (by omega) (by omega) [] (by simp)
  rw [enc64] at h
  exact Ev.bind h ⟨0, fun k _ => by simp [rd]⟩
end Go.Proofs.Ytnmmkgagbfniiaa.Pl
end
section
/- The guards of layer 11's statements; small words on what is known of plain data. -/
namespace Go.Proofs.Ytnmmkgagbfniiaa.Pl
open Go.RowKit Go.Proofs.YtnmmkgagbfniiaaW.PrintWords Go.Proofs.YtnmmkgagbfniiaaW.PrintMore Go.Proofs.Ytnmmkgagbfniiaa.A
set_option linter.unusedVariables false
theorem i64_of {a : Int} (h : (Lit.int .i64 a).wf = true) : I64 a := i64_bounds h
/-- A record's guard: at most 400 of each list, or the statement says nothing. -/
theorem long_f (a0 a1 a2 a3 a4 a5 : Int) (l6 l7 : List Int) : interleavelaw11_long.f a0 a1 a2 a3 a4 a5 l6 l7 = some (decide (¬ (l6.length ≤ 400 ∧ l7.length ≤ 400))) := by
  unfold interleavelaw11_long.f
  by_cases h : (l6.length : Int) > 400
  · rw [if_pos h, decide_eq_true (by omega)]
  · rw [if_neg h]
    congr 1
    apply decide_eq_decide.mpr
    omega
end Go.Proofs.Ytnmmkgagbfniiaa.Pl
end
section
/- What the checks of a block return, and the payload of a block, of the program and of the reference. -/
namespace Go.Proofs.Ytnmmkgagbfniiaa.Pl
open Go.RowKit Go.Proofs.YtnmmkgagbfniiaaW.PrintWords Go.Proofs.YtnmmkgagbfniiaaW.PrintMore Go.Proofs.Ytnmmkgagbfniiaa.A
set_option linter.unusedVariables false
theorem rdT {l : List S26} {i : Nat} (h : i < l.length) : rd_T26 l (i : Int) = l[i] := by simp [rd_T26, List.getD_eq_getElem?_getD, List.getElem?_eq_getElem h]
/-- The bytes of a record behind one with the number q. -/
def recB (r : S26) (q : Int) : List Int := encR (wrap64 (r.f0 - q)) r.f1.f1 r.f1.f2 r.f1.f3 r.f1.f4 r.f1.f5 r.f1.f6
def payS : Int → List S26 → List Int
  | _, [] => []
  | q, r :: rs => recB r q ++ payS r.f0 rs
/-- The records fit into a block of the thread th behind the number last. -/
def fit (th : Int) : Int → List S26 → Bool
  | _, [] => true
  | last, r :: rs => decide (r.f1.f0 = th ∧ last < r.f0 ∧ r.f1.f5.length ≤ 400 ∧ r.f1.f6.length ≤ 400) && fit th r.f0 rs
def chk (th first : Int) (l : List S26) : Int :=
  if 64 < l.length then 2 else if l.length = 0 ∨ th < 0 ∨ 4 ≤ th ∨ first < 0 ∨ 400 < first then 1 else if fit th (-1) l then 0 else 1
/-- The numbers of a record are of their kinds. -/
def RecOk (r : S26) : Prop := I64 r.f0 ∧ I64 r.f1.f1 ∧ I64 r.f1.f2 ∧ I64 r.f1.f3 ∧ I64 r.f1.f4
theorem check_loop (th first : Int) (l : List S26) (hl : l.length ≤ 140737488355328) : ∀ (d i : Nat) (last : Int), i + d = l.length →
    Ev (fun k => block_check.l0 k last l (l.length : Int) (i : Int) th first l) (if fit th last (l.drop i) then 0 else 1) := by
  intro d
  induction d with
  | zero =>
    intro i last hi
    refine Ev.step (f := fun _ => some _) (fun k => ?_) (Ev.now _)
    simp only [block_check.l0]
    rw [if_neg (by omega), List.drop_of_length_le (by omega)]
    rfl
  | succ d ih =>
    intro i last hi
    have hlt : i < l.length := by omega
    have hw : wrap64 ((i : Int) + 1) = ((i + 1 : Nat) : Int) := by rw [wrap64_id (by omega) (by omega)]; omega
    rw [List.drop_eq_getElem_cons hlt, fit]
    by_cases c : (l[i].f1.f0 = th ∧ last < l[i].f0 ∧ l[i].f1.f5.length ≤ 400 ∧ l[i].f1.f6.length ≤ 400)
    · rw [decide_eq_true c, Bool.true_and]
      obtain ⟨c1, c2, c3, c4⟩ := c
      refine Ev.step (fun k => ?_) (ih (i + 1) l[i].f0 (by omega))
      simp only [block_check.l0]
      rw [if_pos (by omega), if_pos (by omega), if_pos (by omega), rdT hlt, if_pos c1, if_neg (by omega), if_neg (by omega), if_neg (by omega), hw]
    · simp only [decide_eq_false c, Bool.false_and, Bool.false_eq_true, if_false]
      refine Ev.step (f := fun _ => some 1) (fun k => ?_) (Ev.now _)
      simp only [block_check.l0]
      rw [if_pos (by omega), if_pos (by omega), if_pos (by omega), rdT hlt]
      by_cases c1 : l[i].f1.f0 = th
      · rw [if_pos c1]
        by_cases c2 : l[i].f0 ≤ last
        · rw [if_pos c2]
        · rw [if_neg c2]
          by_cases c3 : (l[i].f1.f5.length : Int) > 400
          · rw [if_pos c3]
          · rw [if_neg c3, if_pos (Decidable.byContradiction fun c4 => c ⟨c1, by omega, by omega, by omega⟩)]
      · rw [if_neg c1]
theorem check_f (th first : Int) (l : List S26) : Ev (fun k => block_check.f k th first l) (chk th first l) := by
  unfold chk
  by_cases c0 : 64 < l.length
  · rw [if_pos c0]
    refine Ev.congr (f := fun _ => some 2) (fun k => ?_) (Ev.now _)
    unfold block_check.f
    rw [if_pos (by omega)]
  · rw [if_neg c0]
    have hb : Ev (fun k => block_check.j0 k true th first l) 1 := Ev.step (f := fun _ => some 1) (fun k => by simp only [block_check.j0]; exact if_pos trivial) (Ev.now _)
    by_cases c : l.length = 0 ∨ th < 0 ∨ 4 ≤ th ∨ first < 0 ∨ 400 < first
    · rw [if_pos c]
      refine Ev.congr (fun k => ?_) hb
      unfold block_check.f
      rw [if_neg (by omega)]
      by_cases a1 : (l.length : Int) = 0
      · rw [if_pos a1]
      · rw [if_neg a1]
        by_cases a2 : th < 0
        · rw [if_pos a2]
        · rw [if_neg a2]
          by_cases a3 : th ≥ 4
          · rw [if_pos a3]
          · rw [if_neg a3]
            by_cases a4 : first < 0
            · rw [if_pos a4]
            · rw [if_neg a4, decide_eq_true (by omega)]
    · rw [if_neg c]
      have := check_loop th first l (by omega) l.length 0 (-1) (by omega)
      rw [List.drop_zero] at this
      refine Ev.congr (f := fun k => block_check.j0 k false th first l) (fun k => ?_) (Ev.step (fun k => ?_) this)
      · unfold block_check.f
        rw [if_neg (by omega), if_neg (by omega), if_neg (by omega), if_neg (by omega), if_neg (by omega), decide_eq_false (by omega)]
      · simp only [block_check.j0]
        exact if_neg (by decide)
theorem fits_loop (th first : Int) (l : List S26) (hl : l.length ≤ 140737488355328) : ∀ (d i : Nat) (last : Int), i + d = l.length → -1 ≤ last → (i = 0 → last = -1) → (0 < i → last = (rd_T26 l ((i : Int) - 1)).f0) →
    Ev (fun k => interleaveref11_Fits.l0 k (i : Int) th first l) (if fit th last (l.drop i) then 0 else 1) := by
  intro d
  induction d with
  | zero =>
    intro i last hi _ _ _
    refine Ev.step (f := fun _ => some _) (fun k => ?_) (Ev.now _)
    simp only [interleaveref11_Fits.l0]
    rw [if_neg (by omega), List.drop_of_length_le (by omega)]
    rfl
  | succ d ih =>
    intro i last hi h1 hz hp
    have hlt : i < l.length := by omega
    have hw : wrap64 ((i : Int) + 1) = ((i + 1 : Nat) : Int) := by rw [wrap64_id (by omega) (by omega)]; omega
    have hv : 0 < i → wrap64 ((i : Int) - 1) = (i : Int) - 1 := fun h => wrap64_id (by omega) (by omega)
    rw [List.drop_eq_getElem_cons hlt, fit]
    by_cases c : (l[i].f1.f0 = th ∧ last < l[i].f0 ∧ l[i].f1.f5.length ≤ 400 ∧ l[i].f1.f6.length ≤ 400)
    · rw [decide_eq_true c, Bool.true_and]
      obtain ⟨c1, c2, c3, c4⟩ := c
      refine Ev.step (fun k => ?_) (ih (i + 1) l[i].f0 (by omega) (by omega) (by omega) (fun _ => by rw [show (((i + 1 : Nat) : Int) - 1) = (i : Int) by omega, rdT hlt]))
      simp only [interleaveref11_Fits.l0]
      rw [if_pos (by omega), if_pos (by omega), rdT hlt, if_pos c1, if_neg (by omega), hw]
      by_cases cz : 0 < i
      · have := hp cz
        rw [if_pos (by omega), hv cz, if_pos (by omega), if_pos (by omega), if_neg (by omega), if_neg (by omega), if_neg (by omega)]
      · rw [if_neg (by omega), if_neg (by omega), if_neg (by omega)]
    · simp only [decide_eq_false c, Bool.false_and, Bool.false_eq_true, if_false]
      refine Ev.step (f := fun _ => some 1) (fun k => ?_) (Ev.now _)
      simp only [interleaveref11_Fits.l0]
      rw [if_pos (by omega), if_pos (by omega), rdT hlt]
      by_cases c1 : l[i].f1.f0 = th
      · rw [if_pos c1]
        by_cases c2 : l[i].f0 < 0
        · rw [if_pos c2]
        · rw [if_neg c2]
          have fin : last < l[i].f0 → (if (l[i].f1.f5.length : Int) > 400 then some (1 : Int) else if (l[i].f1.f6.length : Int) > 400 then some 1 else interleaveref11_Fits.l0 k (wrap64 ((i : Int) + 1)) th first l) = some 1 := by
            intro c3
            by_cases c4 : (l[i].f1.f5.length : Int) > 400
            · rw [if_pos c4]
            · rw [if_neg c4, if_pos (Decidable.byContradiction fun c5 => c ⟨c1, c3, by omega, by omega⟩)]
          by_cases cz : 0 < i
          · have := hp cz
            rw [if_pos (by omega), hv cz, if_pos (by omega), if_pos (by omega), ← this]
            by_cases c3 : l[i].f0 ≤ last
            · rw [if_pos c3]
            · rw [if_neg c3, fin (by omega)]
          · have := hz (by omega)
            rw [if_neg (by omega), fin (by omega)]
      · rw [if_neg c1]
theorem fits_f (th first : Int) (l : List S26) : Ev (fun k => interleaveref11_Fits.f k th first l) (chk th first l) := by
  unfold chk
  by_cases c0 : 64 < l.length
  · rw [if_pos c0]
    refine Ev.congr (f := fun _ => some 2) (fun k => ?_) (Ev.now _)
    unfold interleaveref11_Fits.f
    rw [if_pos (by omega)]
  · rw [if_neg c0]
    have hb : Ev (fun k => interleaveref11_Fits.j0 k true th first l) 1 := Ev.step (f := fun _ => some 1) (fun k => by simp only [interleaveref11_Fits.j0]; exact if_pos trivial) (Ev.now _)
    by_cases c : l.length = 0 ∨ th < 0 ∨ 4 ≤ th ∨ first < 0 ∨ 400 < first
    · rw [if_pos c]
      refine Ev.congr (fun k => ?_) hb
      unfold interleaveref11_Fits.f
      rw [if_neg (by omega)]
      by_cases a1 : (l.length : Int) = 0
      · rw [if_pos a1]
      · rw [if_neg a1]
        by_cases a2 : th < 0
        · rw [if_pos a2]
        · rw [if_neg a2]
          by_cases a3 : th ≥ 4
          · rw [if_pos a3]
          · rw [if_neg a3]
            by_cases a4 : first < 0
            · rw [if_pos a4]
            · rw [if_neg a4, decide_eq_true (by omega)]
    · rw [if_neg c]
      have := fits_loop th first l (by omega) l.length 0 (-1) (by omega) (by omega) (fun _ => rfl) (by omega)
      rw [List.drop_zero] at this
      refine Ev.congr (f := fun k => interleaveref11_Fits.j0 k false th first l) (fun k => ?_) (Ev.step (fun k => ?_) this)
      · unfold interleaveref11_Fits.f
        rw [if_neg (by omega), if_neg (by omega), if_neg (by omega), if_neg (by omega), if_neg (by omega), decide_eq_false (by omega)]
      · simp only [interleaveref11_Fits.j0]
        exact if_neg (by decide)
theorem recB_len {r : S26} (q : Int) (h : RecOk r) (h5 : r.f1.f5.length ≤ 400) (h6 : r.f1.f6.length ≤ 400) : (recB r q).length ≤ 8070 := by
  have := encR_len (wrap64 (r.f0 - q)) r.f1.f1 r.f1.f2 r.f1.f3 r.f1.f4 r.f1.f5 r.f1.f6 (wrap64_I64 _) h.2.1 h.2.2.1 h.2.2.2.1 h.2.2.2.2 h5 h6
  unfold recB
  omega
theorem fit_cons {th last : Int} {r : S26} {rs : List S26} (h : fit th last (r :: rs) = true) : (r.f1.f0 = th ∧ last < r.f0 ∧ r.f1.f5.length ≤ 400 ∧ r.f1.f6.length ≤ 400) ∧ fit th r.f0 rs = true := by
  rw [fit, Bool.and_eq_true] at h
  exact ⟨of_decide_eq_true h.1, h.2⟩
theorem payS_len {th : Int} : ∀ {l : List S26} {q : Int}, fit th q l = true → (∀ r ∈ l, RecOk r) → (payS q l).length ≤ 8070 * l.length
  | [], _, _, _ => by simp [payS]
  | r :: rs, q, h, hr => by
    obtain ⟨⟨_, _, h5, h6⟩, h'⟩ := fit_cons h
    have h1 := recB_len q (hr r (by simp)) h5 h6
    have h2 := payS_len h' (fun r' h' => hr r' (by simp [h']))
    rw [payS, List.length_append, List.length_cons]
    omega
theorem payS_bytes : ∀ (l : List S26) (q : Int), ∀ c ∈ payS q l, 0 ≤ c ∧ c < 256
  | [], _, c, hc => by simp [payS] at hc
  | r :: rs, q, c, hc => by
    rw [payS] at hc
    rcases List.mem_append.1 hc with hc | hc
    · exact encR_bytes _ _ _ _ _ _ _ c hc
    · exact payS_bytes rs _ c hc
theorem refPayload_loop (th first : Int) (l : List S26) (hl : l.length ≤ 64) (hr : ∀ r ∈ l, RecOk r) : ∀ (d i : Nat) (x : List Int) (q : Int), i + d = l.length → fit th q (l.drop i) = true → x.length + 8070 * d ≤ 1000000 →
    Ev (fun k => interleaveref11_Payload.l0 k x q (i : Int) th first l) (x ++ payS q (l.drop i)) := by
  intro d
  induction d with
  | zero =>
    intro i x q hi _ _
    refine Ev.step (f := fun _ => some _) (fun k => ?_) (Ev.now _)
    simp only [interleaveref11_Payload.l0]
    rw [if_neg (by omega), List.drop_of_length_le (by omega), payS, List.append_nil]
  | succ d ih =>
    intro i x q hi hf hx
    have hlt : i < l.length := by omega
    have hw : wrap64 ((i : Int) + 1) = ((i + 1 : Nat) : Int) := by rw [wrap64_id (by omega) (by omega)]; omega
    rw [List.drop_eq_getElem_cons hlt] at hf ⊢
    obtain ⟨⟨_, _, h5, h6⟩, hf'⟩ := fit_cons hf
    have hk := hr l[i] (List.getElem_mem hlt)
    have hlen := recB_len q hk h5 h6
    refine Ev.step (f := fun k => (interleaveref11_Append.f k x l[i].f0 l[i].f1.f0 l[i].f1.f1 l[i].f1.f2 l[i].f1.f3 l[i].f1.f4 l[i].f1.f5 l[i].f1.f6 q).bind fun t => interleaveref11_Payload.l0 k t l[i].f0 ((i + 1 : Nat) : Int) th first l) (fun k => ?_) ?_
    · simp only [interleaveref11_Payload.l0]
      rw [if_pos (by omega), if_pos (by omega), rdT hlt, hw]
    · refine Ev.bind (refAppend_f x l[i].f0 l[i].f1.f0 l[i].f1.f1 l[i].f1.f2 l[i].f1.f3 l[i].f1.f4 l[i].f1.f5 l[i].f1.f6 q (by omega) hk.2.1 hk.2.2.1 hk.2.2.2.1 hk.2.2.2.2 h5 h6) ?_
      have := ih (i + 1) (x ++ recB l[i] q) l[i].f0 (by omega) hf' (by rw [List.length_append]; omega)
      rw [payS, ← List.append_assoc]
      exact this
theorem refPayload_f (th first : Int) (l : List S26) (hl : l.length ≤ 64) (hr : ∀ r ∈ l, RecOk r) (hf : fit th (-1) l = true) : Ev (fun k => interleaveref11_Payload.f k th first l) (payS (-1) l) := by
  have := refPayload_loop th first l hl hr l.length 0 [] (-1) (by omega) (by rw [List.drop_zero]; exact hf) (by simp only [List.length_nil]; omega)
  rw [List.drop_zero, List.nil_append] at this
  exact this
end Go.Proofs.Ytnmmkgagbfniiaa.Pl
end
section
/- What Encode returns, of the program and of the reference: the same bytes, or the same error. -/
namespace Go.Proofs.Ytnmmkgagbfniiaa.Pl
open Go.RowKit Go.Proofs.YtnmmkgagbfniiaaW.PrintWords Go.Proofs.YtnmmkgagbfniiaaW.PrintMore Go.Proofs.Ytnmmkgagbfniiaa.A
set_option linter.unusedVariables false
def encs : List Int → List Int
  | [] => []
  | a :: t => enc a ++ encs t
def headS (th first n : Int) (p : List Int) : List Int := [84, th % 256] ++ encs [first, n, (p.length : Int), ((packS p).length : Int)]
def bodyS (th first : Int) (l : List S26) : List Int := headS th first (l.length : Int) (payS (-1) l) ++ packS (payS (-1) l)
def sumB (b : List Int) : List Int := [((sumS b : Nat) : Int) / 16777216 % 256, ((sumS b : Nat) : Int) / 65536 % 256, ((sumS b : Nat) : Int) / 256 % 256, ((sumS b : Nat) : Int) % 256]
def encS (th first : Int) (l : List S26) : List Int × Int := if chk th first l = 0 then (bodyS th first l ++ sumB (bodyS th first l), 0) else ([], chk th first l)
theorem encs_len : ∀ (l : List Int), (∀ a ∈ l, I64 a) → (encs l).length ≤ 10 * l.length
  | [], _ => by simp [encs]
  | a :: t, h => by
    have h1 := enc_le (h a (by simp))
    have h2 := encs_len t (fun b hb => h b (by simp [hb]))
    rw [encs, List.length_append, List.length_cons]
    omega
theorem encs_bytes : ∀ (l : List Int), ∀ c ∈ encs l, 0 ≤ c ∧ c < 256
  | [], c, hc => by simp [encs] at hc
  | a :: t, c, hc => by
    rw [encs] at hc
    rcases List.mem_append.1 hc with hc | hc
    · exact enc_bytes _ c hc
    · exact encs_bytes t c hc
theorem chk_zero {th first : Int} {l : List S26} (h : chk th first l = 0) : l.length ≤ 64 ∧ 0 < l.length ∧ 0 ≤ th ∧ th < 4 ∧ 0 ≤ first ∧ first ≤ 400 ∧ fit th (-1) l = true := by
  unfold chk at h
  by_cases c0 : 64 < l.length
  · rw [if_pos c0] at h
    omega
  · rw [if_neg c0] at h
    by_cases c : l.length = 0 ∨ th < 0 ∨ 4 ≤ th ∨ first < 0 ∨ 400 < first
    · rw [if_pos c] at h
      omega
    · rw [if_neg c] at h
      cases hf : fit th (-1) l with
      | true => exact ⟨by omega, by omega, by omega, by omega, by omega, by omega, rfl⟩
      | false => rw [hf] at h; exact absurd h (by decide)
theorem packS_bytes {p : List Int} (hp : ∀ c ∈ p, 0 ≤ c ∧ c < 256) : ∀ c ∈ packS p, 0 ≤ c ∧ c < 256 := ch_bytes hp (packS_ch p)
theorem bodyS_bytes (th first : Int) (l : List S26) : ∀ c ∈ bodyS th first l, 0 ≤ c ∧ c < 256 := by
  intro c hc
  unfold bodyS headS at hc
  rcases List.mem_append.1 hc with hc | hc
  · rcases List.mem_append.1 hc with hc | hc
    · simp only [List.mem_cons, List.not_mem_nil, or_false] at hc
      omega
    · exact encs_bytes _ c hc
  · exact packS_bytes (payS_bytes l (-1)) c hc
theorem headS_len {th first n : Int} {p : List Int} (h1 : I64 first) (h2 : I64 n) (h3 : p.length ≤ 1000000) : (headS th first n p).length ≤ 42 := by
  have h4 := packS_length p
  have := encs_len [first, n, (p.length : Int), ((packS p).length : Int)] (fun a ha => by
    simp only [List.mem_cons, List.not_mem_nil, or_false] at ha
    rcases ha with rfl | rfl | rfl | rfl
    · exact h1
    · exact h2
    · unfold I64; omega
    · unfold I64; omega)
  unfold headS
  rw [List.length_append]
  simp only [List.length_cons, List.length_nil] at this ⊢
  omega
theorem bodyS_len {th first : Int} {l : List S26} (hr : ∀ r ∈ l, RecOk r) (h : chk th first l = 0) : (bodyS th first l).length ≤ 1100000 := by
  obtain ⟨h1, _, h2, h3, h4, h5, h6⟩ := chk_zero h
  have h7 := payS_len h6 hr
  have h8 := packS_length (payS (-1) l)
  have h9 := headS_len (th := th) (first := first) (n := (l.length : Int)) (p := payS (-1) l) (by unfold I64; omega) (by unfold I64; omega) (by omega)
  unfold bodyS
  rw [List.length_append]
  omega
theorem seal_f (b : List Int) (hm : b.length ≤ 1100000) (hb : ∀ c ∈ b, 0 ≤ c ∧ c < 256) : Ev (fun k => block_seal.f k b) (((sumS b : Nat) : Int) / 16777216 % 256, ((sumS b : Nat) : Int) / 65536 % 256, ((sumS b : Nat) : Int) / 256 % 256, ((sumS b : Nat) : Int) % 256) :=
  Ev.bind (sum_f b (by omega) hb) (Ev.now _)
theorem heads_loop {pkd vals : List Int} {R : List Int × Int} (hv : ∀ a ∈ vals, I64 a) (hl : vals.length ≤ 1000) : ∀ (d i : Nat) (x : List Int), i + d = vals.length → x.length + 10 * d ≤ 1000000 →
    Ev (fun k => if (x ++ encs (vals.drop i)).length + pkd.length < 140737488355328 then ((some (x ++ encs (vals.drop i) ++ pkd : List Int)).bind fun y => ((block_seal.f k y).bind fun bt => (if y.length + [bt.1, bt.2.1, bt.2.2.1, bt.2.2.2].length < 140737488355328 then (some ((y ++ [bt.1, bt.2.1, bt.2.2.1, bt.2.2.2]), 0)) else (none)))) else (none)) R →
    Ev (fun k => block_Encode.l1 k pkd x vals (vals.length : Int) (i : Int)) R := by
  intro d
  induction d with
  | zero =>
    intro i x hi _ h
    rw [List.drop_of_length_le (by omega), encs, List.append_nil] at h
    refine Ev.step (fun k => ?_) h
    simp only [block_Encode.l1]
    rw [if_neg (by omega)]
  | succ d ih =>
    intro i x hi hx h
    have hlt : i < vals.length := by omega
    have hw : wrap64 ((i : Int) + 1) = ((i + 1 : Nat) : Int) := by rw [wrap64_id (by omega) (by omega)]; omega
    have hq := hv vals[i] (List.getElem_mem hlt)
    have h10 := enc_le hq
    rw [List.drop_eq_getElem_cons hlt, encs, ← List.append_assoc] at h
    refine Ev.step (f := fun k => (event_PutInt.f k x vals[i]).bind fun t => block_Encode.l1 k pkd t vals (vals.length : Int) ((i + 1 : Nat) : Int)) (fun k => ?_) ?_
    · simp only [block_Encode.l1]
      rw [if_pos (by omega), if_pos (by omega), if_pos (by omega), rd_at hlt, hw]
    · exact Ev.bind (putInt_f hq.1 hq.2 x (by omega)) (ih (i + 1) (x ++ enc vals[i]) (by omega) (by rw [List.length_append]; omega) h)
theorem encode_loop (th first : Int) (l : List S26) (hl : l.length ≤ 64) (hr : ∀ r ∈ l, RecOk r) {R : List Int × Int} : ∀ (d i : Nat) (x : List Int) (q : Int), i + d = l.length → fit th q (l.drop i) = true → x.length + 8070 * d ≤ 1000000 →
    Ev (fun k => (pack_Pack.f k (x ++ payS q (l.drop i))).bind fun t => ((some (([first, (l.length : Int), ((x ++ payS q (l.drop i)).length : Int), (t.length : Int)] : List Int) : List Int)).bind fun y => (block_Encode.l1 k t (([84, th % 256] : List Int)) y (y.length : Int) 0))) R →
    Ev (fun k => block_Encode.l0 k x q l (l.length : Int) (i : Int) th first l) R := by
  intro d
  induction d with
  | zero =>
    intro i x q hi _ _ h
    rw [List.drop_of_length_le (by omega), payS, List.append_nil] at h
    refine Ev.step (fun k => ?_) h
    simp only [block_Encode.l0]
    rw [if_neg (by omega)]
  | succ d ih =>
    intro i x q hi hf hx h
    have hlt : i < l.length := by omega
    have hw : wrap64 ((i : Int) + 1) = ((i + 1 : Nat) : Int) := by rw [wrap64_id (by omega) (by omega)]; omega
    rw [List.drop_eq_getElem_cons hlt] at hf h
    obtain ⟨⟨_, _, h5, h6⟩, hf'⟩ := fit_cons hf
    have hk := hr l[i] (List.getElem_mem hlt)
    have hlen := recB_len q hk h5 h6
    rw [payS, ← List.append_assoc] at h
    refine Ev.step (f := fun k => (event_Append.f k [] l[i].f0 l[i].f1.f0 l[i].f1.f1 l[i].f1.f2 l[i].f1.f3 l[i].f1.f4 l[i].f1.f5 l[i].f1.f6 q).bind fun t => if x.length + t.length < 140737488355328 then block_Encode.l0 k (x ++ t) l[i].f0 l (l.length : Int) ((i + 1 : Nat) : Int) th first l else none) (fun k => ?_) ?_
    · simp only [block_Encode.l0]
      rw [if_pos (by omega), if_pos (by omega), if_pos (by omega), rdT hlt, hw]
    · refine Ev.bind (append_f [] l[i].f0 l[i].f1.f0 l[i].f1.f1 l[i].f1.f2 l[i].f1.f3 l[i].f1.f4 l[i].f1.f5 l[i].f1.f6 q (by simp) hk.2.1 hk.2.2.1 hk.2.2.2.1 hk.2.2.2.2 h5 h6) ?_
      show Ev (fun k => if x.length + ([] ++ recB l[i] q).length < 140737488355328 then block_Encode.l0 k (x ++ ([] ++ recB l[i] q)) l[i].f0 l (l.length : Int) ((i + 1 : Nat) : Int) th first l else none) R
      rw [List.nil_append]
      refine Ev.congr (fun k => if_pos (by omega)) (ih (i + 1) (x ++ recB l[i] q) l[i].f0 (by omega) hf' (by rw [List.length_append]; omega) h)
theorem encode_f (th first : Int) (l : List S26) (hr : ∀ r ∈ l, RecOk r) : Ev (fun k => block_Encode.f k th first l) (encS th first l) := by
  unfold encS
  refine Ev.bind (check_f th first l) ?_
  by_cases c : chk th first l = 0
  · rw [if_pos c]
    simp only [if_pos c]
    obtain ⟨h1, _, h2, h3, h4, h5, h6⟩ := chk_zero c
    have h7 := payS_len h6 hr
    have h8 := packS_length (payS (-1) l)
    have hB := bodyS_len hr c
    refine encode_loop th first l h1 hr l.length 0 [] (-1) (by omega) (by rw [List.drop_zero]; exact h6) (by simp only [List.length_nil]; omega) ?_
    rw [List.drop_zero, List.nil_append]
    refine Ev.bind (pack_f _ (by omega)) (Ev.bind (Ev.now _) ?_)
    refine heads_loop (pkd := packS (payS (-1) l)) (vals := [first, (l.length : Int), ((payS (-1) l).length : Int), ((packS (payS (-1) l)).length : Int)]) (fun a ha => ?_) (by simp) 4 0 [84, th % 256] (by simp) (by simp) ?_
    · simp only [List.mem_cons, List.not_mem_nil, or_false] at ha
      unfold I64
      omega
    · rw [List.drop_zero]
      show Ev (fun k => if (headS th first (l.length : Int) (payS (-1) l)).length + (packS (payS (-1) l)).length < 140737488355328 then _ else none) _
      have e : bodyS th first l = headS th first (l.length : Int) (payS (-1) l) ++ packS (payS (-1) l) := rfl
      refine Ev.congr (fun k => if_pos (by rw [e, List.length_append] at hB; omega)) ?_
      refine Ev.bind (Ev.now (bodyS th first l)) ?_
      refine Ev.bind (seal_f _ hB (bodyS_bytes th first l)) ?_
      refine Ev.congr (f := fun _ => some (bodyS th first l ++ sumB (bodyS th first l), 0)) (fun k => ?_) (Ev.now _)
      rw [if_pos (by simp only [List.length_cons, List.length_nil]; omega)]
      rfl
  · rw [if_neg c]
    simp only [if_neg c]
    exact Ev.now _
theorem refEncode_f (th first : Int) (l : List S26) (hr : ∀ r ∈ l, RecOk r) : Ev (fun k => interleaveref11_Encode.f k th first l) (encS th first l) := by
  unfold encS
  refine Ev.bind (fits_f th first l) ?_
  by_cases c : chk th first l = 0
  · rw [if_pos c]
    simp only [if_pos c]
    obtain ⟨h1, _, h2, h3, h4, h5, h6⟩ := chk_zero c
    have h7 := payS_len h6 hr
    have h8 := packS_length (payS (-1) l)
    have hB := bodyS_len hr c
    refine Ev.bind (refPayload_f th first l h1 hr h6) ?_
    refine Ev.bind (refPack_f _ (by omega)) ?_
    have a1 : I64 first := by unfold I64; omega
    have a2 : I64 (l.length : Int) := by unfold I64; omega
    have a3 : I64 ((payS (-1) l).length : Int) := by unfold I64; omega
    have a4 : I64 ((packS (payS (-1) l)).length : Int) := by unfold I64; omega
    have b1 := enc_le a1
    have b2 := enc_le a2
    have b3 := enc_le a3
    refine Ev.bind (refPutInt_f a1.1 a1.2 _ (by simp)) ?_
    refine Ev.bind (refPutInt_f a2.1 a2.2 _ (by rw [List.length_append]; simp only [List.length_cons, List.length_nil]; omega)) ?_
    refine Ev.bind (refPutInt_f a3.1 a3.2 _ (by simp only [List.length_append, List.length_cons, List.length_nil]; omega)) ?_
    refine Ev.bind (refPutInt_f a4.1 a4.2 _ (by simp only [List.length_append, List.length_cons, List.length_nil]; omega)) ?_
    have e : [84, th % 256] ++ enc first ++ enc (l.length : Int) ++ enc ((payS (-1) l).length : Int) ++ enc ((packS (payS (-1) l)).length : Int) = headS th first (l.length : Int) (payS (-1) l) := by
      simp only [headS, encs, List.append_assoc, List.append_nil]
    rw [e]
    have e2 : bodyS th first l = headS th first (l.length : Int) (payS (-1) l) ++ packS (payS (-1) l) := rfl
    refine Ev.congr (fun k => if_pos (by rw [e2, List.length_append] at hB; omega)) ?_
    refine Ev.bind (Ev.now (bodyS th first l)) ?_
    refine Ev.bind (refSum_f _ (by omega) (bodyS_bytes th first l)) ?_
    refine Ev.bind (Ev.now (sumB (bodyS th first l))) ?_
    refine Ev.congr (f := fun _ => some (bodyS th first l ++ sumB (bodyS th first l), 0)) (fun k => ?_) (Ev.now _)
    rw [if_pos (by simp only [sumB, List.length_cons, List.length_nil]; omega)]
  · rw [if_neg c]
    simp only [if_neg c]
    exact Ev.now _
end Go.Proofs.Ytnmmkgagbfniiaa.Pl
end
section
/- The guard of the statements on blocks comes to an end. -/
namespace Go.Proofs.Ytnmmkgagbfniiaa.Pl
open Go.RowKit Go.Proofs.YtnmmkgagbfniiaaW.PrintWords Go.Proofs.YtnmmkgagbfniiaaW.PrintMore Go.Proofs.Ytnmmkgagbfniiaa.A
set_option linter.unusedVariables false
theorem large_loop (a0 a1 : Int) (l : List S26) (hl : l.length ≤ 140737488355328) : ∀ (d i : Nat) (n : Int), i + d = l.length → ∃ b, Ev (fun k => interleavelaw13_large.l0 k n (i : Int) a0 a1 l) b := by
  intro d
  induction d with
  | zero =>
    intro i n hi
    refine ⟨decide ((l.length : Int) > 200), Ev.step (f := fun _ => some _) (fun k => ?_) (Ev.now _)⟩
    simp only [interleavelaw13_large.l0]
    rw [if_neg (by omega)]
  | succ d ih =>
    intro i n hi
    have hw : wrap64 ((i : Int) + 1) = ((i + 1 : Nat) : Int) := by rw [wrap64_id (by omega) (by omega)]; omega
    obtain ⟨m, hm⟩ : ∃ m, m = wrap64 (wrap64 (n + ((rd_T26 l (i : Int)).f1.f5.length : Int)) + ((rd_T26 l (i : Int)).f1.f6.length : Int)) := ⟨_, rfl⟩
    by_cases c : m > 2000
    · refine ⟨true, Ev.step (f := fun _ => some _) (fun k => ?_) (Ev.now _)⟩
      simp only [interleavelaw13_large.l0]
      rw [if_pos (by omega), if_pos (by omega), ← hm, if_pos c]
    · obtain ⟨b, hb⟩ := ih (i + 1) m (by omega)
      refine ⟨b, Ev.step (fun k => ?_) hb⟩
      simp only [interleavelaw13_large.l0]
      rw [if_pos (by omega), if_pos (by omega), ← hm, if_neg c, hw]
theorem large_f (a0 a1 : Int) (l : List S26) (hl : l.length ≤ 140737488355328) : ∃ b, Ev (fun k => interleavelaw13_large.f k a0 a1 l) b := large_loop a0 a1 l hl l.length 0 0 (by omega)
theorem encS_len {th first : Int} {l : List S26} (hr : ∀ r ∈ l, RecOk r) : (encS th first l).1.length ≤ 1100004 := by
  unfold encS
  by_cases c : chk th first l = 0
  · rw [if_pos c]
    have := bodyS_len hr c
    simp only [List.length_append, sumB, List.length_cons, List.length_nil]
    omega
  · rw [if_neg c]
    simp
theorem recOk_of {r : S26} (h : J26 r) : RecOk r := by
  obtain ⟨h0, ⟨_, hk, ho, hv, hs, _, _⟩⟩ := h
  exact ⟨i64_of h0, i64_of hk, i64_of ho, i64_of hv, i64_of hs⟩
end Go.Proofs.Ytnmmkgagbfniiaa.Pl
end
section
/- The plain statement of the law BlockTells. -/
namespace Go.Proofs.Ytnmmkgagbfniiaa.A
open Go.RowKit Go.Proofs.YtnmmkgagbfniiaaW.PrintWords Go.Proofs.Ytnmmkgagbfniiaa.OpenKd
set_option linter.unusedVariables false
/-- What is left to show of the law: no memory in it. -/
def interleavelaw13_BlockTells.Pure : Prop := ∀ (x0 : S42), J42 x0 → ∃ k, interleavelaw13_BlockTells.f k (x0.f0) (x0.f1) (x0.f2) = some true
end Go.Proofs.Ytnmmkgagbfniiaa.A
end
section
/- Encode returns the specified bytes, or the specified error, for every block: the plain side of the statement BlockTells. No condition. -/
namespace Go.Proofs.Ytnmmkgagbfniiaa.Pure
open Go.RowKit Go.Proofs.YtnmmkgagbfniiaaW.PrintWords Go.Proofs.YtnmmkgagbfniiaaW.PrintMore Go.Proofs.Ytnmmkgagbfniiaa.A Go.Proofs.Ytnmmkgagbfniiaa.Pl
set_option linter.unusedVariables false
theorem BlockTells : interleavelaw13_BlockTells.Pure := by
  intro x hx
  obtain ⟨_, _, hl, _, hJ⟩ := hx
  have hr : ∀ r ∈ x.f2, RecOk r := fun r h => recOk_of (hJ r h)
  obtain ⟨b, hb⟩ := large_f x.f0 x.f1 x.f2 (by unfold maxLen at hl; omega)
  refine Ev.rounds (Ev.bind hb ?_)
  cases b with
  | true => exact Ev.congr (fun k => if_pos rfl) (Ev.now _)
  | false =>
    refine Ev.congr (fun k => if_neg (by decide)) ?_
    refine Ev.bind (encode_f _ _ _ hr) (Ev.bind (refEncode_f _ _ _ hr) ?_)
    have := encS_len (th := x.f0) (first := x.f1) hr
    refine Ev.bind (same_yes _ (by omega)) ?_
    refine Ev.congr (fun k => (if_pos rfl).trans (if_pos rfl)) (Ev.bind block_awake (Ev.now _))
end Go.Proofs.Ytnmmkgagbfniiaa.Pure
end
