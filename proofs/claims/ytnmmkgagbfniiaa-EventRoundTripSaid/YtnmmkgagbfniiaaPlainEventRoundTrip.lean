/- The plain side of the statement EventRoundTrip, texts of this session laid into one. No condition beyond what each fact names. -/
import Derived.Deep.Slices
import Derived.ChangeOld
import Derived.SizedLaws
import Derived.WideShapes
import Derived.Carry
import Derived.Test.YtnmmkgagbfniiaaWWords
import Derived.Test.YtnmmkgagbfniiaaWFoot
import Derived.Test.YtnmmkgagbfniiaaAx0
import Derived.KernelRfl
import Derived.Laws.BitsAllLaws
import Derived.Test.YtnmmkgagbfniiaaWMore
import Derived.Test.YtnmmkgagbfniiaaAxeventPutInt
import Derived.Test.YtnmmkgagbfniiaaAxeventInt
import Derived.Test.YtnmmkgagbfniiaaAxinterleaveref11PutInt
import Derived.Test.YtnmmkgagbfniiaaAxinterleaveref11Int
import Derived.Test.YtnmmkgagbfniiaaAxinterleaveref11SameBytes
import Derived.Test.YtnmmkgagbfniiaaAxeventappendList
import Derived.Test.YtnmmkgagbfniiaaAxeventAppend
import Derived.Test.YtnmmkgagbfniiaaAxinterleaveref11putList
import Derived.Test.YtnmmkgagbfniiaaAxinterleaveref11Append
import Derived.Test.YtnmmkgagbfniiaaAxinterleavelaw11awake
import Derived.Test.YtnmmkgagbfniiaaAxinterleavelaw11long
import Derived.Test.YtnmmkgagbfniiaaAxeventRead
import Derived.Test.YtnmmkgagbfniiaaAxinterleaveref11Read
import Derived.Test.YtnmmkgagbfniiaaAxinterleaveref09SameEvent
import Derived.Test.YtnmmkgagbfniiaaAxinterleavelaw11EventRoundTrip
section
/- An argument of whatever plain type, read as data, is read by its kind: numbers, strings, slices, structs, nested. No condition. -/
namespace Go.Proofs.Ytnmmkgagbfniiaa.OpenKd
open Go.RowKit Go.Proofs.YtnmmkgagbfniiaaW.PrintWords Go.ChangeShapes Go.WideShapes
set_option linter.unusedVariables false

/-- The weights of a datum are within the reach. -/
def Light {H : Type} (P : Program) (t : TypeId) (d : DataW H) : Prop := ∀ n ∈ DataW.weights P t d, n ≤ reachBytes
def Opens {α : Type} (P : Program) (d : Kd α) (t : TypeId) (J : α → Prop) : Prop :=
  ∀ (H : Type) (enc : TypeId × Value → H) (w : World) (fuel : Nat) (cs : List Value) (x : DataW H × List MemPlace), DataW.trod enc P w 0 (fun _ => true) true fuel t cs = some x → Light P t x.1 → ∃ y, d.K w y cs ∧ J y
theorem opens_int {P : Program} {t : TypeId} {k : IntKind} (ht : P.underlying t = some (.int k)) : Opens P (Kd.int k) t (fun n => (Lit.int k n).wf = true) := by
  intro H enc w fuel cs x h _
  obtain ⟨n, rfl, _, hw⟩ := DataW.trod_int ht h
  exact ⟨n, rfl, hw⟩
theorem opens_bool {P : Program} {t : TypeId} (ht : P.underlying t = some .bool) : Opens P Kd.bool t (fun _ => True) := by
  intro H enc w fuel cs x h _
  obtain ⟨b, rfl, _⟩ := DataW.trod_bool ht h
  exact ⟨b, rfl, trivial⟩
theorem opens_string {P : Program} {t : TypeId} (ht : P.underlying t = some .string) : Opens P Kd.string t (fun s => s.size ≤ 140737488351232) := by
  intro H enc w fuel cs x h hl
  obtain ⟨s, rfl, rfl, _⟩ := DataW.trod_string ht h
  refine ⟨s, rfl, ?_⟩
  have := hl s.data.toList.length (by simp [DataW.weights])
  rw [data_length] at this
  exact this
theorem list_of {α : Type} {p : Nat → α → Prop} : ∀ n : Nat, (∀ i, i < n → ∃ y, p i y) → ∃ ys : List α, ys.length = n ∧ ∀ i y, ys[i]? = some y → p i y
  | 0, _ => ⟨[], rfl, fun i y h => by simp at h⟩
  | n + 1, h => by
    obtain ⟨ys, hl, hp⟩ := list_of n (fun i hi => h i (by omega))
    obtain ⟨y, hy⟩ := h n (by omega)
    refine ⟨ys ++ [y], by simp [hl], fun i z hz => ?_⟩
    rcases Nat.lt_or_ge i ys.length with hi | hi
    · rw [List.getElem?_append_left hi] at hz
      exact hp i z hz
    · rw [List.getElem?_append_right hi] at hz
      have h0 : i - ys.length = 0 := by
        have := (List.getElem?_eq_some_iff.1 hz).1
        simp at this
        omega
      rw [h0] at hz
      have : y = z := by simpa using hz
      subst this
      obtain rfl : i = n := by omega
      exact hy
theorem weightsAll_mem {H : Type} {P : Program} {e : TypeId} : ∀ {l : List (DataW H)} {d : DataW H}, d ∈ l → ∀ n ∈ DataW.weights P e d, n ∈ DataW.weightsAll P e l
  | a :: l, d, h, n, hn => by
    simp only [DataW.weightsAll, List.mem_append]
    rcases List.mem_cons.1 h with rfl | h
    · exact .inl hn
    · exact .inr (weightsAll_mem h n hn)
theorem opens_slice {α : Type} {P : Program} {d : Kd α} {t e : TypeId} {J : α → Prop} {B : Nat} (ht : P.underlying t = some (.slice e)) (hd : Opens P d e J) (hsz : P.cellsOf e = d.sz) (hB : P.bytesOf e = B) :
    Opens P (Kd.slice e d) t (fun xs => xs.length ≤ maxLen ∧ xs.length * B ≤ 140737488351232 ∧ ∀ x ∈ xs, J x) := by
  intro H enc w fuel cs x h hl
  rcases Go.Deep.open_slice ht h with ⟨rfl, rfl⟩ | ⟨a, len, cap, m, n, D, Pl, rfl, _, hlc, hcm, hm, rfl, hx⟩
  · exact ⟨[], ⟨none, 0, rfl, Nat.le_refl _, Kd.C_nil _ _⟩, by simp, by simp, fun x hx => by simp at hx⟩
  · have hm' : m = cap := by simpa using hm
    subst hm'
    have hw : ∀ n ∈ DataW.weights P t (.slice ((List.range len).map D) ((List.range (m - len)).map fun j => D (len + j)) : DataW H), n ≤ reachBytes := hl
    simp only [DataW.weights, ht, List.length_map, List.length_range] at hw
    obtain ⟨ys, hyl, hys⟩ := list_of (p := fun i y => ∃ cs', w.cells? 0 (a.add (i * P.cellsOf e)) (P.cellsOf e) = some cs' ∧ d.K w y cs' ∧ J y) len (fun i hi => by
      obtain ⟨cs', h1, h2⟩ := hx i (by omega)
      obtain ⟨y, hk, hj⟩ := hd H enc w n cs' _ h2 (fun q hq => hw q (by
        refine List.mem_cons_of_mem _ (List.mem_append_left _ (weightsAll_mem (d := D i) ?_ q hq))
        exact List.mem_map.2 ⟨i, List.mem_range.2 hi, rfl⟩))
      exact ⟨y, cs', h1, hk, hj⟩)
    have hb := hw _ List.mem_cons_self
    rw [hB, show len + (m - len) = m by omega] at hb
    have hlb : len * B ≤ 140737488351232 := Nat.le_trans (Nat.mul_le_mul_right _ hlc) hb
    refine ⟨ys, ⟨some a, m, by rw [hyl], by omega, ⟨rfl, ?_, fun hp => ⟨a, rfl, fun j y hj => ?_⟩⟩⟩, by omega, by rw [hyl]; exact hlb, fun y hy => ?_⟩
    · have : m ≤ maxLen := hcm
      simp only [maxLen] at this
      omega
    · obtain ⟨cs', h1, hk, _⟩ := hys j y hj
      obtain ⟨_, hcl, hcell⟩ := World.cells?_some h1
      refine ⟨cs', by rw [hcl, hsz], hk, fun i u hu => ?_⟩
      have hi : i < P.cellsOf e := by rw [← hcl]; exact (List.getElem?_eq_some_iff.1 hu).1
      have := hcell i hi
      rw [Go.Deep.add_add, hsz] at this
      rw [this, hu]
    · obtain ⟨i, hi⟩ := List.mem_iff_getElem?.1 hy
      obtain ⟨_, _, _, hj⟩ := hys i y hi
      exact hj
/-- The fields of a struct from an offset on. -/
def OpF {α : Type} (P : Program) (fs : List Field) (off : Nat) (d : Kd α) (J : α → Prop) : Prop :=
  ∀ (H : Type) (enc : TypeId × Value → H) (w : World) (fuel : Nat) (cs : List Value) (xs : List (DataW H × List MemPlace)), cs.length = off + d.sz → xs.length = fs.length →
    (∀ (i : Nat) (f : Field), fs[i]? = some f → DataW.trod enc P w 0 (fun _ => true) true fuel f.type ((cs.drop f.offset).take (P.cellsOf f.type)) = xs[i]?) →
    (∀ n ∈ DataW.weightsEach P (fs.map (·.type)) (xs.map (·.1)), n ≤ reachBytes) → ∃ y, d.K w y (cs.drop off) ∧ J y
theorem opF_one {α : Type} {P : Program} {f : Field} {off : Nat} {d : Kd α} {J : α → Prop} {t : TypeId} (ht : f.type = t) (ho : f.offset = off) (hd : Opens P d t J) (hs : P.cellsOf t = d.sz) : OpF P [f] off d J := by
  intro H enc w fuel cs xs hl hx h hw
  subst ht
  match xs, hx with
  | [x], _ =>
    have h0 := h 0 f rfl
    rw [ho, hs, List.take_of_length_le (by rw [List.length_drop]; omega)] at h0
    exact hd H enc w fuel _ x (by simpa using h0) (fun n hn => hw n (by simp [DataW.weightsEach, hn]))
theorem opF_cons {α β : Type} {P : Program} {f : Field} {fs : List Field} {off : Nat} {a : Kd α} {b : Kd β} {J : α → Prop} {K : β → Prop} {t : TypeId} (ht : f.type = t) (ho : f.offset = off) (hd : Opens P a t J) (hs : P.cellsOf t = a.sz) (hr : OpF P fs (off + a.sz) b K) :
    OpF P (f :: fs) off (Kd.pair a b) (fun x => J x.1 ∧ K x.2) := by
  intro H enc w fuel cs xs hl hx h hw
  subst ht
  match xs, hx with
  | x :: xs, hx =>
    have hsz : (Kd.pair a b).sz = a.sz + b.sz := rfl
    rw [hsz] at hl
    have h0 := h 0 f rfl
    rw [ho, hs] at h0
    obtain ⟨y, hk, hj⟩ := hd H enc w fuel _ x (by simpa using h0) (fun n hn => hw n (by simp [DataW.weightsEach, hn]))
    obtain ⟨z, hk2, hj2⟩ := hr H enc w fuel cs xs (by omega) (by simpa using hx) (fun i g hg => by simpa using h (i + 1) g (by simpa using hg)) (fun n hn => hw n (by
      simp only [List.map_cons, DataW.weightsEach, List.mem_append]
      exact .inr hn))
    refine ⟨(y, z), ⟨(cs.drop off).take a.sz, cs.drop (off + a.sz), ?_, hk, hk2⟩, hj, hj2⟩
    rw [← List.drop_drop]
    exact (List.take_append_drop _ _).symm
theorem opens_struct {α β : Type} {P : Program} {t : TypeId} {fs : Array Field} {d : Kd α} {J : α → Prop} (f : β → α) (g : α → β) (hfg : ∀ x, f (g x) = x) (ht : P.underlying t = some (.struct fs)) (hs : P.cellsOf t = d.sz) (h : OpF P fs.toList 0 d J) : Opens P (Kd.iso d f) t (fun y => J (f y)) := by
  intro H enc w fuel cs x hx hl
  obtain ⟨xs, n, rfl, rfl, hc, hxl, hf⟩ := DataW.trod_struct ht hx
  have hw : ∀ q ∈ DataW.weights P t (.agg (xs.map (·.1)) : DataW H), q ≤ reachBytes := hl
  simp only [DataW.weights, ht] at hw
  obtain ⟨y, hk, hj⟩ := h H enc w n cs xs (by omega) (by simpa using hxl) (fun i f hi => hf i f (by simpa using hi)) hw
  refine ⟨g y, ?_, ?_⟩
  · show d.K w (f (g y)) cs
    rw [hfg]
    simpa using hk
  · show J (f (g y))
    rw [hfg]
    exact hj
theorem light_each {H : Type} {P : Program} {ts : List TypeId} {ds : List (DataW H)} (h : (DataW.weightsEach P ts ds).all (· ≤ reachBytes) = true) {j : Nat} {t : TypeId} {d : DataW H} (ht : ts[j]? = some t) (hd : ds[j]? = some d) : Light P t d := by
  intro n hn
  have := List.all_eq_true.1 h _ (DataW.weights_mem_each ht hd n hn)
  simpa using this
/-- A struct's value by its cells. -/
theorem agg_of_cells {v : Value} {c1 c2 : Value} {cs : List Value} (h : v.cells.toList = c1 :: c2 :: cs) : v = .agg (c1 :: c2 :: cs).toArray := by
  cases v <;> simp_all [Value.cells]
  rw [← h]
/-- A slice's value by its one cell. -/
theorem slice_of_cells {a A : Option Addr} {n m c d : Nat} (h : (Value.slice a n c).cells.toList = [.slice A m d]) : a = A ∧ n = m ∧ c = d := by
  simpa [Value.cells] using h
end Go.Proofs.Ytnmmkgagbfniiaa.OpenKd
end
section
/- What is known of the plain data of each struct type, and that what is read as data is read by its kind. No condition. -/
namespace Go.Proofs.Ytnmmkgagbfniiaa.A
open Go.RowKit Go.Proofs.YtnmmkgagbfniiaaW.PrintWords Go.Proofs.Ytnmmkgagbfniiaa.OpenKd
set_option linter.unusedVariables false

def J24 : S24 → Prop := fun y => (fun n => (Lit.int .i64 n).wf = true) y.f0 ∧ ((fun n => (Lit.int .i64 n).wf = true) y.f1 ∧ ((fun n => (Lit.int .i64 n).wf = true) y.f2 ∧ ((fun n => (Lit.int .i64 n).wf = true) y.f3 ∧ ((fun n => (Lit.int .i64 n).wf = true) y.f4 ∧ ((fun xs => xs.length ≤ maxLen ∧ xs.length * 8 ≤ 140737488351232 ∧ ∀ x ∈ xs, (fun n => (Lit.int .i64 n).wf = true) x) y.f5 ∧ ((fun xs => xs.length ≤ maxLen ∧ xs.length * 8 ≤ 140737488351232 ∧ ∀ x ∈ xs, (fun n => (Lit.int .i64 n).wf = true) x) y.f6))))))
theorem opens24 : Opens Try.prog k24 24 J24 := opens_struct (fun x : S24 => (x.f0, x.f1, x.f2, x.f3, x.f4, x.f5, x.f6)) (fun p => ⟨p.1, p.2.1, p.2.2.1, p.2.2.2.1, p.2.2.2.2.1, p.2.2.2.2.2.1, p.2.2.2.2.2.2⟩) (fun _ => rfl) Try.underlying24 (by kernel_rfl) (opF_cons rfl rfl (opens_int Try.underlying3) (by kernel_rfl) (opF_cons rfl rfl (opens_int Try.underlying3) (by kernel_rfl) (opF_cons rfl rfl (opens_int Try.underlying3) (by kernel_rfl) (opF_cons rfl rfl (opens_int Try.underlying2) (by kernel_rfl) (opF_cons rfl rfl (opens_int Try.underlying3) (by kernel_rfl) (opF_cons rfl rfl (opens_slice Try.underlying22 (opens_int Try.underlying3) (by kernel_rfl) (by kernel_rfl)) (by kernel_rfl) (opF_one rfl rfl (opens_slice Try.underlying22 (opens_int Try.underlying3) (by kernel_rfl) (by kernel_rfl)) (by kernel_rfl))))))))
def J26 : S26 → Prop := fun y => (fun n => (Lit.int .i64 n).wf = true) y.f0 ∧ (J24 y.f1)
theorem opens26 : Opens Try.prog k26 26 J26 := opens_struct (fun x : S26 => (x.f0, x.f1)) (fun p => ⟨p.1, p.2⟩) (fun _ => rfl) Try.underlying26 (by kernel_rfl) (opF_cons rfl rfl (opens_int Try.underlying3) (by kernel_rfl) (opF_one rfl rfl opens24 (by kernel_rfl)))
end Go.Proofs.Ytnmmkgagbfniiaa.A
end
section
/- Plain facts on the bit operations that the encodings use: no condition beyond the bounds that each fact names. -/
namespace Go.Proofs.Ytnmmkgagbfniiaa.Pl
open Go.RowKit Go.Proofs.YtnmmkgagbfniiaaW.PrintWords Go.Proofs.YtnmmkgagbfniiaaW.PrintMore

theorem wrap64_id {x : Int} (h0 : -9223372036854775808 ≤ x) (h1 : x < 9223372036854775808) : wrap64 x = x := by unfold wrap64; omega
theorem u64_wrap (x : Int) : IntKind.u64.wrap x = x % 18446744073709551616 := IntKind.wrap_u64 x
theorem i64_bounds {a : Int} (h : (Lit.int .i64 a).wf = true) : -9223372036854775808 ≤ a ∧ a < 9223372036854775808 := by
  simp [Lit.wf, IntKind.min, IntKind.max, IntKind.signed, IntKind.bits] at h
  omega
theorem u8_bounds {a : Int} (h : (Lit.int .u8 a).wf = true) : 0 ≤ a ∧ a < 256 := by
  simp [Lit.wf, IntKind.min, IntKind.max, IntKind.signed, IntKind.bits] at h
  omega
theorem nat_xor_ones (x : Nat) (h : x < 18446744073709551616) : x ^^^ 18446744073709551615 = 18446744073709551615 - x := by
  have h1 := congrArg BitVec.toNat (BitVec.xor_allOnes (x := BitVec.ofNat 64 x))
  rw [BitVec.toNat_xor, BitVec.toNat_not, BitVec.toNat_allOnes, BitVec.toNat_ofNat, Nat.mod_eq_of_lt (by omega)] at h1
  simpa using h1
/-- ^x of a uint64. -/
theorem u64_not (x : Int) (h0 : 0 ≤ x) (h1 : x < 18446744073709551616) : bits .xor .u64 18446744073709551615 x = 18446744073709551615 - x := by
  rw [u64_xor _ _ (by omega) (by omega) h0 h1, Nat.xor_comm]
  have := nat_xor_ones x.toNat (by omega)
  simp only [Int.reduceToNat]
  omega
theorem u64_xor_zero (x : Int) (h0 : 0 ≤ x) (h1 : x < 18446744073709551616) : bits .xor .u64 x 0 = x := by
  rw [u64_xor _ _ h0 h1 (by omega) (by omega)]
  simp
  omega
/-- The number that stands for n. -/
def zz (a : Int) : Int := if 0 ≤ a then 2 * a else -2 * a - 1
theorem zz_range {a : Int} (h0 : -9223372036854775808 ≤ a) (h1 : a < 9223372036854775808) : 0 ≤ zz a ∧ zz a < 18446744073709551616 := by unfold zz; split <;> omega
theorem zz_impl {a : Int} (h0 : -9223372036854775808 ≤ a) (h1 : a < 9223372036854775808) :
    bits .xor .u64 (IntKind.u64.wrap ((IntKind.u64.wrap a) * 2)) (IntKind.u64.wrap (a / 9223372036854775808)) = zz a := by
  simp only [u64_wrap]
  by_cases h : 0 ≤ a
  · rw [show a / 9223372036854775808 = 0 by omega, show (0 : Int) % 18446744073709551616 = 0 by omega, u64_xor_zero _ (by omega) (by omega)]
    unfold zz
    rw [if_pos h]
    omega
  · rw [show a / 9223372036854775808 = -1 by omega, show (-1 : Int) % 18446744073709551616 = 18446744073709551615 by omega]
    rw [u64_xor _ _ (by omega) (by omega) (by omega) (by omega)]
    have := nat_xor_ones (a % 18446744073709551616 * 2 % 18446744073709551616).toNat (by omega)
    simp only [Int.reduceToNat]
    rw [this]
    unfold zz
    rw [if_neg h]
    omega
theorem zz_ref_neg {a : Int} (h0 : -9223372036854775808 ≤ a) (h : a < 0) : bits .xor .u64 18446744073709551615 (IntKind.u64.wrap ((IntKind.u64.wrap a) * 2)) = zz a := by
  simp only [u64_wrap]
  rw [u64_not _ (by omega) (by omega)]
  unfold zz
  rw [if_neg (by omega)]
  omega
theorem zz_ref_pos {a : Int} (h : 0 ≤ a) (h1 : a < 9223372036854775808) : IntKind.u64.wrap ((IntKind.u64.wrap a) * 2) = zz a := by
  simp only [u64_wrap]
  unfold zz
  rw [if_pos h]
  omega
theorem nat_or128 : ∀ n < 256, n ||| 128 = n % 128 + 128 := by decide +kernel
theorem u8_or128' (x : Int) : bits .or .u8 (x % 256) 128 = x % 128 + 128 := by
  rw [u8_or _ _ (by omega) (by omega) (by omega) (by omega)]
  have := nat_or128 (x % 256).toNat (by omega)
  simp only [Int.reduceToNat]
  rw [this]
  omega
theorem u8_and127 (x : Int) (h : 0 ≤ x) (h1 : x < 256) : bits .and .u8 x 127 = x % 128 := by
  rw [u8_and _ _ h h1 (by omega) (by omega)]
  have := nat_mask7 x.toNat
  simp only [Int.reduceToNat]
  rw [this]
  omega
theorem u64_and1 (x : Int) (h : 0 ≤ x) (h1 : x < 18446744073709551616) : bits .and .u64 x 1 = x % 2 := by
  rw [u64_and _ _ h h1 (by omega) (by omega)]
  have := nat_mask1 x.toNat
  simp only [Int.reduceToNat]
  rw [this]
  omega
/-- Seven bits more, ahead of those that are there. -/
theorem u64_join (u x : Int) (i : Nat) (h0 : 0 ≤ u) (h1 : u < 2 ^ i) (h2 : 0 ≤ x) (h3 : x * 2 ^ i < 18446744073709551616) (hi : i < 64) : bits .or .u64 u (x * 2 ^ i) = u + x * 2 ^ i := by
  obtain ⟨a, rfl⟩ := Int.eq_ofNat_of_zero_le h0
  obtain ⟨b, rfl⟩ := Int.eq_ofNat_of_zero_le h2
  have e : ((b : Int) * 2 ^ i) = ((b * 2 ^ i : Nat) : Int) := by simp
  have ha : a < 2 ^ i := by exact_mod_cast h1
  have hp : 2 ^ i ≤ 2 ^ 63 := Nat.pow_le_pow_right (by decide) (by omega)
  rw [e] at h3 ⊢
  rw [u64_or_nat _ _ (by omega) (by omega), Nat.or_comm, nat_join i _ _ (by simp) ha]
  omega
theorem ofInt_neg1 : BitVec.ofInt 64 (-1) = BitVec.allOnes 64 := by decide +kernel
theorem i64_xor_ones (x : Int) (h0 : 0 ≤ x) (h1 : x < 9223372036854775808) : bits .xor .i64 (-1) x = -x - 1 ∧ bits .xor .i64 x (-1) = -x - 1 := by
  obtain ⟨a, rfl⟩ := Int.eq_ofNat_of_zero_le h0
  have h2 : (BitVec.ofInt 64 (a : Int)).toNat = a := by rw [BitVec.ofInt_natCast, BitVec.toNat_ofNat]; exact Nat.mod_eq_of_lt (by omega)
  have h3 := nat_xor_ones a (by omega)
  constructor
  · show IntKind.i64.wrap ((BitVec.ofInt 64 (-1) ^^^ BitVec.ofInt 64 (a : Int)).toNat : Int) = _
    rw [BitVec.toNat_xor, h2, ofInt_neg1, BitVec.toNat_allOnes, Nat.xor_comm, show (2 ^ 64 - 1 : Nat) = 18446744073709551615 from rfl, h3, IntKind.wrap_i64]
    omega
  · show IntKind.i64.wrap ((BitVec.ofInt 64 (a : Int) ^^^ BitVec.ofInt 64 (-1)).toNat : Int) = _
    rw [BitVec.toNat_xor, h2, ofInt_neg1, BitVec.toNat_allOnes, show (2 ^ 64 - 1 : Nat) = 18446744073709551615 from rfl, h3, IntKind.wrap_i64]
    omega
theorem i64_xor_zero (x : Int) (h0 : 0 ≤ x) (h1 : x < 9223372036854775808) : bits .xor .i64 x 0 = x := by
  obtain ⟨a, rfl⟩ := Int.eq_ofNat_of_zero_le h0
  have h2 : (BitVec.ofInt 64 (a : Int)).toNat = a := by rw [BitVec.ofInt_natCast, BitVec.toNat_ofNat]; exact Nat.mod_eq_of_lt (by omega)
  show IntKind.i64.wrap ((BitVec.ofInt 64 (a : Int) ^^^ BitVec.ofInt 64 0).toNat : Int) = _
  rw [BitVec.toNat_xor, h2, show (BitVec.ofInt 64 0).toNat = 0 from rfl, Nat.xor_zero, IntKind.wrap_i64]
  omega
/-- The integer that a number stands for. -/
def unzz (u : Int) : Int := if u % 2 = 1 then -(u / 2) - 1 else u / 2
theorem unzz_zz (a : Int) : unzz (zz a) = a := by unfold unzz zz; split <;> split <;> omega
theorem zz_unzz {u : Int} (h : 0 ≤ u) : zz (unzz u) = u := by unfold unzz zz; split <;> split <;> omega
theorem unzz_range {u : Int} (h0 : 0 ≤ u) (h1 : u < 18446744073709551616) : -9223372036854775808 ≤ unzz u ∧ unzz u < 9223372036854775808 := by unfold unzz; split <;> omega
theorem unzz_impl {u : Int} (h0 : 0 ≤ u) (h1 : u < 18446744073709551616) : bits .xor .i64 (wrap64 (u / 2)) (wrap64 (-(wrap64 (bits .and .u64 u 1)))) = unzz u := by
  rw [u64_and1 u h0 h1, wrap64_id (x := u / 2) (by omega) (by omega), wrap64_id (x := u % 2) (by omega) (by omega), wrap64_id (x := -(u % 2)) (by omega) (by omega)]
  unfold unzz
  by_cases h : u % 2 = 1
  · rw [if_pos h, h]
    exact (i64_xor_ones _ (by omega) (by omega)).2
  · rw [if_neg h, show u % 2 = 0 by omega]
    exact i64_xor_zero _ (by omega) (by omega)
end Go.Proofs.Ytnmmkgagbfniiaa.Pl
end
section
/- Integers and their bytes, in plain Lean: what is put, and what is read. No condition beyond the bounds that each fact names. -/
namespace Go.Proofs.Ytnmmkgagbfniiaa.Pl
open Go.RowKit Go.Proofs.YtnmmkgagbfniiaaW.PrintWords Go.Proofs.YtnmmkgagbfniiaaW.PrintMore
set_option linter.unusedVariables false

/-- The bytes of a number. -/
def encN (u : Nat) : List Int := if u < 128 then [(u : Int)] else ((u % 128 + 128 : Nat) : Int) :: encN (u / 128)
  termination_by u
  decreasing_by omega
def enc (a : Int) : List Int := encN (zz a).toNat
theorem encN_small {u : Nat} (h : u < 128) : encN u = [(u : Int)] := by rw [encN, if_pos h]
theorem encN_big {u : Nat} (h : ¬ u < 128) : encN u = ((u % 128 + 128 : Nat) : Int) :: encN (u / 128) := by rw [encN, if_neg h]
theorem encN_pos (u : Nat) : 0 < (encN u).length := by
  by_cases h : u < 128
  · rw [encN_small h]; simp
  · rw [encN_big h]; simp
theorem encN_le : ∀ (n u : Nat), u < 128 ^ (n + 1) → (encN u).length ≤ n + 1 := by
  intro n
  induction n with
  | zero => intro u h; rw [encN_small (by simpa using h)]; simp
  | succ n ih =>
    intro u h
    by_cases hs : u < 128
    · rw [encN_small hs]; simp
    · rw [encN_big hs, List.length_cons]
      have := ih (u / 128) (by rw [Nat.div_lt_iff_lt_mul (by omega)]; rw [Nat.pow_succ] at h; exact h)
      omega
theorem encN_ge : ∀ (n u : Nat), 128 ^ n ≤ u → n + 1 ≤ (encN u).length := by
  intro n
  induction n with
  | zero => intro u _; exact encN_pos u
  | succ n ih =>
    intro u h
    have h1 : 128 ≤ u := by
      have : 0 < 128 ^ n := Nat.pow_pos (by omega)
      rw [Nat.pow_succ] at h
      omega
    rw [encN_big (by omega), List.length_cons]
    have := ih (u / 128) (by rw [Nat.le_div_iff_mul_le (by omega)]; rw [Nat.pow_succ] at h; exact h)
    omega
theorem encN_len10 {u : Nat} (h : u < 18446744073709551616) : (encN u).length ≤ 10 := encN_le 9 u (by omega)
theorem enc_len {a : Int} (h0 : -9223372036854775808 ≤ a) (h1 : a < 9223372036854775808) : 0 < (enc a).length ∧ (enc a).length ≤ 10 := by
  have := zz_range h0 h1
  exact ⟨encN_pos _, encN_len10 (by omega)⟩
theorem encN_bytes : ∀ (u : Nat), ∀ x ∈ encN u, 0 ≤ x ∧ x < 256 := by
  intro u
  induction u using Nat.strongRecOn with
  | _ u ih =>
    by_cases h : u < 128
    · rw [encN_small h]
      intro x hx
      rw [List.mem_singleton] at hx
      omega
    · rw [encN_big h]
      intro x hx
      rcases List.mem_cons.1 hx with rfl | hx
      · omega
      · exact ih _ (by omega) x hx
theorem enc_bytes (a : Int) : ∀ x ∈ enc a, 0 ≤ x ∧ x < 256 := encN_bytes _

/-- What Int answers of the bytes l, d rounds being left, u what was read so far. -/
def dec : Nat → Int → List Int → Int × Int × Int
  | 0, _, _ => (0, 0, 11)
  | _ + 1, _, [] => (0, 0, 9)
  | d + 1, u, c :: t => if 128 ≤ c then dec d (u + (c % 128) * 2 ^ (7 * (9 - d))) t
    else if d = 0 ∧ 1 < c ∨ d < 9 ∧ c = 0 then (0, 0, 11) else (unzz (u + c * 2 ^ (7 * (9 - d))), 10 - (d : Int), 0)
/-- What is put is read again, whatever follows. -/
theorem dec_encN : ∀ (d : Nat) (u v : Nat) (more : List Int), d < 10 → v < 128 ^ (d + 1) → (d = 9 ∨ v ≠ 0) → u + v * 2 ^ (7 * (9 - d)) < 18446744073709551616 →
    dec (d + 1) (u : Int) (encN v ++ more) = (unzz ((u + v * 2 ^ (7 * (9 - d)) : Nat) : Int), 9 - (d : Int) + ((encN v).length : Int), 0) := by
  intro d
  induction d with
  | zero =>
    intro u v more _ hv hz hb
    have hv1 : v < 128 := by simpa using hv
    rw [encN_small hv1]
    have : v ≤ 1 := by
      simp at hb
      omega
    simp only [List.cons_append, List.nil_append, dec]
    rw [if_neg (by omega), if_neg (by omega)]
    simp
  | succ d ih =>
    intro u v more hd hv hz hb
    by_cases hs : v < 128
    · rw [encN_small hs]
      simp only [List.cons_append, List.nil_append, dec]
      rw [if_neg (by omega), if_neg (by omega)]
      simp
      omega
    · rw [encN_big hs]
      simp only [List.cons_append, dec]
      rw [if_pos (by omega)]
      have e1 : 7 * (9 - d) = 7 * (9 - (d + 1)) + 7 := by omega
      have e2 : v % 128 * 2 ^ (7 * (9 - (d + 1))) + v / 128 * 2 ^ (7 * (9 - d)) = v * 2 ^ (7 * (9 - (d + 1))) := by
        rw [e1, Nat.pow_add, ← Nat.mul_assoc, Nat.mul_comm (v / 128) _, Nat.mul_assoc, Nat.mul_comm (2 ^ (7 * (9 - (d + 1)))) , ← Nat.add_mul]
        congr 1
        omega
      have e3 : ((u : Int) + (((v % 128 + 128 : Nat) : Int) % 128) * 2 ^ (7 * (9 - (d + 1)))) = ((u + v % 128 * 2 ^ (7 * (9 - (d + 1))) : Nat) : Int) := by
        rw [show (((v % 128 + 128 : Nat) : Int) % 128) = ((v % 128 : Nat) : Int) by omega]
        simp
      rw [e3, ih _ (v / 128) more (by omega) (by rw [Nat.div_lt_iff_lt_mul (by omega)]; rw [Nat.pow_succ] at hv; exact hv) (.inr (by omega)) (by omega)]
      rw [Nat.add_assoc, e2, List.length_cons]
      simp
      omega
theorem dec_enc {a : Int} (h0 : -9223372036854775808 ≤ a) (h1 : a < 9223372036854775808) (more : List Int) : dec 10 0 (enc a ++ more) = (a, ((enc a).length : Int), 0) := by
  have hz := zz_range h0 h1
  have := dec_encN 9 0 (zz a).toNat more (by omega) (by omega) (.inl rfl) (by simp; omega)
  unfold enc
  rw [show ((0 : Nat) : Int) = (0 : Int) from rfl] at this
  rw [this]
  simp
  rw [show (max (zz a) 0) = zz a by omega, unzz_zz]
/-- What is read was put so. -/
theorem dec_sound : ∀ (d : Nat) (u : Nat) (l : List Int) (n s : Int), d < 10 → (∀ x ∈ l, 0 ≤ x ∧ x < 256) → u < 2 ^ (7 * (9 - d)) → dec (d + 1) (u : Int) l = (n, s, 0) →
    ∃ (v : Nat) (rest : List Int), l = encN v ++ rest ∧ (d = 9 ∨ v ≠ 0) ∧ u + v * 2 ^ (7 * (9 - d)) < 18446744073709551616 ∧ n = unzz ((u + v * 2 ^ (7 * (9 - d)) : Nat) : Int) ∧ s = 9 - (d : Int) + ((encN v).length : Int) := by
  intro d
  induction d with
  | zero =>
    intro u l n s _ hl hu h
    cases l with
    | nil => simp [dec] at h
    | cons c t =>
      have hc := hl c List.mem_cons_self
      simp only [dec] at h
      split at h
      · simp at h
      · split at h
        · simp at h
        · rename_i h1 h2
          simp only [Prod.mk.injEq, and_true] at h
          obtain ⟨rfl, rfl⟩ := h
          obtain ⟨b, rfl⟩ := Int.eq_ofNat_of_zero_le hc.1
          refine ⟨b, t, by rw [encN_small (by omega)]; simp, ?_⟩
          rw [encN_small (by omega)]
          simp at hu h2 ⊢
          omega
  | succ d ih =>
    intro u l n s hd hl hu h
    cases l with
    | nil => simp [dec] at h
    | cons c t =>
      have hc := hl c List.mem_cons_self
      obtain ⟨b, rfl⟩ := Int.eq_ofNat_of_zero_le hc.1
      simp only [dec] at h
      have e1 : 7 * (9 - d) = 7 * (9 - (d + 1)) + 7 := by omega
      split at h
      · rename_i h1
        have e3 : ((u : Int) + ((b : Int) % 128) * 2 ^ (7 * (9 - (d + 1)))) = ((u + b % 128 * 2 ^ (7 * (9 - (d + 1))) : Nat) : Int) := by
          simp
        rw [e3] at h
        have hu2 : u + b % 128 * 2 ^ (7 * (9 - (d + 1))) < 2 ^ (7 * (9 - d)) := by
          rw [e1, Nat.pow_add]
          have : b % 128 * 2 ^ (7 * (9 - (d + 1))) ≤ 127 * 2 ^ (7 * (9 - (d + 1))) := Nat.mul_le_mul_right _ (by omega)
          omega
        obtain ⟨v, rest, rfl, hz, hb, rfl, rfl⟩ := ih _ t n s (by omega) (fun x hx => hl x (List.mem_cons_of_mem _ hx)) hu2 h
        have hv0 : v ≠ 0 := by omega
        have e2 : b % 128 * 2 ^ (7 * (9 - (d + 1))) + v * 2 ^ (7 * (9 - d)) = (b % 128 + v * 128) * 2 ^ (7 * (9 - (d + 1))) := by
          rw [e1, Nat.pow_add, Nat.add_mul]
          congr 1
          rw [Nat.mul_assoc, Nat.mul_comm 128]
        refine ⟨b % 128 + v * 128, rest, ?_, .inr (by omega), ?_, ?_, ?_⟩
        · rw [encN_big (u := b % 128 + v * 128) (by omega), show (b % 128 + v * 128) / 128 = v by omega, show (b % 128 + v * 128) % 128 + 128 = b by omega]
          rfl
        · rw [← e2]; omega
        · rw [← e2, Nat.add_assoc]
        · rw [encN_big (u := b % 128 + v * 128) (by omega), show (b % 128 + v * 128) / 128 = v by omega, List.length_cons]
          omega
      · split at h
        · simp at h
        · rename_i h1 h2
          simp only [Prod.mk.injEq, and_true] at h
          obtain ⟨rfl, rfl⟩ := h
          refine ⟨b, t, by rw [encN_small (by omega)]; simp, by omega, ?_, by simp, ?_⟩
          · have hb' : b ≤ 127 := by omega
            have hb : b * 2 ^ (7 * (9 - (d + 1))) ≤ 127 * 2 ^ (7 * (9 - (d + 1))) := Nat.mul_le_mul_right _ hb'
            have hp : 2 ^ (7 * (9 - (d + 1))) ≤ 2 ^ 56 := Nat.pow_le_pow_right (by omega) (by omega)
            generalize 2 ^ (7 * (9 - (d + 1))) = q at hb hp hu ⊢
            generalize b * q = bq at hb ⊢
            omega
          · rw [encN_small (by omega)]
            simp
            omega
theorem dec_once {l : List Int} {n s : Int} (hl : ∀ x ∈ l, 0 ≤ x ∧ x < 256) (h : dec 10 0 l = (n, s, 0)) :
    -9223372036854775808 ≤ n ∧ n < 9223372036854775808 ∧ ∃ rest, l = enc n ++ rest ∧ s = ((enc n).length : Int) := by
  obtain ⟨v, rest, rfl, _, hb, rfl, rfl⟩ := dec_sound 9 0 l n s (by omega) hl (by simp) h
  simp only [Nat.sub_self, Nat.mul_zero, Nat.pow_zero, Nat.mul_one, Nat.zero_add] at hb ⊢
  have hr := unzz_range (u := (v : Int)) (by omega) (by omega)
  refine ⟨hr.1, hr.2, rest, ?_, ?_⟩
  · unfold enc
    rw [zz_unzz (by omega)]
    rfl
  · unfold enc
    rw [zz_unzz (by omega)]
    simp
/-- With an error the numbers are zero; the error is one of three. -/
theorem dec_bad : ∀ (d : Nat) (u : Int) (l : List Int) (n s e : Int), dec d u l = (n, s, e) → e = 0 ∨ (n = 0 ∧ s = 0 ∧ (e = 9 ∨ e = 11)) := by
  intro d
  induction d with
  | zero => intro u l n s e h; simp [dec] at h; omega
  | succ d ih =>
    intro u l n s e h
    cases l with
    | nil => simp [dec] at h; omega
    | cons c t =>
      simp only [dec] at h
      split at h
      · exact ih _ _ _ _ _ h
      · split at h
        · simp at h; omega
        · simp at h; omega
/-- Of a cut encoding nothing is read. -/
theorem dec_cut : ∀ (d : Nat) (u v : Nat) (m : Nat), d < 10 → v < 128 ^ (d + 1) → (d = 9 ∨ v ≠ 0) → m < (encN v).length → dec (d + 1) (u : Int) ((encN v).take m) = (0, 0, 9) := by
  intro d
  induction d with
  | zero =>
    intro u v m _ hv hz hm
    have hv1 : v < 128 := by simpa using hv
    rw [encN_small hv1] at hm ⊢
    simp at hm
    subst hm
    rfl
  | succ d ih =>
    intro u v m hd hv hz hm
    by_cases hs : v < 128
    · rw [encN_small hs] at hm ⊢
      simp at hm
      subst hm
      rfl
    · rw [encN_big hs] at hm ⊢
      cases m with
      | zero => rfl
      | succ m =>
        simp only [List.take_succ_cons, dec]
        rw [if_pos (by omega)]
        have e3 : ((u : Int) + (((v % 128 + 128 : Nat) : Int) % 128) * 2 ^ (7 * (9 - (d + 1)))) = ((u + v % 128 * 2 ^ (7 * (9 - (d + 1))) : Nat) : Int) := by
          rw [show (((v % 128 + 128 : Nat) : Int) % 128) = ((v % 128 : Nat) : Int) by omega]
          simp
        rw [e3]
        exact ih _ _ m (by omega) (by rw [Nat.div_lt_iff_lt_mul (by omega)]; rw [Nat.pow_succ] at hv; exact hv) (.inr (by omega)) (by simpa using hm)
theorem dec_enc_cut {a : Int} (h0 : -9223372036854775808 ≤ a) (h1 : a < 9223372036854775808) (m : Nat) (hm : m < (enc a).length) : dec 10 0 ((enc a).take m) = (0, 0, 9) := by
  have hz := zz_range h0 h1
  exact dec_cut 9 0 (zz a).toNat m (by omega) (by omega) (.inl rfl) hm
end Go.Proofs.Ytnmmkgagbfniiaa.Pl
end
section
/- What the integer functions of the program and of its reference compute, out of their printed forms: PutInt, Int, SameBytes. -/
namespace Go.Proofs.Ytnmmkgagbfniiaa.Pl
open Go.RowKit Go.Proofs.YtnmmkgagbfniiaaW.PrintWords Go.Proofs.YtnmmkgagbfniiaaW.PrintMore Go.Proofs.Ytnmmkgagbfniiaa.A
set_option linter.unusedVariables false

theorem appendInt_ev : ∀ (u : Nat) (x : List Int), x.length + (encN u).length ≤ 140737488355328 → Ev (fun k => event_appendInt.l0 k x (u : Int)) (x ++ encN u) := by
  intro u
  induction u using Nat.strongRecOn with
  | _ u ih =>
    intro x hx
    by_cases h : u < 128
    · rw [encN_small h] at hx ⊢
      refine Ev.step (f := fun _ => some (x ++ [(u : Int)])) (fun k => ?_) (Ev.now _)
      simp only [List.length_singleton] at hx
      simp only [event_appendInt.l0]
      rw [if_neg (by omega), if_pos (by omega), show (u : Int) % 256 = u by omega]
    · rw [encN_big h] at hx ⊢
      simp only [List.length_cons] at hx
      refine Ev.step (f := fun k => event_appendInt.l0 k (x ++ [((u % 128 + 128 : Nat) : Int)]) ((u / 128 : Nat) : Int)) (fun k => ?_) ?_
      · simp only [event_appendInt.l0]
        rw [if_pos (by omega), if_pos (by omega), u8_or128', show (u : Int) % 128 + 128 = ((u % 128 + 128 : Nat) : Int) by omega, show (u : Int) / 128 = ((u / 128 : Nat) : Int) by omega]
      · have := ih (u / 128) (by omega) (x ++ [((u % 128 + 128 : Nat) : Int)]) (by rw [List.length_append, List.length_singleton]; omega)
        simpa using this
theorem appendInt_f {a : Int} (h0 : -9223372036854775808 ≤ a) (h1 : a < 9223372036854775808) (x : List Int) (hx : x.length ≤ 140737488355318) : Ev (fun k => event_appendInt.f k x a) (x ++ enc a) := by
  have hz := zz_range h0 h1
  have hl := enc_len h0 h1
  have := appendInt_ev (zz a).toNat x (by unfold enc at hl; omega)
  refine Ev.congr (fun k => ?_) this
  unfold event_appendInt.f
  rw [zz_impl h0 h1, show ((zz a).toNat : Int) = zz a by omega]
theorem putInt_f {a : Int} (h0 : -9223372036854775808 ≤ a) (h1 : a < 9223372036854775808) (x : List Int) (hx : x.length ≤ 140737488355318) : Ev (fun k => event_PutInt.f k x a) (x ++ enc a) := appendInt_f h0 h1 x hx

theorem refPutInt_ev : ∀ (u : Nat) (x : List Int), x.length + (encN u).length ≤ 140737488355328 → Ev (fun k => interleaveref11_PutInt.l0 k (u : Int) x) (x ++ encN u) := by
  intro u
  induction u using Nat.strongRecOn with
  | _ u ih =>
    intro x hx
    by_cases h : u < 128
    · rw [encN_small h] at hx ⊢
      refine Ev.step (f := fun _ => some (x ++ [(u : Int)])) (fun k => ?_) (Ev.now _)
      simp only [List.length_singleton] at hx
      simp only [interleaveref11_PutInt.l0]
      rw [if_neg (by omega), if_pos (by omega), show (u : Int) % 256 = u by omega]
    · rw [encN_big h] at hx ⊢
      simp only [List.length_cons] at hx
      refine Ev.step (f := fun k => interleaveref11_PutInt.l0 k ((u / 128 : Nat) : Int) (x ++ [((u % 128 + 128 : Nat) : Int)])) (fun k => ?_) ?_
      · simp only [interleaveref11_PutInt.l0]
        rw [if_pos (by omega), if_pos (by omega), u8_or128', show (u : Int) % 128 + 128 = ((u % 128 + 128 : Nat) : Int) by omega, show (u : Int) / 128 = ((u / 128 : Nat) : Int) by omega]
      · have := ih (u / 128) (by omega) (x ++ [((u % 128 + 128 : Nat) : Int)]) (by rw [List.length_append, List.length_singleton]; omega)
        simpa using this
theorem refPutInt_f {a : Int} (h0 : -9223372036854775808 ≤ a) (h1 : a < 9223372036854775808) (x : List Int) (hx : x.length ≤ 140737488355318) : Ev (fun k => interleaveref11_PutInt.f k x a) (x ++ enc a) := by
  have hz := zz_range h0 h1
  have hl := enc_len h0 h1
  have := refPutInt_ev (zz a).toNat x (by unfold enc at hl; omega)
  rw [show ((zz a).toNat : Int) = zz a by omega] at this
  refine Ev.step (f := fun k => interleaveref11_PutInt.l0 k (zz a) x) (fun k => ?_) this
  unfold interleaveref11_PutInt.f
  by_cases h : a < 0
  · rw [if_pos h, zz_ref_neg h0 h]
    simp only [interleaveref11_PutInt.j0, Option.bind_some, List.nil_append, List.length_nil]
    rw [if_pos (by omega)]
  · rw [if_neg h, zz_ref_pos (by omega) h1]
    simp only [interleaveref11_PutInt.j0, Option.bind_some, List.nil_append, List.length_nil]
    rw [if_pos (by omega)]

/-- Two lists of bytes are compared. -/
theorem same_loop (x y : List Int) (hl : x.length = y.length) (hm : x.length ≤ 140737488355328) : ∀ (d i : Nat), i + d = x.length → Ev (fun k => interleaveref11_SameBytes.l0 k x y (i : Int)) (decide (x.drop i = y.drop i)) := by
  intro d
  induction d with
  | zero =>
    intro i hi
    refine Ev.step (f := fun _ => some _) (fun k => ?_) (Ev.now _)
    simp only [interleaveref11_SameBytes.l0]
    rw [if_neg (by omega), List.drop_of_length_le (by omega), List.drop_of_length_le (by omega)]
    simp
  | succ d ih =>
    intro i hi
    have hx : i < x.length := by omega
    have hy : i < y.length := by omega
    have ex : rd x (i : Int) = x[i] := by simp [rd, List.getD_eq_getElem?_getD, List.getElem?_eq_getElem hx]
    have ey : rd y (i : Int) = y[i] := by simp [rd, List.getD_eq_getElem?_getD, List.getElem?_eq_getElem hy]
    rw [List.drop_eq_getElem_cons hx, List.drop_eq_getElem_cons hy]
    by_cases h : x[i] = y[i]
    · refine Ev.step (f := fun k => interleaveref11_SameBytes.l0 k x y ((i + 1 : Nat) : Int)) (fun k => ?_) ?_
      · simp only [interleaveref11_SameBytes.l0]
        rw [if_pos (by omega), if_pos (by omega), if_pos (by omega), ex, ey, if_pos h, wrap64_id (by omega) (by omega)]
        rfl
      · have := ih (i + 1) (by omega)
        rwa [show decide (x[i] :: x.drop (i + 1) = y[i] :: y.drop (i + 1)) = decide (x.drop (i + 1) = y.drop (i + 1)) from decide_eq_decide.mpr ⟨fun e => (List.cons.inj e).2, fun e => by rw [h, e]⟩]
    · rw [show decide (x[i] :: x.drop (i + 1) = y[i] :: y.drop (i + 1)) = false from decide_eq_false (fun e => h (List.cons.inj e).1)]
      refine Ev.step (f := fun _ => some _) (fun k => ?_) (Ev.now _)
      simp only [interleaveref11_SameBytes.l0]
      rw [if_pos (by omega), if_pos (by omega), if_pos (by omega), ex, ey, if_neg h]
theorem same_f (x y : List Int) (hm : x.length ≤ 140737488355328) : Ev (fun k => interleaveref11_SameBytes.f k x y) (decide (x = y)) := by
  by_cases hl : x.length = y.length
  · have := same_loop x y hl hm x.length 0 (by omega)
    simp only [List.drop_zero] at this
    refine Ev.congr (fun k => ?_) this
    unfold interleaveref11_SameBytes.f
    rw [if_pos (by omega)]
    rfl
  · refine ⟨0, fun k _ => ?_⟩
    show interleaveref11_SameBytes.f k x y = _
    unfold interleaveref11_SameBytes.f
    rw [if_neg (by omega)]
    have : x ≠ y := fun e => hl (by rw [e])
    simp [this]
theorem same_yes (x : List Int) (hm : x.length ≤ 140737488355328) : Ev (fun k => interleaveref11_SameBytes.f k x x) true := by simpa using same_f x x hm
end Go.Proofs.Ytnmmkgagbfniiaa.Pl
end
section
/- What Int computes, of the program and of the reference: 'dec'. -/
namespace Go.Proofs.Ytnmmkgagbfniiaa.Pl
open Go.RowKit Go.Proofs.YtnmmkgagbfniiaaW.PrintWords Go.Proofs.YtnmmkgagbfniiaaW.PrintMore Go.Proofs.Ytnmmkgagbfniiaa.A
set_option linter.unusedVariables false

theorem rd_at {x : List Int} {i : Nat} (h : i < x.length) : rd x (i : Int) = x[i] := by simp [rd, List.getD_eq_getElem?_getD, List.getElem?_eq_getElem h]
/-- One more byte's seven bits. -/
theorem gather {u c : Int} {i : Nat} (hi : i < 10) (h0 : 0 ≤ u) (h1 : u < 2 ^ (7 * i)) (hc0 : 0 ≤ c) (hc1 : c < 256) (h9 : i = 9 → c % 128 ≤ 1) (y : Int) (hy : y = 7 * (i : Int)) :
    bits .or .u64 u (shl .u64 (IntKind.u64.wrap (bits .and .u8 c 127)) y) = u + (c % 128) * 2 ^ (7 * i) := by
  subst hy
  rw [u8_and127 c hc0 hc1, u64_wrap]
  unfold shl
  rw [show min (7 * (i : Int)).toNat IntKind.u64.bits = 7 * i by simp [IntKind.bits]; omega, u64_wrap, show c % 128 % 18446744073709551616 = c % 128 by omega]
  have hp : ((2 : Int) ^ (7 * i)) = ((2 ^ (7 * i) : Nat) : Int) := by simp
  have hb : (c % 128) * 2 ^ (7 * i) < 18446744073709551616 := by
    rw [hp]
    by_cases h : i = 9
    · subst h
      have := h9 rfl
      have h2 : ((2 ^ (7 * 9) : Nat) : Int) = 9223372036854775808 := by decide
      rw [h2]
      omega
    · have h3 : 2 ^ (7 * i) ≤ 2 ^ 56 := Nat.pow_le_pow_right (by decide) (by omega)
      have h4 : (c % 128) * ((2 ^ (7 * i) : Nat) : Int) ≤ 127 * ((2 ^ (7 * i) : Nat) : Int) := Int.mul_le_mul_of_nonneg_right (by omega) (by omega)
      omega
  have hb0 : 0 ≤ (c % 128) * 2 ^ (7 * i) := Int.mul_nonneg (by omega) (by rw [hp]; omega)
  rw [show (c % 128) * 2 ^ (7 * i) % 18446744073709551616 = (c % 128) * 2 ^ (7 * i) by omega]
  exact u64_join u (c % 128) (7 * i) h0 h1 (by omega) hb (by omega)
theorem gather_range {u c : Int} {i : Nat} (h0 : 0 ≤ u) (h1 : u < 2 ^ (7 * i)) : 0 ≤ u + (c % 128) * 2 ^ (7 * i) ∧ u + (c % 128) * 2 ^ (7 * i) < 2 ^ (7 * (i + 1)) := by
  have hp : ((2 : Int) ^ (7 * i)) = ((2 ^ (7 * i) : Nat) : Int) := by simp
  have hp2 : ((2 : Int) ^ (7 * (i + 1))) = 128 * ((2 ^ (7 * i) : Nat) : Int) := by
    rw [Nat.mul_add, Int.pow_add, hp, Int.mul_comm]
    rfl
  rw [hp2]
  rw [hp] at h1 ⊢
  have h4 : (c % 128) * ((2 ^ (7 * i) : Nat) : Int) ≤ 127 * ((2 ^ (7 * i) : Nat) : Int) := Int.mul_le_mul_of_nonneg_right (by omega) (by omega)
  have hb0 : 0 ≤ (c % 128) * ((2 ^ (7 * i) : Nat) : Int) := Int.mul_nonneg (by omega) (by omega)
  omega

theorem int_loop (x : List Int) (hm : x.length ≤ 140737488355328) (hx : ∀ c ∈ x, 0 ≤ c ∧ c < 256) : ∀ (d i : Nat) (u : Int), i + d = 10 → i ≤ x.length → (d ≠ 0 → 0 ≤ u ∧ u < 2 ^ (7 * i)) →
    Ev (fun k => event_Int.l0 k x u (i : Int)) (dec d u (x.drop i)) := by
  intro d
  induction d with
  | zero =>
    intro i u hi _ _
    refine Ev.step (f := fun _ => some _) (fun k => ?_) (Ev.now _)
    simp only [event_Int.l0]
    rw [if_neg (by omega)]
    rfl
  | succ d ih =>
    intro i u hi hxl hu
    obtain ⟨h0, h1⟩ := hu (by omega)
    by_cases he : i = x.length
    · refine Ev.step (f := fun _ => some _) (fun k => ?_) (Ev.now _)
      simp only [event_Int.l0]
      rw [if_pos (by omega), if_pos (by omega), List.drop_of_length_le (by omega)]
      rfl
    · have hlt : i < x.length := by omega
      have hc := hx x[i] (List.getElem_mem hlt)
      have e7 : wrap64 (7 * (i : Int)) = 7 * (i : Int) := wrap64_id (by omega) (by omega)
      have e1 : wrap64 ((i : Int) + 1) = ((i + 1 : Nat) : Int) := by rw [wrap64_id (by omega) (by omega)]; omega
      have ed : 9 - d = i := by omega
      rw [List.drop_eq_getElem_cons hlt]
      simp only [dec]
      rw [ed]
      generalize hcc : x[i] = c at hc ⊢
      by_cases hb : c ≥ 128
      · rw [if_pos hb]
        by_cases h9 : i = 9
        · have hd : d = 0 := by omega
          subst hd
          refine Ev.step (f := fun k => event_Int.l0 k x (bits .or .u64 u (shl .u64 (IntKind.u64.wrap (bits .and .u8 c 127)) (7 * (i : Int)))) ((i + 1 : Nat) : Int)) (fun k => ?_) ?_
          · simp only [event_Int.l0]
            rw [if_pos (by omega), if_neg (by omega), if_pos (by omega), if_pos (by omega), rd_at hlt, hcc, e7, if_pos (by omega), if_pos hb, e1]
          · exact ih (i + 1) _ (by omega) (by omega) (fun h => absurd rfl h)
        · have hg := gather (i := i) (u := u) (c := c) (by omega) h0 h1 hc.1 hc.2 (fun h => absurd h h9) (7 * (i : Int)) rfl
          refine Ev.step (f := fun k => event_Int.l0 k x (u + c % 128 * 2 ^ (7 * i)) ((i + 1 : Nat) : Int)) (fun k => ?_) ?_
          · simp only [event_Int.l0]
            rw [if_pos (by omega), if_neg (by omega), if_pos (by omega), if_pos (by omega), rd_at hlt, hcc, e7, if_pos (by omega), if_pos hb, e1, hg]
          · exact ih (i + 1) _ (by omega) (by omega) (fun _ => gather_range h0 h1)
      · rw [if_neg (by omega)]
        by_cases hbad : d = 0 ∧ 1 < c ∨ d < 9 ∧ c = 0
        · rw [if_pos hbad]
          refine Ev.step (f := fun _ => some _) (fun k => ?_) (Ev.now _)
          simp only [event_Int.l0]
          rw [if_pos (by omega), if_neg (by omega), if_pos (by omega), if_pos (by omega), rd_at hlt, hcc, e7, if_pos (by omega), if_neg hb]
          by_cases h9 : (i : Int) = 9
          · rw [if_pos h9]
            by_cases hc1 : c > 1
            · rw [if_pos hc1]
            · rw [if_neg hc1, if_pos (by omega), if_pos (by omega)]
          · rw [if_neg h9, if_pos (by omega), if_pos (by omega)]
        · rw [if_neg hbad]
          have hm7 : c % 128 = c := by omega
          have hg := gather (i := i) (u := u) (c := c) (by omega) h0 h1 hc.1 hc.2 (fun h => by omega) (7 * (i : Int)) rfl
          rw [hm7] at hg
          have hr := gather_range (i := i) (u := u) (c := c) h0 h1
          rw [hm7] at hr
          have h64 : u + c * 2 ^ (7 * i) < 18446744073709551616 := by
            by_cases h9 : i = 9
            · subst h9
              have hc1 : c ≤ 1 := by omega
              have e2 : ((2 : Int) ^ (7 * 9)) = 9223372036854775808 := by decide
              rw [e2] at h1 ⊢
              omega
            · have h3 : ((2 ^ (7 * (i + 1)) : Nat) : Int) ≤ ((2 ^ 63 : Nat) : Int) := by exact_mod_cast Nat.pow_le_pow_right (by decide) (by omega)
              have h5 : ((2 : Int) ^ (7 * (i + 1))) = ((2 ^ (7 * (i + 1)) : Nat) : Int) := by simp
              have h6 : ((2 ^ 63 : Nat) : Int) = 9223372036854775808 := by decide
              omega
          refine Ev.step (f := fun _ => some _) (fun k => ?_) (Ev.now _)
          simp only [event_Int.l0]
          rw [if_pos (by omega), if_neg (by omega), if_pos (by omega), if_pos (by omega), rd_at hlt, hcc, e7, if_pos (by omega), if_neg hb, hg, e1, unzz_impl hr.1 h64]
          have es : ((i + 1 : Nat) : Int) = 10 - (d : Int) := by omega
          rw [es]
          by_cases h9 : (i : Int) = 9
          · rw [if_pos h9, if_neg (by omega), if_pos (by omega), if_neg (by omega)]
          · rw [if_neg h9]
            by_cases hi0 : (i : Int) > 0
            · rw [if_pos hi0, if_neg (by omega)]
            · rw [if_neg hi0]
theorem int_f (x : List Int) (hm : x.length ≤ 140737488355328) (hx : ∀ c ∈ x, 0 ≤ c ∧ c < 256) : Ev (fun k => event_Int.f k x) (dec 10 0 x) := by
  have := int_loop x hm hx 10 0 0 rfl (Nat.zero_le _) (fun _ => by simp)
  simpa [event_Int.f] using this
theorem refInt_j2 (u : Int) (i : Nat) (h0 : 0 ≤ u) (h1 : u < 18446744073709551616) (hi : i < 10) (b : Bool) :
    Ev (fun k => interleaveref11_Int.j2 k u (i : Int) b) (if b = true then (0, 0, 11) else (unzz u, (i : Int) + 1, 0)) := by
  refine Ev.step (f := fun _ => some _) (fun k => ?_) (Ev.now _)
  simp only [interleaveref11_Int.j2]
  by_cases hb : b = true
  · rw [if_pos hb, if_pos hb]
  · rw [if_neg hb, if_neg hb, u64_and1 u h0 h1, wrap64_id (x := u / 2) (by omega) (by omega), wrap64_id (x := (i : Int) + 1) (by omega) (by omega)]
    unfold unzz
    by_cases h : u % 2 = 1
    · rw [if_pos h, if_pos h, (i64_xor_ones _ (by omega) (by omega)).1]
    · rw [if_neg h, if_neg h]
theorem refInt_loop (x : List Int) (hm : x.length ≤ 140737488355328) (hx : ∀ c ∈ x, 0 ≤ c ∧ c < 256) : ∀ (d i : Nat) (u : Int), i + d = 10 → i ≤ x.length → (d ≠ 0 → 0 ≤ u ∧ u < 2 ^ (7 * i)) →
    Ev (fun k => interleaveref11_Int.l0 k x u (i : Int)) (dec d u (x.drop i)) := by
  intro d
  induction d with
  | zero =>
    intro i u hi _ _
    refine Ev.step (f := fun _ => some _) (fun k => ?_) (Ev.now _)
    simp only [interleaveref11_Int.l0]
    rw [if_neg (by omega)]
    rfl
  | succ d ih =>
    intro i u hi hxl hu
    obtain ⟨h0, h1⟩ := hu (by omega)
    by_cases he : i = x.length
    · refine Ev.step (f := fun _ => some _) (fun k => ?_) (Ev.now _)
      simp only [interleaveref11_Int.l0]
      rw [if_pos (by omega), if_pos (by omega), List.drop_of_length_le (by omega)]
      rfl
    · have hlt : i < x.length := by omega
      have hc := hx x[i] (List.getElem_mem hlt)
      have e7 : IntKind.u64.wrap (wrap64 (7 * (i : Int))) = 7 * (i : Int) := by rw [wrap64_id (by omega) (by omega), u64_wrap]; omega
      have e1 : wrap64 ((i : Int) + 1) = ((i + 1 : Nat) : Int) := by rw [wrap64_id (by omega) (by omega)]; omega
      have ed : 9 - d = i := by omega
      rw [List.drop_eq_getElem_cons hlt]
      simp only [dec]
      rw [ed]
      generalize hcc : x[i] = c at hc ⊢
      -- the tenth byte is looked at first
      refine Ev.step (f := fun k => interleaveref11_Int.j1 k x u (i : Int) (decide (i = 9 ∧ c > 1))) (fun k => ?_) ?_
      · simp only [interleaveref11_Int.l0]
        rw [if_pos (by omega), if_neg (by omega)]
        by_cases h9 : (i : Int) = 9
        · rw [if_pos h9, if_pos (by omega), if_pos (by omega), rd_at hlt, hcc]
          congr 1
          apply decide_eq_decide.mpr
          omega
        · rw [if_neg h9]
          congr 1
          symm
          apply decide_eq_false
          omega
      by_cases hten : i = 9 ∧ c > 1
      · rw [show decide (i = 9 ∧ c > 1) = true from decide_eq_true hten]
        have hr : (if 128 ≤ c then dec d (u + c % 128 * 2 ^ (7 * i)) (List.drop (i + 1) x) else if d = 0 ∧ 1 < c ∨ d < 9 ∧ c = 0 then (0, 0, 11) else (unzz (u + c * 2 ^ (7 * i)), 10 - (d : Int), 0)) = (0, 0, 11) := by
          have hd : d = 0 := by omega
          subst hd
          by_cases hb : 128 ≤ c
          · rw [if_pos hb]; rfl
          · rw [if_neg hb, if_pos (by omega)]
        rw [hr]
        refine Ev.step (f := fun _ => some _) (fun k => ?_) (Ev.now _)
        simp only [interleaveref11_Int.j1]
        rw [if_pos trivial]
      · rw [show decide (i = 9 ∧ c > 1) = false from decide_eq_false hten]
        have hm9 : i = 9 → c % 128 ≤ 1 := by omega
        have hg := gather (i := i) (u := u) (c := c) (by omega) h0 h1 hc.1 hc.2 hm9 (7 * (i : Int)) rfl
        have hr := gather_range (i := i) (u := u) (c := c) h0 h1
        by_cases hb : 128 ≤ c
        · rw [if_pos hb]
          refine Ev.step (f := fun k => interleaveref11_Int.l0 k x (u + c % 128 * 2 ^ (7 * i)) ((i + 1 : Nat) : Int)) (fun k => ?_) ?_
          · simp only [interleaveref11_Int.j1]
            rw [if_neg (by decide), if_pos (by omega), if_pos (by omega), rd_at hlt, hcc, e7, if_pos (by omega), if_neg (by omega), e1, hg]
          · exact ih (i + 1) _ (by omega) (by omega) (fun _ => hr)
        · rw [if_neg hb]
          have hm7 : c % 128 = c := by omega
          rw [hm7] at hg hr
          have h64 : u + c * 2 ^ (7 * i) < 18446744073709551616 := by
            by_cases h9 : i = 9
            · subst h9
              have hc1 : c ≤ 1 := by omega
              have e2 : ((2 : Int) ^ (7 * 9)) = 9223372036854775808 := by decide
              rw [e2] at h1 ⊢
              omega
            · have h3 : ((2 ^ (7 * (i + 1)) : Nat) : Int) ≤ ((2 ^ 63 : Nat) : Int) := by exact_mod_cast Nat.pow_le_pow_right (by decide) (by omega)
              have h5 : ((2 : Int) ^ (7 * (i + 1))) = ((2 ^ (7 * (i + 1)) : Nat) : Int) := by simp
              have h6 : ((2 ^ 63 : Nat) : Int) = 9223372036854775808 := by decide
              omega
          refine Ev.step (f := fun k => interleaveref11_Int.j2 k (u + c * 2 ^ (7 * i)) (i : Int) (decide (0 < i ∧ c = 0))) (fun k => ?_) ?_
          · simp only [interleaveref11_Int.j1]
            rw [if_neg (by decide), if_pos (by omega), if_pos (by omega), rd_at hlt, hcc, e7, if_pos (by omega), if_pos (by omega), hg]
            by_cases hi0 : (i : Int) > 0
            · rw [if_pos hi0]
              congr 1
              rw [show (c == 0) = decide (c = 0) from rfl]
              apply decide_eq_decide.mpr
              omega
            · rw [if_neg hi0]
              congr 1
              symm
              apply decide_eq_false
              omega
          · have := refInt_j2 (u + c * 2 ^ (7 * i)) i hr.1 h64 (by omega) (decide (0 < i ∧ c = 0))
            by_cases hz : 0 < i ∧ c = 0
            · rw [show decide (0 < i ∧ c = 0) = true from decide_eq_true hz] at this ⊢
              rw [if_pos rfl] at this
              rw [if_pos (by omega)]
              exact this
            · rw [show decide (0 < i ∧ c = 0) = false from decide_eq_false hz] at this ⊢
              rw [if_neg (by decide)] at this
              rw [if_neg (by omega), show (10 : Int) - (d : Int) = (i : Int) + 1 by omega]
              exact this
theorem refInt_f (x : List Int) (hm : x.length ≤ 140737488355328) (hx : ∀ c ∈ x, 0 ≤ c ∧ c < 256) : Ev (fun k => interleaveref11_Int.f k x) (dec 10 0 x) := by
  have := refInt_loop x hm hx 10 0 0 rfl (Nat.zero_le _) (fun _ => by simp)
  simpa [interleaveref11_Int.f] using this
end Go.Proofs.Ytnmmkgagbfniiaa.Pl
end
section
/- The bytes of a record, and that Append and the reference's Append put just these behind what they are given. -/
namespace Go.Proofs.Ytnmmkgagbfniiaa.Pl
open Go.RowKit Go.Proofs.YtnmmkgagbfniiaaW.PrintWords Go.Proofs.YtnmmkgagbfniiaaW.PrintMore Go.Proofs.Ytnmmkgagbfniiaa.A
set_option linter.unusedVariables false
def I64 (a : Int) : Prop := -9223372036854775808 ≤ a ∧ a < 9223372036854775808
theorem wrap64_I64 (x : Int) : I64 (wrap64 x) := by unfold I64 wrap64; omega
def encDiffs : Int → List Int → List Int
  | _, [] => []
  | last, n :: t => enc (wrap64 (n - last)) ++ encDiffs n t
def encL (l : List Int) : List Int := enc (l.length : Int) ++ encDiffs 0 l
def encR (d kind obj val site : Int) (deps frm : List Int) : List Int := enc d ++ (enc kind ++ (enc obj ++ (enc val ++ (enc site ++ (encL deps ++ encL frm)))))
theorem enc_le {a : Int} (h : I64 a) : (enc a).length ≤ 10 := (enc_len h.1 h.2).2
theorem encDiffs_len : ∀ (l : List Int) (last : Int), (encDiffs last l).length ≤ 10 * l.length
  | [], _ => by simp [encDiffs]
  | n :: t, last => by
    have h1 := enc_le (wrap64_I64 (n - last))
    have h2 := encDiffs_len t n
    simp only [encDiffs, List.length_append, List.length_cons]
    omega
theorem encL_len (l : List Int) (hl : l.length ≤ 400) : (encL l).length ≤ 10 * l.length + 10 := by
  have h1 := encDiffs_len l 0
  have h2 := enc_le (a := (l.length : Int)) ⟨by omega, by omega⟩
  unfold encL
  rw [List.length_append]
  omega
theorem encDiffs_bytes : ∀ (l : List Int) (last : Int), ∀ x ∈ encDiffs last l, 0 ≤ x ∧ x < 256
  | [], _ => fun x hx => by simp [encDiffs] at hx
  | n :: t, last => fun x hx => by
    simp only [encDiffs, List.mem_append] at hx
    rcases hx with hx | hx
    · exact enc_bytes _ x hx
    · exact encDiffs_bytes t n x hx
theorem encL_bytes (l : List Int) : ∀ x ∈ encL l, 0 ≤ x ∧ x < 256 := fun x hx => by
  rcases List.mem_append.1 hx with hx | hx
  · exact enc_bytes _ x hx
  · exact encDiffs_bytes _ _ x hx
theorem encR_bytes (d kind obj val site : Int) (deps frm : List Int) : ∀ x ∈ encR d kind obj val site deps frm, 0 ≤ x ∧ x < 256 := fun x hx => by
  simp only [encR, List.mem_append] at hx
  rcases hx with hx | hx | hx | hx | hx | hx | hx
  · exact enc_bytes _ x hx
  · exact enc_bytes _ x hx
  · exact enc_bytes _ x hx
  · exact enc_bytes _ x hx
  · exact enc_bytes _ x hx
  · exact encL_bytes _ x hx
  · exact encL_bytes _ x hx
theorem encR_len (d kind obj val site : Int) (deps frm : List Int) (h0 : I64 d) (h1 : I64 kind) (h2 : I64 obj) (h3 : I64 val) (h4 : I64 site) (h5 : deps.length ≤ 400) (h6 : frm.length ≤ 400) : (encR d kind obj val site deps frm).length ≤ 10 * (deps.length + frm.length) + 70 := by
  have a0 := enc_le h0
  have a1 := enc_le h1
  have a2 := enc_le h2
  have a3 := enc_le h3
  have a4 := enc_le h4
  have a5 := encL_len deps h5
  have a6 := encL_len frm h6
  unfold encR
  simp only [List.length_append]
  omega
theorem encR_pos (d kind obj val site : Int) (deps frm : List Int) : 0 < (encR d kind obj val site deps frm).length := by
  unfold encR
  rw [List.length_append]
  have : 0 < (enc d).length := encN_pos _
  omega

theorem appendList_loop (l : List Int) (hl : l.length ≤ 140737488355328) : ∀ (d i : Nat) (x : List Int) (last : Int), i + d = l.length → x.length + 10 * d ≤ 140737488355318 →
    Ev (fun k => event_appendList.l0 k x last l (l.length : Int) (i : Int)) (x ++ encDiffs last (l.drop i)) := by
  intro d
  induction d with
  | zero =>
    intro i x last hi hx
    refine Ev.step (f := fun _ => some _) (fun k => ?_) (Ev.now _)
    simp only [event_appendList.l0]
    rw [if_neg (by omega), List.drop_of_length_le (by omega)]
    simp [encDiffs]
  | succ d ih =>
    intro i x last hi hx
    have hlt : i < l.length := by omega
    have hw := wrap64_I64 (l[i] - last)
    refine Ev.step (f := fun k => (event_appendInt.f k x (wrap64 (l[i] - last))).bind fun t => event_appendList.l0 k t l[i] l (l.length : Int) ((i + 1 : Nat) : Int)) (fun k => ?_) ?_
    · simp only [event_appendList.l0]
      rw [if_pos (by omega), if_pos (by omega), if_pos (by omega), rd_at hlt, wrap64_id (x := (i : Int) + 1) (by omega) (by omega)]
      rfl
    · refine Ev.bind (appendInt_f hw.1 hw.2 x (by omega)) ?_
      have h10 := enc_le hw
      have := ih (i + 1) (x ++ enc (wrap64 (l[i] - last))) l[i] (by omega) (by rw [List.length_append]; omega)
      rw [List.drop_eq_getElem_cons hlt]
      simpa [encDiffs] using this
theorem appendList_f (l x : List Int) (hl : l.length ≤ 400) (hx : x.length ≤ 140737488300000) : Ev (fun k => event_appendList.f k x l) (x ++ encL l) := by
  have h10 := enc_le (a := (l.length : Int)) ⟨by omega, by omega⟩
  refine Ev.bind (appendInt_f (a := (l.length : Int)) (by omega) (by omega) x (by omega)) ?_
  have := appendList_loop l (by omega) l.length 0 (x ++ enc (l.length : Int)) 0 (by omega) (by rw [List.length_append]; omega)
  simpa [encL] using this
theorem putList_loop (l : List Int) (hl : l.length ≤ 140737488355328) : ∀ (d i : Nat) (x : List Int) (last : Int), i + d = l.length → x.length + 10 * d ≤ 140737488355318 →
    Ev (fun k => interleaveref11_putList.l0 k x l last (i : Int)) (x ++ encDiffs last (l.drop i)) := by
  intro d
  induction d with
  | zero =>
    intro i x last hi hx
    refine Ev.step (f := fun _ => some _) (fun k => ?_) (Ev.now _)
    simp only [interleaveref11_putList.l0]
    rw [if_neg (by omega), List.drop_of_length_le (by omega)]
    simp [encDiffs]
  | succ d ih =>
    intro i x last hi hx
    have hlt : i < l.length := by omega
    have hw := wrap64_I64 (l[i] - last)
    refine Ev.step (f := fun k => (interleaveref11_PutInt.f k x (wrap64 (l[i] - last))).bind fun t => interleaveref11_putList.l0 k t l l[i] ((i + 1 : Nat) : Int)) (fun k => ?_) ?_
    · simp only [interleaveref11_putList.l0]
      rw [if_pos (by omega), if_pos (by omega), rd_at hlt, wrap64_id (x := (i : Int) + 1) (by omega) (by omega)]
      rfl
    · refine Ev.bind (refPutInt_f hw.1 hw.2 x (by omega)) ?_
      have h10 := enc_le hw
      have := ih (i + 1) (x ++ enc (wrap64 (l[i] - last))) l[i] (by omega) (by rw [List.length_append]; omega)
      rw [List.drop_eq_getElem_cons hlt]
      simpa [encDiffs] using this
theorem putList_f (l x : List Int) (hl : l.length ≤ 400) (hx : x.length ≤ 140737488300000) : Ev (fun k => interleaveref11_putList.f k x l) (x ++ encL l) := by
  have h10 := enc_le (a := (l.length : Int)) ⟨by omega, by omega⟩
  refine Ev.bind (refPutInt_f (a := (l.length : Int)) (by omega) (by omega) x (by omega)) ?_
  have := putList_loop l (by omega) l.length 0 (x ++ enc (l.length : Int)) 0 (by omega) (by rw [List.length_append]; omega)
  simpa [encL] using this
theorem append_f (x : List Int) (seq thread kind obj val site : Int) (deps frm : List Int) (q : Int) (hx : x.length ≤ 140737488200000) (h1 : I64 kind) (h2 : I64 obj) (h3 : I64 val) (h4 : I64 site) (h5 : deps.length ≤ 400) (h6 : frm.length ≤ 400) :
    Ev (fun k => event_Append.f k x seq thread kind obj val site deps frm q) (x ++ encR (wrap64 (seq - q)) kind obj val site deps frm) := by
  have hw := wrap64_I64 (seq - q)
  have a0 := enc_le hw
  have a1 := enc_le h1
  have a2 := enc_le h2
  have a3 := enc_le h3
  have a4 := enc_le h4
  have a5 := encL_len deps h5
  refine Ev.bind (appendInt_f hw.1 hw.2 x (by omega)) ?_
  refine Ev.bind (appendInt_f h1.1 h1.2 _ (by rw [List.length_append]; omega)) ?_
  refine Ev.bind (appendInt_f h2.1 h2.2 _ (by simp only [List.length_append]; omega)) ?_
  refine Ev.bind (appendInt_f h3.1 h3.2 _ (by simp only [List.length_append]; omega)) ?_
  refine Ev.bind (appendInt_f h4.1 h4.2 _ (by simp only [List.length_append]; omega)) ?_
  refine Ev.bind (appendList_f deps _ h5 (by simp only [List.length_append]; omega)) ?_
  have := appendList_f frm (x ++ enc (wrap64 (seq - q)) ++ enc kind ++ enc obj ++ enc val ++ enc site ++ encL deps) h6 (by simp only [List.length_append]; omega)
  simpa [encR, List.append_assoc] using this
theorem refAppend_f (x : List Int) (seq thread kind obj val site : Int) (deps frm : List Int) (q : Int) (hx : x.length ≤ 140737488200000) (h1 : I64 kind) (h2 : I64 obj) (h3 : I64 val) (h4 : I64 site) (h5 : deps.length ≤ 400) (h6 : frm.length ≤ 400) :
    Ev (fun k => interleaveref11_Append.f k x seq thread kind obj val site deps frm q) (x ++ encR (wrap64 (seq - q)) kind obj val site deps frm) := by
  have hw := wrap64_I64 (seq - q)
  have a0 := enc_le hw
  have a1 := enc_le h1
  have a2 := enc_le h2
  have a3 := enc_le h3
  have a4 := enc_le h4
  have a5 := encL_len deps h5
  refine Ev.bind (refPutInt_f hw.1 hw.2 x (by omega)) ?_
  refine Ev.bind (refPutInt_f h1.1 h1.2 _ (by rw [List.length_append]; omega)) ?_
  refine Ev.bind (refPutInt_f h2.1 h2.2 _ (by simp only [List.length_append]; omega)) ?_
  refine Ev.bind (refPutInt_f h3.1 h3.2 _ (by simp only [List.length_append]; omega)) ?_
  refine Ev.bind (refPutInt_f h4.1 h4.2 _ (by simp only [List.length_append]; omega)) ?_
  refine Ev.bind (putList_f deps _ h5 (by simp only [List.length_append]; omega)) ?_
  have := putList_f frm (x ++ enc (wrap64 (seq - q)) ++ enc kind ++ enc obj ++ enc val ++ enc site ++ encL deps) h6 (by simp only [List.length_append]; omega)
  refine Ev.bind this ?_
  simpa [encR, List.append_assoc] using Ev.now (x ++ encR (wrap64 (seq - q)) kind obj val site deps frm)
end Go.Proofs.Ytnmmkgagbfniiaa.Pl
end
section
/- The sanity check of layer 11 answers true. -/
namespace Go.Proofs.Ytnmmkgagbfniiaa.Pl
open Go.RowKit Go.Proofs.YtnmmkgagbfniiaaW.PrintWords Go.Proofs.YtnmmkgagbfniiaaW.PrintMore Go.Proofs.Ytnmmkgagbfniiaa.A
theorem enc64 : enc 64 = [128, 1] := by
  unfold enc
  rw [show (zz 64).toNat = 128 from rfl, encN_big (by omega), encN_small (by omega)]
  rfl
theorem event_awake : Ev (fun k => interleavelaw11_awake.f k) true := by
  have h := putInt_f (a := 64) (by omega) (by omega) [] (by simp)
  rw [enc64] at h
  exact Ev.bind h ⟨0, fun k _ => by simp [rd]⟩
end Go.Proofs.Ytnmmkgagbfniiaa.Pl
end
section
/- The guards of layer 11's statements; small words on what is known of plain data. -/
namespace Go.Proofs.Ytnmmkgagbfniiaa.Pl
open Go.RowKit Go.Proofs.YtnmmkgagbfniiaaW.PrintWords Go.Proofs.YtnmmkgagbfniiaaW.PrintMore Go.Proofs.Ytnmmkgagbfniiaa.A
set_option linter.unusedVariables false
theorem i64_of {a : Int} (h : (Lit.int .i64 a).wf = true) : I64 a := i64_bounds h
/-- A record's guard: at most 400 of each list, or the statement says nothing. -/
theorem long_f (a0 a1 a2 a3 a4 a5 : Int) (l6 l7 : List Int) : interleavelaw11_long.f a0 a1 a2 a3 a4 a5 l6 l7 = some (decide (¬ (l6.length ≤ 400 ∧ l7.length ≤ 400))) := by
  unfold interleavelaw11_long.f
  by_cases h : (l6.length : Int) > 400
  · rw [if_pos h, decide_eq_true (by omega)]
  · rw [if_neg h]
    congr 1
    apply decide_eq_decide.mpr
    omega
end Go.Proofs.Ytnmmkgagbfniiaa.Pl
end
section
/- What the readers compute, of the program and of the reference. -/
namespace Go.Proofs.Ytnmmkgagbfniiaa.Pl
open Go.RowKit Go.Proofs.YtnmmkgagbfniiaaW.PrintWords Go.Proofs.YtnmmkgagbfniiaaW.PrintMore Go.Proofs.Ytnmmkgagbfniiaa.A
set_option linter.unusedVariables false
/-- The next integer of l from byte at on, if there was no error yet. -/
def nx (l : List Int) (at_ : Nat) (e : Int) : Int × Nat × Int :=
  if e = 0 then ((dec 10 0 (l.drop at_)).1, at_ + (dec 10 0 (l.drop at_)).2.1.toNat, (dec 10 0 (l.drop at_)).2.2) else (0, at_, e)
def c3 (r : Int × Nat × Int) : Int × Int × Int := (r.1, (r.2.1 : Int), r.2.2)
theorem dec_size : ∀ (d : Nat) (u : Int) (l : List Int), d ≤ 10 → 0 ≤ (dec d u l).2.1 ∧ (dec d u l).2.1 ≤ (l.length : Int) + (10 - (d : Int)) ∧ ((dec d u l).2.2 ≠ 0 → (dec d u l).1 = 0 ∧ (dec d u l).2.1 = 0) := by
  intro d
  induction d with
  | zero => intro u l _; simp [dec]; omega
  | succ d ih =>
    intro u l hd
    rcases l with _ | ⟨c, t⟩
    · simp [dec]; omega
    · rw [dec]
      split
      · obtain ⟨h1, h2, h3⟩ := ih (u + (c % 128) * 2 ^ (7 * (9 - d))) t (by omega)
        refine ⟨h1, ?_, h3⟩
        rw [List.length_cons]
        omega
      · split
        · simp; omega
        · rw [List.length_cons]
          refine ⟨by show 0 ≤ 10 - (d : Int); omega, by show 10 - (d : Int) ≤ _; omega, fun h => absurd rfl h⟩
theorem nx_le {l : List Int} {at_ : Nat} {e : Int} (h : at_ ≤ l.length) : (nx l at_ e).2.1 ≤ l.length := by
  unfold nx
  split
  · obtain ⟨h1, h2, _⟩ := dec_size 10 0 (l.drop at_) (by omega)
    rw [List.length_drop] at h2
    show at_ + (dec 10 0 (l.drop at_)).2.1.toNat ≤ _
    omega
  · exact h
section
variable {l : List Int} (hm : l.length ≤ 1000000) (hx : ∀ c ∈ l, 0 ≤ c ∧ c < 256)
include hm hx
theorem next_f (at_ : Nat) (e : Int) (h : at_ ≤ l.length) : Ev (fun k => event_reader_next.f k l (at_ : Int) e) (c3 (nx l at_ e)) := by
  unfold nx
  by_cases c : e = 0
  · rw [if_pos c]
    have hd := int_f (l.drop at_) (by rw [List.length_drop]; omega) (fun z hz => hx z (List.mem_of_mem_drop hz))
    obtain ⟨h1, h2, _⟩ := dec_size 10 0 (l.drop at_) (by omega)
    rw [List.length_drop] at h2
    generalize dec 10 0 (l.drop at_) = p at hd h1 h2 ⊢
    obtain ⟨n, z, e'⟩ := p
    dsimp only at h1 h2
    refine Ev.congr (fun k => by unfold event_reader_next.f; rw [if_pos c, if_pos (by omega), Int.toNat_natCast]) (Ev.bind hd ?_)
    refine Ev.congr (fun k => ?_) (Ev.now _)
    show some (n, wrap64 ((at_ : Int) + z), e') = some (n, ((at_ + z.toNat : Nat) : Int), e')
    rw [wrap64_id (by omega) (by omega), show (at_ : Int) + z = ((at_ + z.toNat : Nat) : Int) by omega]
  · rw [if_neg c]
    exact Ev.congr (fun k => by unfold event_reader_next.f; rw [if_neg c]; rfl) (Ev.now _)
theorem num_f (at_ : Nat) (e : Int) (h : at_ ≤ l.length) : Ev (fun k => interleaveref11_reader_num.f k l (at_ : Int) e) (c3 (nx l at_ e)) := by
  unfold nx
  by_cases c : e = 0
  · rw [if_pos c]
    have hd := refInt_f (l.drop at_) (by rw [List.length_drop]; omega) (fun z hz => hx z (List.mem_of_mem_drop hz))
    obtain ⟨h1, h2, h3⟩ := dec_size 10 0 (l.drop at_) (by omega)
    rw [List.length_drop] at h2
    generalize dec 10 0 (l.drop at_) = p at hd h1 h2 h3 ⊢
    obtain ⟨n, z, e'⟩ := p
    dsimp only at h1 h2 h3
    refine Ev.congr (fun k => by unfold interleaveref11_reader_num.f; rw [if_pos c, if_pos (by omega), Int.toNat_natCast]) (Ev.bind hd ?_)
    refine Ev.congr (fun k => ?_) (Ev.now _)
    show (if e' = 0 then some (n, wrap64 ((at_ : Int) + z), e) else some (0, (at_ : Int), e')) = some (n, ((at_ + z.toNat : Nat) : Int), e')
    by_cases c2 : e' = 0
    · rw [if_pos c2, wrap64_id (by omega) (by omega), show (at_ : Int) + z = ((at_ + z.toNat : Nat) : Int) by omega, c, c2]
    · obtain ⟨h4, h5⟩ := h3 c2
      rw [if_neg c2, h4, h5]
      rfl
  · rw [if_neg c]
    exact Ev.congr (fun k => by unfold interleaveref11_reader_num.f; rw [if_neg c]; rfl) (Ev.now _)
end
/-- m numbers more of a list. -/
def ls (l : List Int) : Nat → Int → List Int → Nat → Int → List Int × Nat × Int
  | 0, _, acc, at_, e => (acc, at_, e)
  | m + 1, last, acc, at_, e => if e = 0 then ls l m (wrap64 (last + (nx l at_ e).1)) (acc ++ [wrap64 (last + (nx l at_ e).1)]) (nx l at_ e).2.1 (nx l at_ e).2.2 else (acc, at_, e)
theorem ls_err (l : List Int) {m : Nat} {last : Int} {acc : List Int} {at_ : Nat} {e : Int} (h : e ≠ 0) : ls l m last acc at_ e = (acc, at_, e) := by
  cases m with
  | zero => rfl
  | succ m => rw [ls, if_neg h]
def l3 (r : List Int × Nat × Int) : List Int × Int × Int := (r.1, (r.2.1 : Int), r.2.2)
/-- A list: its length, and its numbers. -/
def li (l : List Int) (at_ : Nat) (e : Int) : List Int × Nat × Int :=
  let r := nx l at_ e
  if r.2.2 = 0 then (if r.1 < 0 ∨ r.1 > 400 then ([], r.2.1, 11) else ls l r.1.toNat 0 [] r.2.1 r.2.2) else ([], r.2.1, r.2.2)
section
variable {l : List Int} (hm : l.length ≤ 1000000) (hx : ∀ c ∈ l, 0 ≤ c ∧ c < 256)
include hm hx
theorem list_l0 (N : Nat) : ∀ m i (last : Int) (acc : List Int) (at_ : Nat) (e : Int), i + m = N → N ≤ 1000 → at_ ≤ l.length → acc.length ≤ i →
    Ev (fun k => event_reader_list.l0 k (N : Int) acc last (i : Int) l (at_ : Int) e) (l3 (ls l m last acc at_ e)) := by
  intro m
  induction m with
  | zero =>
    intro i last acc at_ e hi hN hat ha
    refine Ev.step (f := fun _ => some _) (fun k => ?_) (Ev.now _)
    simp only [event_reader_list.l0]
    rw [if_neg (by omega)]
    rfl
  | succ m ih =>
    intro i last acc at_ e hi hN hat ha
    rw [ls]
    by_cases c : e = 0
    · rw [if_pos c]
      refine Ev.step (fun k => by simp only [event_reader_list.l0]; rw [if_pos (by omega), if_pos c]) (Ev.bind (next_f hm hx at_ e hat) ?_)
      refine Ev.congr (fun k => ?_) (ih (i + 1) (wrap64 (last + (nx l at_ e).1)) (acc ++ [wrap64 (last + (nx l at_ e).1)]) (nx l at_ e).2.1 (nx l at_ e).2.2 (by omega) hN (nx_le hat) (by rw [List.length_append, List.length_singleton]; omega))
      rw [if_pos (by omega), wrap64_id (x := (i : Int) + 1) (by omega) (by omega)]
      rfl
    · rw [if_neg c]
      refine Ev.step (f := fun _ => some _) (fun k => ?_) (Ev.now _)
      simp only [event_reader_list.l0]
      rw [if_pos (by omega), if_neg c]
      rfl
theorem refList_l0 (N : Nat) : ∀ m i (last : Int) (acc : List Int) (at_ : Nat) (e : Int), i + m = N → N ≤ 1000 → at_ ≤ l.length → acc.length ≤ i →
    Ev (fun k => interleaveref11_reader_list.l0 k (N : Int) acc last (i : Int) l (at_ : Int) e) (l3 (ls l m last acc at_ e)) := by
  intro m
  induction m with
  | zero =>
    intro i last acc at_ e hi hN hat ha
    refine Ev.step (f := fun _ => some _) (fun k => ?_) (Ev.now _)
    simp only [interleaveref11_reader_list.l0]
    rw [if_neg (by omega)]
    rfl
  | succ m ih =>
    intro i last acc at_ e hi hN hat ha
    rw [ls]
    by_cases c : e = 0
    · rw [if_pos c]
      refine Ev.step (fun k => by simp only [interleaveref11_reader_list.l0]; rw [if_pos (by omega), if_pos c]) (Ev.bind (num_f hm hx at_ e hat) ?_)
      refine Ev.congr (fun k => ?_) (ih (i + 1) (wrap64 (last + (nx l at_ e).1)) (acc ++ [wrap64 (last + (nx l at_ e).1)]) (nx l at_ e).2.1 (nx l at_ e).2.2 (by omega) hN (nx_le hat) (by rw [List.length_append, List.length_singleton]; omega))
      rw [if_pos (by omega), wrap64_id (x := (i : Int) + 1) (by omega) (by omega)]
      rfl
    · rw [if_neg c]
      refine Ev.step (f := fun _ => some _) (fun k => ?_) (Ev.now _)
      simp only [interleaveref11_reader_list.l0]
      rw [if_pos (by omega), if_neg c]
      rfl
end
theorem ls_le {l : List Int} : ∀ m (last : Int) (acc : List Int) (at_ : Nat) (e : Int), at_ ≤ l.length → (ls l m last acc at_ e).2.1 ≤ l.length ∧ (ls l m last acc at_ e).1.length ≤ acc.length + m := by
  intro m
  induction m with
  | zero => intro last acc at_ e h; exact ⟨h, Nat.le_refl _⟩
  | succ m ih =>
    intro last acc at_ e h
    rw [ls]
    split
    · obtain ⟨h1, h2⟩ := ih (wrap64 (last + (nx l at_ e).1)) (acc ++ [wrap64 (last + (nx l at_ e).1)]) (nx l at_ e).2.1 (nx l at_ e).2.2 (nx_le h)
      rw [List.length_append, List.length_singleton] at h2
      exact ⟨h1, by omega⟩
    · exact ⟨h, by show acc.length ≤ _; omega⟩
end Go.Proofs.Ytnmmkgagbfniiaa.Pl
end
section
/- What Read computes, of the program and of the reference. -/
namespace Go.Proofs.Ytnmmkgagbfniiaa.Pl
open Go.RowKit Go.Proofs.YtnmmkgagbfniiaaW.PrintWords Go.Proofs.YtnmmkgagbfniiaaW.PrintMore Go.Proofs.Ytnmmkgagbfniiaa.A
set_option linter.unusedVariables false
theorem list_err {l : List Int} {n : Int} {at_ : Nat} {e : Int} (h : e ≠ 0) : Ev (fun k => event_reader_list.l0 k n [] 0 0 l (at_ : Int) e) (l3 ([], at_, e)) := by
  refine Ev.step (f := fun _ => some _) (fun k => ?_) (Ev.now _)
  simp only [event_reader_list.l0]
  rw [if_neg h]
  split <;> rfl
theorem list {l : List Int} (hm : l.length ≤ 1000000) (hx : ∀ c ∈ l, 0 ≤ c ∧ c < 256) (at_ : Nat) (e : Int) (h : at_ ≤ l.length) : Ev (fun k => event_reader_list.f k l (at_ : Int) e) (l3 (li l at_ e)) := by
  have hn := next_f hm hx at_ e h
  have hle := nx_le (l := l) (e := e) h
  unfold li
  generalize nx l at_ e = p at hn hle ⊢
  obtain ⟨n, a, e'⟩ := p
  dsimp only at hle ⊢
  refine Ev.bind hn ?_
  have j1 : ∀ {e2 : Int} {r : List Int × Int × Int}, Ev (fun k => event_reader_list.l0 k n [] 0 0 l (a : Int) e2) r → Ev (fun k => event_reader_list.j1 k n l (a : Int) e2) r := fun hh => Ev.step (fun k => by simp only [event_reader_list.j1]) hh
  have j0t : ∀ {r : List Int × Int × Int}, Ev (fun k => event_reader_list.l0 k n [] 0 0 l (a : Int) 11) r → Ev (fun k => event_reader_list.j0 k n true l (a : Int) e') r := fun hh => Ev.step (fun k => by simp only [event_reader_list.j0]; rw [if_pos trivial]) (j1 hh)
  have j0f : ∀ {r : List Int × Int × Int}, Ev (fun k => event_reader_list.l0 k n [] 0 0 l (a : Int) e') r → Ev (fun k => event_reader_list.j0 k n false l (a : Int) e') r := fun hh => Ev.step (fun k => by simp only [event_reader_list.j0]; rw [if_neg (by simp)]) (j1 hh)
  by_cases c : e' = 0
  · rw [if_pos c]
    by_cases c1 : n < 0
    · rw [if_pos (.inl c1)]
      exact Ev.congr (fun k => by show (if e' = 0 then _ else _) = _; rw [if_pos c]; show (if n < 0 then _ else _) = _; rw [if_pos c1]; rfl) (j0t (list_err (by decide)))
    · by_cases c2 : n > 400
      · rw [if_pos (.inr c2)]
        exact Ev.congr (fun k => by show (if e' = 0 then _ else _) = _; rw [if_pos c]; show (if n < 0 then _ else _) = _; rw [if_neg c1]; show event_reader_list.j0 k n (decide (n > 400)) l (a : Int) e' = _; rw [decide_eq_true c2]) (j0t (list_err (by decide)))
      · rw [if_neg (by omega)]
        obtain ⟨N, rfl⟩ := Int.eq_ofNat_of_zero_le (show 0 ≤ n by omega)
        have := list_l0 hm hx N N 0 0 [] a e' (by omega) (by omega) hle (Nat.le_refl _)
        exact Ev.congr (fun k => by show (if e' = 0 then _ else _) = _; rw [if_pos c]; show (if (N : Int) < 0 then _ else _) = _; rw [if_neg c1]; show event_reader_list.j0 k (N : Int) (decide ((N : Int) > 400)) l (a : Int) e' = _; rw [decide_eq_false c2]) (j0f this)
  · rw [if_neg c]
    exact Ev.congr (fun k => by show (if e' = 0 then _ else _) = _; rw [if_neg c]; rfl) (j0f (list_err c))
theorem refList_err {l : List Int} {n : Int} {at_ : Nat} {e : Int} (h : e ≠ 0) : Ev (fun k => interleaveref11_reader_list.l0 k n [] 0 0 l (at_ : Int) e) (l3 ([], at_, e)) := by
  refine Ev.step (f := fun _ => some _) (fun k => ?_) (Ev.now _)
  simp only [interleaveref11_reader_list.l0]
  rw [if_neg h]
  split <;> rfl
theorem refList {l : List Int} (hm : l.length ≤ 1000000) (hx : ∀ c ∈ l, 0 ≤ c ∧ c < 256) (at_ : Nat) (e : Int) (h : at_ ≤ l.length) : Ev (fun k => interleaveref11_reader_list.f k l (at_ : Int) e) (l3 (li l at_ e)) := by
  have hn := num_f hm hx at_ e h
  have hle := nx_le (l := l) (e := e) h
  unfold li
  generalize nx l at_ e = p at hn hle ⊢
  obtain ⟨n, a, e'⟩ := p
  dsimp only at hle ⊢
  refine Ev.bind hn ?_
  have j1 : ∀ {e2 : Int} {r : List Int × Int × Int}, Ev (fun k => interleaveref11_reader_list.l0 k n [] 0 0 l (a : Int) e2) r → Ev (fun k => interleaveref11_reader_list.j1 k n l (a : Int) e2) r := fun hh => Ev.step (fun k => by simp only [interleaveref11_reader_list.j1]) hh
  have j0t : ∀ {r : List Int × Int × Int}, Ev (fun k => interleaveref11_reader_list.l0 k n [] 0 0 l (a : Int) 11) r → Ev (fun k => interleaveref11_reader_list.j0 k n true l (a : Int) e') r := fun hh => Ev.step (fun k => by simp only [interleaveref11_reader_list.j0]; rw [if_pos trivial]) (j1 hh)
  have j0f : ∀ {r : List Int × Int × Int}, Ev (fun k => interleaveref11_reader_list.l0 k n [] 0 0 l (a : Int) e') r → Ev (fun k => interleaveref11_reader_list.j0 k n false l (a : Int) e') r := fun hh => Ev.step (fun k => by simp only [interleaveref11_reader_list.j0]; rw [if_neg (by simp)]) (j1 hh)
  by_cases c : e' = 0
  · rw [if_pos c]
    by_cases c1 : n < 0
    · rw [if_pos (.inl c1)]
      exact Ev.congr (fun k => by show (if e' = 0 then _ else _) = _; rw [if_pos c]; show (if n < 0 then _ else _) = _; rw [if_pos c1]; rfl) (j0t (refList_err (by decide)))
    · by_cases c2 : n > 400
      · rw [if_pos (.inr c2)]
        exact Ev.congr (fun k => by show (if e' = 0 then _ else _) = _; rw [if_pos c]; show (if n < 0 then _ else _) = _; rw [if_neg c1]; show interleaveref11_reader_list.j0 k n (decide (n > 400)) l (a : Int) e' = _; rw [decide_eq_true c2]) (j0t (refList_err (by decide)))
      · rw [if_neg (by omega)]
        obtain ⟨N, rfl⟩ := Int.eq_ofNat_of_zero_le (show 0 ≤ n by omega)
        have := refList_l0 hm hx N N 0 0 [] a e' (by omega) (by omega) hle (Nat.le_refl _)
        exact Ev.congr (fun k => by show (if e' = 0 then _ else _) = _; rw [if_pos c]; show (if (N : Int) < 0 then _ else _) = _; rw [if_neg c1]; show interleaveref11_reader_list.j0 k (N : Int) (decide ((N : Int) > 400)) l (a : Int) e' = _; rw [decide_eq_false c2]) (j0f this)
  · rw [if_neg c]
    exact Ev.congr (fun k => by show (if e' = 0 then _ else _) = _; rw [if_neg c]; rfl) (j0f (refList_err c))
theorem li_le {l : List Int} {at_ : Nat} {e : Int} (h : at_ ≤ l.length) : (li l at_ e).2.1 ≤ l.length ∧ (li l at_ e).1.length ≤ 400 := by
  have hle := nx_le (l := l) (e := e) h
  unfold li
  dsimp only
  split
  · split
    · exact ⟨hle, by simp⟩
    · obtain ⟨h1, h2⟩ := ls_le (l := l) (nx l at_ e).1.toNat 0 [] (nx l at_ e).2.1 (nx l at_ e).2.2 hle
      rw [List.length_nil] at h2
      exact ⟨h1, by omega⟩
  · exact ⟨hle, by simp⟩
/-- The steps of Read. -/
def r0 (l : List Int) := nx l 0 0
def r1 (l : List Int) := nx l (r0 l).2.1 (r0 l).2.2
def r2 (l : List Int) := nx l (r1 l).2.1 (r1 l).2.2
def r3 (l : List Int) := nx l (r2 l).2.1 (r2 l).2.2
def r4 (l : List Int) := nx l (r3 l).2.1 (r3 l).2.2
def r5 (l : List Int) := li l (r4 l).2.1 (r4 l).2.2
def r6 (l : List Int) := li l (r5 l).2.1 (r5 l).2.2
/-- What Read tells. -/
def rdS (l : List Int) (th sq : Int) : Int × Int × Int × Int × Int × Int × List Int × List Int × Int × Int :=
  if (r6 l).2.2 = 0 then (wrap64 ((r0 l).1 + sq), th, (r1 l).1, (r2 l).1, (r3 l).1, (r4 l).1, (r5 l).1, (r6 l).1, ((r6 l).2.1 : Int), 0) else (0, 0, 0, 0, 0, 0, [], [], 0, (r6 l).2.2)
theorem r_le (l : List Int) : (r0 l).2.1 ≤ l.length ∧ (r1 l).2.1 ≤ l.length ∧ (r2 l).2.1 ≤ l.length ∧ (r3 l).2.1 ≤ l.length ∧ (r4 l).2.1 ≤ l.length ∧ (r5 l).2.1 ≤ l.length ∧ (r6 l).2.1 ≤ l.length := by
  have h0 : (r0 l).2.1 ≤ l.length := nx_le (Nat.zero_le _)
  have h1 : (r1 l).2.1 ≤ l.length := nx_le h0
  have h2 : (r2 l).2.1 ≤ l.length := nx_le h1
  have h3 : (r3 l).2.1 ≤ l.length := nx_le h2
  have h4 : (r4 l).2.1 ≤ l.length := nx_le h3
  have h5 : (r5 l).2.1 ≤ l.length := (li_le h4).1
  exact ⟨h0, h1, h2, h3, h4, h5, (li_le h5).1⟩
theorem read_f {l : List Int} (hm : l.length ≤ 1000000) (hx : ∀ c ∈ l, 0 ≤ c ∧ c < 256) (th sq : Int) : Ev (fun k => event_Read.f k l th sq) (rdS l th sq) := by
  obtain ⟨h0, h1, h2, h3, h4, h5, h6⟩ := r_le l
  refine Ev.bind (next_f hm hx 0 0 (Nat.zero_le _)) (Ev.bind (next_f hm hx (r0 l).2.1 (r0 l).2.2 h0) (Ev.bind (next_f hm hx (r1 l).2.1 (r1 l).2.2 h1) (Ev.bind (next_f hm hx (r2 l).2.1 (r2 l).2.2 h2) (Ev.bind (next_f hm hx (r3 l).2.1 (r3 l).2.2 h3) (Ev.bind (list hm hx (r4 l).2.1 (r4 l).2.2 h4) (Ev.bind (list hm hx (r5 l).2.1 (r5 l).2.2 h5) ?_))))))
  refine Ev.congr (fun k => ?_) (Ev.now _)
  unfold rdS
  show (if (r6 l).2.2 = 0 then _ else _) = some (if (r6 l).2.2 = 0 then _ else _)
  split <;> rfl
theorem refRead_f {l : List Int} (hm : l.length ≤ 1000000) (hx : ∀ c ∈ l, 0 ≤ c ∧ c < 256) (th sq : Int) : Ev (fun k => interleaveref11_Read.f k l th sq) (rdS l th sq) := by
  obtain ⟨h0, h1, h2, h3, h4, h5, h6⟩ := r_le l
  refine Ev.bind (num_f hm hx 0 0 (Nat.zero_le _)) (Ev.bind (num_f hm hx (r0 l).2.1 (r0 l).2.2 h0) (Ev.bind (num_f hm hx (r1 l).2.1 (r1 l).2.2 h1) (Ev.bind (num_f hm hx (r2 l).2.1 (r2 l).2.2 h2) (Ev.bind (num_f hm hx (r3 l).2.1 (r3 l).2.2 h3) (Ev.bind (refList hm hx (r4 l).2.1 (r4 l).2.2 h4) (Ev.bind (refList hm hx (r5 l).2.1 (r5 l).2.2 h5) ?_))))))
  refine Ev.congr (fun k => ?_) (Ev.now _)
  unfold rdS
  show (if (r6 l).2.2 = 0 then some (wrap64 (sq + (r0 l).1), _) else _) = some (if (r6 l).2.2 = 0 then (wrap64 ((r0 l).1 + sq), _) else _)
  rw [Int.add_comm sq]
  split <;> rfl
end Go.Proofs.Ytnmmkgagbfniiaa.Pl
end
section
/- Bytes that Read accepts are those of the record. -/
namespace Go.Proofs.Ytnmmkgagbfniiaa.Pl
open Go.RowKit Go.Proofs.YtnmmkgagbfniiaaW.PrintWords Go.Proofs.YtnmmkgagbfniiaaW.PrintMore Go.Proofs.Ytnmmkgagbfniiaa.A
set_option linter.unusedVariables false
theorem nx_zero {l : List Int} {at_ : Nat} {e : Int} (h : (nx l at_ e).2.2 = 0) : e = 0 := by
  unfold nx at h
  by_cases c : e = 0
  · exact c
  · rw [if_neg c] at h
    exact h
theorem nx_once {l : List Int} (hx : ∀ c ∈ l, 0 ≤ c ∧ c < 256) {at_ : Nat} (hat : at_ ≤ l.length) {e : Int} (h : (nx l at_ e).2.2 = 0) :
    e = 0 ∧ I64 (nx l at_ e).1 ∧ l.take (nx l at_ e).2.1 = l.take at_ ++ enc (nx l at_ e).1 := by
  have he := nx_zero h
  unfold nx at h ⊢
  rw [if_pos he] at h ⊢
  dsimp only at h ⊢
  obtain ⟨h1, h2, rest, h3, h4⟩ := dec_once (l := l.drop at_) (n := (dec 10 0 (l.drop at_)).1) (s := (dec 10 0 (l.drop at_)).2.1) (fun z hz => hx z (List.mem_of_mem_drop hz)) (Prod.ext rfl (Prod.ext rfl h))
  refine ⟨he, ⟨h1, h2⟩, ?_⟩
  rw [h4, Int.toNat_natCast, List.take_add]
  congr 1
  generalize (dec 10 0 (l.drop at_)).1 = n at h3
  rw [h3, List.take_left]
theorem wrap_back {last d : Int} (hd : I64 d) : wrap64 (wrap64 (last + d) - last) = d := by
  unfold I64 at hd
  unfold wrap64
  omega
theorem ls_once {l : List Int} (hx : ∀ c ∈ l, 0 ≤ c ∧ c < 256) : ∀ m (last : Int) (acc : List Int) (at_ : Nat) (e : Int), at_ ≤ l.length → (ls l m last acc at_ e).2.2 = 0 →
    e = 0 ∧ ∃ ys, (ls l m last acc at_ e).1 = acc ++ ys ∧ ys.length = m ∧ l.take (ls l m last acc at_ e).2.1 = l.take at_ ++ encDiffs last ys := by
  intro m
  induction m with
  | zero =>
    intro last acc at_ e hat h
    exact ⟨h, [], by simp [ls], rfl, by simp [ls, encDiffs]⟩
  | succ m ih =>
    intro last acc at_ e hat h
    by_cases c : e = 0
    · rw [ls, if_pos c] at h ⊢
      obtain ⟨h1, ys, h2, h3, h4⟩ := ih _ _ _ _ (nx_le hat) h
      obtain ⟨_, h5, h6⟩ := nx_once hx hat h1
      refine ⟨c, wrap64 (last + (nx l at_ e).1) :: ys, by rw [h2, List.append_assoc]; rfl, by rw [List.length_cons, h3], ?_⟩
      rw [h4, h6, encDiffs, wrap_back h5, List.append_assoc]
    · rw [ls_err l c] at h
      exact absurd h c
theorem li_once {l : List Int} (hx : ∀ c ∈ l, 0 ≤ c ∧ c < 256) {at_ : Nat} (hat : at_ ≤ l.length) {e : Int} (h : (li l at_ e).2.2 = 0) :
    e = 0 ∧ l.take (li l at_ e).2.1 = l.take at_ ++ encL (li l at_ e).1 := by
  unfold li at h ⊢
  dsimp only at h ⊢
  by_cases c : (nx l at_ e).2.2 = 0
  · rw [if_pos c] at h ⊢
    obtain ⟨h1, h2, h3⟩ := nx_once hx hat c
    by_cases c1 : (nx l at_ e).1 < 0 ∨ (nx l at_ e).1 > 400
    · rw [if_pos c1] at h
      exact absurd h (by simp)
    · rw [if_neg c1] at h ⊢
      obtain ⟨_, ys, h4, h5, h6⟩ := ls_once hx _ _ _ _ _ (nx_le hat) h
      refine ⟨h1, ?_⟩
      rw [h6, h4, List.nil_append, h3]
      unfold encL
      rw [List.append_assoc, show (ys.length : Int) = (nx l at_ e).1 by omega]
  · rw [if_neg c] at h
    exact absurd h c
end Go.Proofs.Ytnmmkgagbfniiaa.Pl
end
section
/- What was appended is read again, whatever follows. -/
namespace Go.Proofs.Ytnmmkgagbfniiaa.Pl
open Go.RowKit Go.Proofs.YtnmmkgagbfniiaaW.PrintWords Go.Proofs.YtnmmkgagbfniiaaW.PrintMore Go.Proofs.Ytnmmkgagbfniiaa.A
set_option linter.unusedVariables false
theorem nx_enc {a : Int} (ha : I64 a) (pre rest : List Int) : nx (pre ++ (enc a ++ rest)) pre.length 0 = (a, (pre ++ enc a).length, 0) := by
  unfold nx
  rw [if_pos rfl, List.drop_left, dec_enc ha.1 ha.2 rest, List.length_append]
  rfl
theorem wrap_fwd {last n : Int} (hn : I64 n) : wrap64 (last + wrap64 (n - last)) = n := by
  unfold I64 at hn
  unfold wrap64
  omega
theorem ls_enc : ∀ (ys : List Int) (last : Int) (acc pre rest : List Int), (∀ y ∈ ys, I64 y) →
    ls (pre ++ (encDiffs last ys ++ rest)) ys.length last acc pre.length 0 = (acc ++ ys, (pre ++ encDiffs last ys).length, 0) := by
  intro ys
  induction ys with
  | nil => intro last acc pre rest _; simp [ls, encDiffs]
  | cons y ys ih =>
    intro last acc pre rest hy
    have h1 : I64 y := hy y (by simp)
    rw [List.length_cons, ls, if_pos rfl]
    have e : pre ++ (encDiffs last (y :: ys) ++ rest) = pre ++ (enc (wrap64 (y - last)) ++ (encDiffs y ys ++ rest)) := by rw [encDiffs, List.append_assoc]
    rw [e, nx_enc (wrap64_I64 _)]
    dsimp only
    rw [wrap_fwd h1]
    have := ih y (acc ++ [y]) (pre ++ enc (wrap64 (y - last))) rest (fun z hz => hy z (List.mem_cons_of_mem _ hz))
    rw [List.append_assoc] at this
    rw [this, List.append_assoc, encDiffs, List.append_assoc]
    rfl
theorem li_enc {ys : List Int} (hl : ys.length ≤ 400) (hy : ∀ y ∈ ys, I64 y) (pre rest : List Int) : li (pre ++ (encL ys ++ rest)) pre.length 0 = (ys, (pre ++ encL ys).length, 0) := by
  have e : pre ++ (encL ys ++ rest) = pre ++ (enc (ys.length : Int) ++ (encDiffs 0 ys ++ rest)) := by rw [encL, List.append_assoc]
  have hn := nx_enc (a := (ys.length : Int)) (by unfold I64; omega) pre (encDiffs 0 ys ++ rest)
  unfold li
  rw [e, hn]
  dsimp only
  rw [if_pos rfl, if_neg (by omega), Int.toNat_natCast]
  have := ls_enc ys 0 [] (pre ++ enc (ys.length : Int)) rest hy
  rw [List.append_assoc] at this
  rw [this, List.nil_append, encL, List.append_assoc]
/-- A record's bytes and whatever follows: the record, and the number of its bytes. -/
theorem rdS_enc {sq seq kind obj val site : Int} {deps frm : List Int} (h0 : I64 seq) (h1 : I64 kind) (h2 : I64 obj) (h3 : I64 val) (h4 : I64 site) (h5 : deps.length ≤ 400) (h6 : frm.length ≤ 400) (h7 : ∀ y ∈ deps, I64 y) (h8 : ∀ y ∈ frm, I64 y) (more : List Int) (th : Int) :
    rdS (encR (wrap64 (seq - sq)) kind obj val site deps frm ++ more) th sq = (seq, th, kind, obj, val, site, deps, frm, ((encR (wrap64 (seq - sq)) kind obj val site deps frm).length : Int), 0) := by
  obtain ⟨d, hd⟩ : ∃ d, d = wrap64 (seq - sq) := ⟨_, rfl⟩
  have hdI : I64 d := by rw [hd]; exact wrap64_I64 _
  have hback : wrap64 (d + sq) = seq := by rw [hd, Int.add_comm]; exact wrap_fwd h0
  rw [← hd]
  obtain ⟨l, hl⟩ : ∃ l, l = encR d kind obj val site deps frm ++ more := ⟨_, rfl⟩
  rw [← hl]
  have s0 : r0 l = (d, (enc d).length, 0) := by
    have := nx_enc hdI [] (enc kind ++ (enc obj ++ (enc val ++ (enc site ++ (encL deps ++ (encL frm ++ more))))))
    unfold r0
    rw [hl]
    simp only [encR, List.append_assoc, List.nil_append, List.length_nil] at this ⊢
    exact this
  have s1 : r1 l = (kind, (enc d ++ enc kind).length, 0) := by
    have := nx_enc h1 (enc d) (enc obj ++ (enc val ++ (enc site ++ (encL deps ++ (encL frm ++ more)))))
    unfold r1
    rw [s0, hl]
    simp only [encR, List.append_assoc] at this ⊢
    exact this
  have s2 : r2 l = (obj, (enc d ++ (enc kind ++ enc obj)).length, 0) := by
    have := nx_enc h2 (enc d ++ enc kind) (enc val ++ (enc site ++ (encL deps ++ (encL frm ++ more))))
    unfold r2
    rw [s1, hl]
    simp only [encR, List.append_assoc] at this ⊢
    exact this
  have s3 : r3 l = (val, (enc d ++ (enc kind ++ (enc obj ++ enc val))).length, 0) := by
    have := nx_enc h3 (enc d ++ (enc kind ++ enc obj)) (enc site ++ (encL deps ++ (encL frm ++ more)))
    unfold r3
    rw [s2, hl]
    simp only [encR, List.append_assoc] at this ⊢
    exact this
  have s4 : r4 l = (site, (enc d ++ (enc kind ++ (enc obj ++ (enc val ++ enc site)))).length, 0) := by
    have := nx_enc h4 (enc d ++ (enc kind ++ (enc obj ++ enc val))) (encL deps ++ (encL frm ++ more))
    unfold r4
    rw [s3, hl]
    simp only [encR, List.append_assoc] at this ⊢
    exact this
  have s5 : r5 l = (deps, (enc d ++ (enc kind ++ (enc obj ++ (enc val ++ (enc site ++ encL deps))))).length, 0) := by
    have := li_enc h5 h7 (enc d ++ (enc kind ++ (enc obj ++ (enc val ++ enc site)))) (encL frm ++ more)
    unfold r5
    rw [s4, hl]
    simp only [encR, List.append_assoc] at this ⊢
    exact this
  have s6 : r6 l = (frm, (encR d kind obj val site deps frm).length, 0) := by
    have := li_enc h6 h8 (enc d ++ (enc kind ++ (enc obj ++ (enc val ++ (enc site ++ encL deps))))) more
    unfold r6
    rw [s5, hl]
    simp only [encR, List.append_assoc] at this ⊢
    exact this
  unfold rdS
  rw [s6, s5, s4, s3, s2, s1, s0]
  dsimp only
  rw [if_pos rfl, hback]
end Go.Proofs.Ytnmmkgagbfniiaa.Pl
end
section
/- A record's bytes without their end are truncated. -/
namespace Go.Proofs.Ytnmmkgagbfniiaa.Pl
open Go.RowKit Go.Proofs.YtnmmkgagbfniiaaW.PrintWords Go.Proofs.YtnmmkgagbfniiaaW.PrintMore Go.Proofs.Ytnmmkgagbfniiaa.A
set_option linter.unusedVariables false
theorem take_pre {pre x : List Int} {M : Nat} (h : pre.length ≤ M) : (pre ++ x).take M = pre ++ x.take (M - pre.length) := by
  rw [List.take_append, List.take_of_length_le h]
theorem nx_bad (l : List Int) (at_ : Nat) {e : Int} (h : e ≠ 0) : nx l at_ e = (0, at_, e) := by
  unfold nx
  rw [if_neg h]
theorem li_bad (l : List Int) (at_ : Nat) {e : Int} (h : e ≠ 0) : li l at_ e = ([], at_, e) := by
  unfold li
  rw [nx_bad l at_ h]
  dsimp only
  rw [if_neg h]
/-- An integer's bytes, cut. -/
theorem nx_cut {a : Int} (ha : I64 a) (pre : List Int) {m : Nat} (hm : m < (enc a).length) : (nx (pre ++ (enc a).take m) pre.length 0).2.2 = 9 := by
  unfold nx
  rw [if_pos rfl, List.drop_left, dec_enc_cut ha.1 ha.2 m hm]
theorem ls_cut : ∀ (ys : List Int) (last : Int) (acc pre : List Int) (m : Nat), (∀ y ∈ ys, I64 y) → m < (encDiffs last ys).length →
    (ls (pre ++ (encDiffs last ys).take m) ys.length last acc pre.length 0).2.2 = 9 := by
  intro ys
  induction ys with
  | nil => intro last acc pre m _ h; simp [encDiffs] at h
  | cons y ys ih =>
    intro last acc pre m hy hm
    have h1 : I64 y := hy y (by simp)
    rw [encDiffs, List.length_append] at hm
    rw [List.length_cons, ls, if_pos rfl, encDiffs]
    by_cases c : m < (enc (wrap64 (y - last))).length
    · rw [List.take_append_of_le_length (by omega)]
      have hb := nx_cut (wrap64_I64 (y - last)) pre c
      rw [ls_err _ (by rw [hb]; decide)]
      exact hb
    · rw [take_pre (by omega), nx_enc (wrap64_I64 _)]
      dsimp only
      rw [wrap_fwd h1, ← List.append_assoc]
      exact ih y _ (pre ++ enc (wrap64 (y - last))) _ (fun z hz => hy z (List.mem_cons_of_mem _ hz)) (by omega)
theorem li_cut {ys : List Int} (hl : ys.length ≤ 400) (hy : ∀ y ∈ ys, I64 y) (pre : List Int) {m : Nat} (hm : m < (encL ys).length) : (li (pre ++ (encL ys).take m) pre.length 0).2.2 = 9 := by
  have hI : I64 (ys.length : Int) := by unfold I64; omega
  rw [encL, List.length_append] at hm
  rw [encL]
  unfold li
  by_cases c : m < (enc (ys.length : Int)).length
  · rw [List.take_append_of_le_length (by omega)]
    have hb := nx_cut hI pre c
    dsimp only
    rw [if_neg (by rw [hb]; decide)]
    exact hb
  · rw [take_pre (by omega), nx_enc hI]
    dsimp only
    rw [if_pos rfl, if_neg (by omega), Int.toNat_natCast, ← List.append_assoc]
    exact ls_cut ys 0 [] (pre ++ enc (ys.length : Int)) _ hy (by omega)
end Go.Proofs.Ytnmmkgagbfniiaa.Pl
end
section
/- Read of a record's bytes without their end: truncated. -/
namespace Go.Proofs.Ytnmmkgagbfniiaa.Pl
open Go.RowKit Go.Proofs.YtnmmkgagbfniiaaW.PrintWords Go.Proofs.YtnmmkgagbfniiaaW.PrintMore Go.Proofs.Ytnmmkgagbfniiaa.A
set_option linter.unusedVariables false
/-- One integer more of a cut text: either it is whole, or all is over. -/
theorem nx_step {a : Int} (ha : I64 a) {l pre X : List Int} {m : Nat} (hl : l = pre ++ (enc a ++ X).take m) (r : Int × Nat × Int) (hr : r.2.1 = pre.length ∧ r.2.2 = 0) :
    (nx l r.2.1 r.2.2).2.2 = 9 ∨ ((nx l r.2.1 r.2.2).2.1 = (pre ++ enc a).length ∧ (nx l r.2.1 r.2.2).2.2 = 0 ∧ l = (pre ++ enc a) ++ X.take (m - (enc a).length) ∧ (enc a).length ≤ m) := by
  rw [hr.1, hr.2]
  by_cases c : m < (enc a).length
  · left
    rw [hl, List.take_append_of_le_length (by omega)]
    exact nx_cut ha pre c
  · right
    have e : l = pre ++ (enc a ++ X.take (m - (enc a).length)) := by rw [hl, take_pre (by omega)]
    have hn := nx_enc ha pre (X.take (m - (enc a).length))
    rw [← e] at hn
    rw [hn]
    exact ⟨rfl, rfl, by rw [e, List.append_assoc], by omega⟩
theorem li_step {ys : List Int} (h1 : ys.length ≤ 400) (hy : ∀ y ∈ ys, I64 y) {l pre X : List Int} {m : Nat} (hl : l = pre ++ (encL ys ++ X).take m) (at_ : Nat) (e : Int) (hr : at_ = pre.length ∧ e = 0) :
    (li l at_ e).2.2 = 9 ∨ ((li l at_ e).2.1 = (pre ++ encL ys).length ∧ (li l at_ e).2.2 = 0 ∧ l = (pre ++ encL ys) ++ X.take (m - (encL ys).length) ∧ (encL ys).length ≤ m) := by
  rw [hr.1, hr.2]
  by_cases c : m < (encL ys).length
  · left
    rw [hl, List.take_append_of_le_length (by omega)]
    exact li_cut h1 hy pre c
  · right
    have e : l = pre ++ (encL ys ++ X.take (m - (encL ys).length)) := by rw [hl, take_pre (by omega)]
    have hn := li_enc h1 hy pre (X.take (m - (encL ys).length))
    rw [← e] at hn
    rw [hn]
    exact ⟨rfl, rfl, by rw [e, List.append_assoc], by omega⟩
theorem nine {e : Int} (h : e = 9) : e ≠ 0 := by omega
theorem rdS_cut {d kind obj val site : Int} {deps frm : List Int} (h0 : I64 d) (h1 : I64 kind) (h2 : I64 obj) (h3 : I64 val) (h4 : I64 site) (h5 : deps.length ≤ 400) (h6 : frm.length ≤ 400) (h7 : ∀ y ∈ deps, I64 y) (h8 : ∀ y ∈ frm, I64 y) {m : Nat} (hm : m < (encR d kind obj val site deps frm).length) :
    (r6 ((encR d kind obj val site deps frm).take m)).2.2 = 9 := by
  obtain ⟨l, hl⟩ : ∃ l, l = (encR d kind obj val site deps frm).take m := ⟨_, rfl⟩
  rw [← hl]
  have n6 : (r5 l).2.2 = 9 → (r6 l).2.2 = 9 := fun h => by unfold r6; rw [li_bad _ _ (nine h)]; exact h
  have n5 : (r4 l).2.2 = 9 → (r6 l).2.2 = 9 := fun h => n6 (by unfold r5; rw [li_bad _ _ (nine h)]; exact h)
  have n4 : (r3 l).2.2 = 9 → (r6 l).2.2 = 9 := fun h => n5 (by unfold r4; rw [nx_bad _ _ (nine h)]; exact h)
  have n3 : (r2 l).2.2 = 9 → (r6 l).2.2 = 9 := fun h => n4 (by unfold r3; rw [nx_bad _ _ (nine h)]; exact h)
  have n2 : (r1 l).2.2 = 9 → (r6 l).2.2 = 9 := fun h => n3 (by unfold r2; rw [nx_bad _ _ (nine h)]; exact h)
  have n1 : (r0 l).2.2 = 9 → (r6 l).2.2 = 9 := fun h => n2 (by unfold r1; rw [nx_bad _ _ (nine h)]; exact h)
  unfold encR at hl hm
  simp only [List.length_append] at hm
  rcases nx_step h0 (l := l) (pre := []) hl (0, 0, 0) ⟨rfl, rfl⟩ with h | ⟨a1, a2, a3, a4⟩
  · exact n1 h
  rcases nx_step h1 a3 (r0 l) ⟨a1, a2⟩ with h | ⟨b1, b2, b3, b4⟩
  · exact n2 h
  rcases nx_step h2 b3 (r1 l) ⟨b1, b2⟩ with h | ⟨c1, c2, c3, c4⟩
  · exact n3 h
  rcases nx_step h3 c3 (r2 l) ⟨c1, c2⟩ with h | ⟨d1, d2, d3, d4⟩
  · exact n4 h
  rcases nx_step h4 d3 (r3 l) ⟨d1, d2⟩ with h | ⟨e1, e2, e3, e4⟩
  · exact n5 h
  rcases li_step h5 h7 e3 (r4 l).2.1 (r4 l).2.2 ⟨e1, e2⟩ with h | ⟨f1, f2, f3, f4⟩
  · exact n6 h
  rcases li_step (X := []) h6 h8 (f3.trans (by rw [List.append_nil])) (r5 l).2.1 (r5 l).2.2 ⟨f1, f2⟩ with h | ⟨g1, g2, g3, g4⟩
  · exact h
  · omega
end Go.Proofs.Ytnmmkgagbfniiaa.Pl
end
section
/- SameInts, SameEvent of equal values. -/
namespace Go.Proofs.Ytnmmkgagbfniiaa.Pl
open Go.RowKit Go.Proofs.YtnmmkgagbfniiaaW.PrintWords Go.Proofs.YtnmmkgagbfniiaaW.PrintMore Go.Proofs.Ytnmmkgagbfniiaa.A
set_option linter.unusedVariables false
theorem sameInts_loop (x : List Int) (hm : x.length ≤ 140737488355328) : ∀ d i, i + d = x.length → Ev (fun k => interleaveref07_SameInts.l0 k x x (i : Int)) true := by
  intro d
  induction d with
  | zero =>
    intro i hi
    refine Ev.step (f := fun _ => some _) (fun k => ?_) (Ev.now _)
    simp only [interleaveref07_SameInts.l0]
    rw [if_neg (by omega)]
  | succ d ih =>
    intro i hi
    refine Ev.step (fun k => ?_) (ih (i + 1) (by omega))
    simp only [interleaveref07_SameInts.l0]
    rw [if_pos (by omega), if_pos (by omega), if_pos (by omega), if_pos trivial, wrap64_id (by omega) (by omega)]
    rfl
theorem sameInts_yes (x : List Int) (hm : x.length ≤ 140737488355328) : Ev (fun k => interleaveref07_SameInts.f k x x) true := by
  refine Ev.congr (fun k => ?_) (sameInts_loop x hm x.length 0 (by omega))
  unfold interleaveref07_SameInts.f
  rw [if_pos rfl]
  rfl
theorem sameEvent_yes (a b c d e : Int) (x y : List Int) (hx : x.length ≤ 400) (hy : y.length ≤ 400) : Ev (fun k => interleaveref09_SameEvent.f k a b c d e x y a b c d e x y) true := by
  refine Ev.congr (f := fun k => (interleaveref07_SameInts.f k x x).bind fun t351 => (if t351 = true then ((interleaveref07_SameInts.f k y y).bind fun t352 => (some t352)) else (some false))) (fun k => ?_) (Ev.bind (sameInts_yes x (by omega)) ?_)
  · unfold interleaveref09_SameEvent.f
    rw [if_pos rfl, if_pos rfl, if_pos rfl, if_pos rfl, if_pos rfl]
  · exact Ev.congr (fun k => if_pos rfl) (Ev.bind (sameInts_yes y (by omega)) (Ev.now true))
end Go.Proofs.Ytnmmkgagbfniiaa.Pl
end
section
/- The plain statement of the law EventRoundTrip. -/
namespace Go.Proofs.Ytnmmkgagbfniiaa.A
open Go.RowKit Go.Proofs.YtnmmkgagbfniiaaW.PrintWords Go.Proofs.Ytnmmkgagbfniiaa.OpenKd
set_option linter.unusedVariables false
/-- What is left to show of the law: no memory in it. -/
def interleavelaw11_EventRoundTrip.Pure : Prop := ∀ (x0 : S26) (x1 : Int) (x2 : List Int) (x3 : Int), J26 x0 → (fun n => (Lit.int .i64 n).wf = true) x1 → (fun xs => xs.length ≤ maxLen ∧ xs.length * 1 ≤ 140737488351232 ∧ ∀ x ∈ xs, (fun n => (Lit.int .u8 n).wf = true) x) x2 → (fun n => (Lit.int .u16 n).wf = true) x3 → ∃ k, interleavelaw11_EventRoundTrip.f k (x0.f0) (x0.f1.f0) (x0.f1.f1) (x0.f1.f2) (x0.f1.f3) (x0.f1.f4) (x0.f1.f5) (x0.f1.f6) x1 x2 x3 = some true
end Go.Proofs.Ytnmmkgagbfniiaa.A
end
section
/- Every record is read as it was appended, whatever follows, and cut bytes are truncated: the plain side of the statement EventRoundTrip. No condition. -/
namespace Go.Proofs.Ytnmmkgagbfniiaa.Pure
open Go.RowKit Go.Proofs.YtnmmkgagbfniiaaW.PrintWords Go.Proofs.YtnmmkgagbfniiaaW.PrintMore Go.Proofs.Ytnmmkgagbfniiaa.A Go.Proofs.Ytnmmkgagbfniiaa.Pl
set_option linter.unusedVariables false
theorem trip_yes {q seq th kind obj val site : Int} {deps frm more : List Int} {a : Nat} : Ev (fun k => interleavelaw11_EventRoundTrip.j0 k q more (a : Int) true seq th kind obj val site deps frm) true := by
  refine Ev.step (f := fun _ => some true) (fun k => ?_) (Ev.now _)
  simp only [interleavelaw11_EventRoundTrip.j0]
  exact if_pos trivial
theorem trip_no {q seq th kind obj val site : Int} {deps frm more : List Int} {a : Nat} (ha : a < 65536) (h0 : I64 seq) (h1 : I64 kind) (h2 : I64 obj) (h3 : I64 val) (h4 : I64 site) (h5 : deps.length ≤ 400) (h6 : frm.length ≤ 400) (h7 : ∀ y ∈ deps, I64 y) (h8 : ∀ y ∈ frm, I64 y) (hm : more.length ≤ 300) (hb : ∀ c ∈ more, 0 ≤ c ∧ c < 256) :
    Ev (fun k => interleavelaw11_EventRoundTrip.j0 k q more (a : Int) false seq th kind obj val site deps frm) true := by
  have hap := append_f [] seq th kind obj val site deps frm q (by simp) h1 h2 h3 h4 h5 h6
  have hw := wrap64_I64 (seq - q)
  have hlen := encR_len (wrap64 (seq - q)) kind obj val site deps frm hw h1 h2 h3 h4 h5 h6
  have hpos := encR_pos (wrap64 (seq - q)) kind obj val site deps frm
  have hby := encR_bytes (wrap64 (seq - q)) kind obj val site deps frm
  have hr := rdS_enc (sq := q) h0 h1 h2 h3 h4 h5 h6 h7 h8 more th
  have hcut := fun (m : Nat) => rdS_cut (m := m) hw h1 h2 h3 h4 h5 h6 h7 h8
  rw [List.nil_append] at hap
  generalize encR (wrap64 (seq - q)) kind obj val site deps frm = p at *
  have hread := read_f (l := p ++ more) (by rw [List.length_append]; omega) (fun c hc => (List.mem_append.1 hc).elim (hby c) (hb c)) th q
  rw [hr] at hread
  have e1 : Int.tmod (wrap64 (a : Int)) (p.length : Int) = ((a % p.length : Nat) : Int) := by
    rw [wrap64_id (by omega) (by omega), Int.tmod_eq_emod_of_nonneg (by omega)]
    rfl
  have hmod : a % p.length < p.length := Nat.mod_lt _ hpos
  generalize a % p.length = m at e1 hmod
  have hE := Aside0.mk e1
  clear e1
  have hread2 := read_f (l := p.take m) (by rw [List.length_take]; omega) (fun c hc => hby c (List.mem_of_mem_take hc)) th q
  have h9 := hcut m hmod
  have hrd : rdS (p.take m) th q = (0, 0, 0, 0, 0, 0, [], [], 0, 9) := by
    unfold rdS
    rw [if_neg (by rw [h9]; decide), h9]
  rw [hrd] at hread2
  refine Ev.step (fun k => by simp only [interleavelaw11_EventRoundTrip.j0]; exact if_neg (by decide)) (Ev.bind hap ?_)
  refine Ev.congr (fun k => by rw [if_neg (by omega), Option.bind_some, List.nil_append, if_pos (by simp only [List.length_nil]; omega), Option.bind_some, if_pos (by omega)]) (Ev.bind hread ?_)
  refine Ev.congr (f := fun k => (interleaveref09_SameEvent.f k th kind obj val site deps frm th kind obj val site deps frm).bind fun t500 => (if t500 = true then (if 0 ≤ (Int.tmod (wrap64 (a : Int)) (p.length : Int)) then (if (Int.tmod (wrap64 (a : Int)) (p.length : Int)) ≤ (p.length : Int) then ((event_Read.f k (p.take ((Int.tmod (wrap64 (a : Int)) (p.length : Int)) : Int).toNat) th q).bind fun bt505 => (if bt505.2.2.2.2.2.2.2.2.2 = 9 then (some (bt505.2.2.2.2.2.2.2.2.1 == 0)) else (none))) else (none)) else (none)) else (none))) (fun k => ?_) (Ev.bind (sameEvent_yes th kind obj val site deps frm h5 h6) ?_)
  · rw [if_pos rfl, if_pos rfl, if_pos rfl]
  · refine Ev.congr (fun k => by rw [if_pos rfl, hE.out, if_pos (by omega), if_pos (by omega), Int.toNat_natCast]) (Ev.bind hread2 ?_)
    exact Ev.congr (fun k => by rw [if_pos rfl]; rfl) (Ev.now true)
theorem EventRoundTrip : interleavelaw11_EventRoundTrip.Pure := by
  intro r q more a hr hq hmore ha
  obtain ⟨hs0, ⟨_, hk, ho, hv, hs, ⟨_, _, hd⟩, ⟨_, _, hf⟩⟩⟩ := hr
  obtain ⟨_, _, hmb⟩ := hmore
  have ha' : 0 ≤ a ∧ a < 65536 := by
    simp [Lit.wf, IntKind.min, IntKind.max, IntKind.signed, IntKind.bits] at ha
    omega
  obtain ⟨n, rfl⟩ := Int.eq_ofNat_of_zero_le ha'.1
  refine Ev.rounds ?_
  by_cases hl : r.f1.f5.length ≤ 400 ∧ r.f1.f6.length ≤ 400
  · by_cases h3 : (more.length : Int) > 300
    · refine Ev.congr (fun k => ?_) (trip_yes (q := q) (seq := r.f0) (th := r.f1.f0) (kind := r.f1.f1) (obj := r.f1.f2) (val := r.f1.f3) (site := r.f1.f4) (deps := r.f1.f5) (frm := r.f1.f6) (more := more) (a := n))
      unfold interleavelaw11_EventRoundTrip.f
      rw [long_f, Option.bind_some, if_neg (by simpa using hl), decide_eq_true h3]
    · refine Ev.congr (fun k => ?_) (trip_no (q := q) (th := r.f1.f0) (a := n) (by omega) (i64_of hs0) (i64_of hk) (i64_of ho) (i64_of hv) (i64_of hs) hl.1 hl.2 (fun y hy => i64_of (hd y hy)) (fun y hy => i64_of (hf y hy)) (by omega) (fun c hc => u8_bounds (hmb c hc)))
      unfold interleavelaw11_EventRoundTrip.f
      rw [long_f, Option.bind_some, if_neg (by simpa using hl), decide_eq_false h3]
  · refine Ev.congr (fun k => ?_) (trip_yes (q := q) (seq := r.f0) (th := r.f1.f0) (kind := r.f1.f1) (obj := r.f1.f2) (val := r.f1.f3) (site := r.f1.f4) (deps := r.f1.f5) (frm := r.f1.f6) (more := more) (a := n))
    unfold interleavelaw11_EventRoundTrip.f
    rw [long_f, Option.bind_some, if_pos (by have := hl; simp; omega)]
end Go.Proofs.Ytnmmkgagbfniiaa.Pure
end
