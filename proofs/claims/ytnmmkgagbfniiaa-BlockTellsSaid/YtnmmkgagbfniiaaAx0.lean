/- Made by a program of this session (drv.py) over the kit's printer: plain functions, and the proofs that the program's functions come to their answers. No condition. -/
import Derived.Test.YtnmmkgagbfniiaaProg
import Derived.Below
import Derived.Deep.Draws
import Derived.Deep.AppendLies
import Derived.Maps.AppendAt
import Derived.OwnWalk
import Derived.Laws.BytesArg
import Derived.Laws.MakeOwn
import Derived.Laws.OwnMore
import Derived.Deep.OwnRows
import Derived.Tactics
import Derived.Lib.ConvBytes
import Derived.Laws.Slices
import Derived.WalkKit
import Derived.KernelRfl
import Derived.RowKit3
import Derived.Deep.LoopGhost
import Derived.Deep.QuietTactic
import Derived.BigQuiet
import Derived.WideLaws
import Derived.Deep.DeepCutAuto
import Derived.Deep.CutBlock
import Derived.Deep.RegionHeld3
import Derived.Laws.Rows
import Derived.Lib.AppendStr
import Derived.ArgAppend
import Derived.Laws.IdiomCopy
import Derived.OrdersHeld
import Derived.Laws.BitsLemmas
import Derived.RowKit
import Derived.Test.YtnmmkgagbfniiaaWWords
import Derived.Test.YtnmmkgagbfniiaaWLast
import Derived.Test.YtnmmkgagbfniiaaWTab
import Derived.Test.YtnmmkgagbfniiaaWFour
import Derived.Test.YtnmmkgagbfniiaaWQPut
import Derived.Test.YtnmmkgagbfniiaaWApart
import Derived.Test.YtnmmkgagbfniiaaWArr
import Derived.Test.YtnmmkgagbfniiaaWZeros
import Derived.Test.YtnmmkgagbfniiaaWFoot
import Derived.Test.YtnmmkgagbfniiaaWKept
import Derived.Test.YtnmmkgagbfniiaaWShare
import Derived.Test.YtnmmkgagbfniiaaWN
import Derived.Test.YtnmmkgagbfniiaaWFootNe
import Derived.Test.YtnmmkgagbfniiaaWAt
import Derived.Test.YtnmmkgagbfniiaaWEqStruct
import Derived.Test.YtnmmkgagbfniiaaWRepsOne
import Derived.Test.YtnmmkgagbfniiaaWInv
import Derived.Test.YtnmmkgagbfniiaaWInvWords
import Derived.Test.YtnmmkgagbfniiaaWGuard
import Derived.Test.YtnmmkgagbfniiaaWNEv
import Derived.Test.YtnmmkgagbfniiaaWMore
namespace Go.Proofs.Ytnmmkgagbfniiaa.A
open Go.RowKit Go.Proofs.YtnmmkgagbfniiaaW.PrintWords Go.Proofs.YtnmmkgagbfniiaaW.PrintLast Go.Proofs.YtnmmkgagbfniiaaW.PrintMore
attribute [local go_sem] max2_int min2_int max_two min_two max_three min_three max_four min_four   -- for this text's walks alone
set_option linter.unusedVariables false
set_option linter.unusedSimpArgs false



def errW : Option Int → Value
  | none => .nilIface
  | some c => .iface 0 (.int .i64 c)
theorem errW_none : errW none = .nilIface := rfl
theorem errW_some (c : Int) : errW (some c) = .iface 0 (.int .i64 c) := rfl

theorem info3 : (Try.prog.info? 3).map (fun i => (i.zero, i.size, i.bytes)) = some (some (.int .i64 0), 1, 8) := by kernel_rfl
theorem info5 : (Try.prog.info? 5).map (fun i => (i.zero, i.size, i.bytes)) = some (some (.int .u8 0), 1, 1) := by kernel_rfl
theorem info26 : (Try.prog.info? 26).map (fun i => (i.zero, i.size, i.bytes)) = some (some (.agg #[(.int .i64 0), (.int .i64 0), (.int .i64 0), (.int .i64 0), (.int .i64 0), (.int .i64 0), (.slice none 0 0), (.slice none 0 0)]), 8, 96) := by kernel_rfl
-- the values' own types
def rd_L1 (xs : List (List Int)) (i : Int) : (List Int) := xs.getD i.toNat ([] : List Int)
theorem at_L1 {w : World} {A : Option Addr} {n : Nat} {xs : List (List Int)} (h : Kd.C (Kd.slice 3 (Kd.int .i64)) w A n xs) (i : Int) (h0 : 0 ≤ i) (h1 : i < n) : ∃ ad A0 c0, A = some ad ∧ w.cell? (ad.add i.toNat) = some (.slice A0 (rd_L1 xs i).length c0) ∧ (rd_L1 xs i).length ≤ c0 ∧ (Kd.int .i64).C w A0 (rd_L1 xs i).length (rd_L1 xs i) := by
  obtain ⟨ad, c, e, _, hK, hc0⟩ := Kd.C_get h ([] : List Int) i h0 h1
  have hc : ∀ j u, c[j]? = some u → w.cell? (ad.add (i.toNat * 1 + j)) = some u := hc0
  obtain ⟨A0, c0, rfl, l0, g0⟩ := hK
  exact ⟨ad, A0, c0, e, by have hq := hc 0 _ rfl; rwa [Nat.mul_one, Nat.add_zero] at hq, l0, g0⟩

/-! #### struct type 24 -/
structure S24 where
  f0 : Int
  f1 : Int
  f2 : Int
  f3 : Int
  f4 : Int
  f5 : (List Int)
  f6 : (List Int)
def z24 : S24 := ⟨(0 : Int), (0 : Int), (0 : Int), (0 : Int), (0 : Int), ([] : List Int), ([] : List Int)⟩
def k24 : Kd S24 := Kd.iso (Kd.pair (Kd.int .i64) (Kd.pair (Kd.int .i64) (Kd.pair (Kd.int .i64) (Kd.pair (Kd.int .i64) (Kd.pair (Kd.int .i64) (Kd.pair (Kd.slice 3 (Kd.int .i64)) (Kd.slice 3 (Kd.int .i64)))))))) (fun x : S24 => (x.f0, x.f1, x.f2, x.f3, x.f4, x.f5, x.f6))
theorem k24_open {w : World} {x : S24} {cs : List Value} (h : k24.K w x cs) : ∃ A5 c5 A6 c6, cs = [.int .i64 x.f0, .int .i64 x.f1, .int .i64 x.f2, .int .i64 x.f3, .int .i64 x.f4, .slice A5 x.f5.length c5, .slice A6 x.f6.length c6] ∧ x.f5.length ≤ c5 ∧ (Kd.int .i64).C w A5 x.f5.length x.f5 ∧ x.f6.length ≤ c6 ∧ (Kd.int .i64).C w A6 x.f6.length x.f6 := by
  obtain ⟨_, _, rfl, rfl, ⟨_, _, rfl, rfl, ⟨_, _, rfl, rfl, ⟨_, _, rfl, rfl, ⟨_, _, rfl, rfl, ⟨_, _, rfl, ⟨A5, c5, rfl, l5, g5⟩, ⟨A6, c6, rfl, l6, g6⟩⟩⟩⟩⟩⟩⟩ := h
  exact ⟨A5, c5, A6, c6, rfl, l5, g5, l6, g6⟩
theorem k24_openM {w : World} {base : Nat} {ok : Nat → Prop} {x : S24} {cs : List Value} (h : k24.M w base ok x cs) : ∃ v5 v6, cs = [.int .i64 x.f0, .int .i64 x.f1, .int .i64 x.f2, .int .i64 x.f3, .int .i64 x.f4, v5, v6] ∧ (Kd.int .i64).R 3 w base ok v5 x.f5 ∧ (Kd.int .i64).R 3 w base ok v6 x.f6 := by
  obtain ⟨_, _, rfl, rfl, ⟨_, _, rfl, rfl, ⟨_, _, rfl, rfl, ⟨_, _, rfl, rfl, ⟨_, _, rfl, rfl, ⟨_, _, rfl, ⟨v5, rfl, g5⟩, ⟨v6, rfl, g6⟩⟩⟩⟩⟩⟩⟩ := h
  exact ⟨v5, v6, rfl, g5, g6⟩
theorem k24_mk (w : World) (x : S24) {A5 : Option Addr} {c5 : Nat} (l5 : x.f5.length ≤ c5) (g5 : (Kd.int .i64).C w A5 x.f5.length x.f5) {A6 : Option Addr} {c6 : Nat} (l6 : x.f6.length ≤ c6) (g6 : (Kd.int .i64).C w A6 x.f6.length x.f6) : k24.K w x [.int .i64 x.f0, .int .i64 x.f1, .int .i64 x.f2, .int .i64 x.f3, .int .i64 x.f4, .slice A5 x.f5.length c5, .slice A6 x.f6.length c6] := ⟨[.int .i64 x.f0], [.int .i64 x.f1, .int .i64 x.f2, .int .i64 x.f3, .int .i64 x.f4, .slice A5 x.f5.length c5, .slice A6 x.f6.length c6], rfl, rfl, ⟨[.int .i64 x.f1], [.int .i64 x.f2, .int .i64 x.f3, .int .i64 x.f4, .slice A5 x.f5.length c5, .slice A6 x.f6.length c6], rfl, rfl, ⟨[.int .i64 x.f2], [.int .i64 x.f3, .int .i64 x.f4, .slice A5 x.f5.length c5, .slice A6 x.f6.length c6], rfl, rfl, ⟨[.int .i64 x.f3], [.int .i64 x.f4, .slice A5 x.f5.length c5, .slice A6 x.f6.length c6], rfl, rfl, ⟨[.int .i64 x.f4], [.slice A5 x.f5.length c5, .slice A6 x.f6.length c6], rfl, rfl, ⟨[.slice A5 x.f5.length c5], [.slice A6 x.f6.length c6], rfl, ⟨A5, c5, rfl, l5, g5⟩, ⟨A6, c6, rfl, l6, g6⟩⟩⟩⟩⟩⟩⟩
theorem k24_mkM (w : World) (base : Nat) (ok : Nat → Prop) (x : S24) {v5 : Value} (g5 : (Kd.int .i64).R 3 w base ok v5 x.f5) {v6 : Value} (g6 : (Kd.int .i64).R 3 w base ok v6 x.f6) : k24.M w base ok x [.int .i64 x.f0, .int .i64 x.f1, .int .i64 x.f2, .int .i64 x.f3, .int .i64 x.f4, v5, v6] := ⟨[.int .i64 x.f0], [.int .i64 x.f1, .int .i64 x.f2, .int .i64 x.f3, .int .i64 x.f4, v5, v6], rfl, rfl, ⟨[.int .i64 x.f1], [.int .i64 x.f2, .int .i64 x.f3, .int .i64 x.f4, v5, v6], rfl, rfl, ⟨[.int .i64 x.f2], [.int .i64 x.f3, .int .i64 x.f4, v5, v6], rfl, rfl, ⟨[.int .i64 x.f3], [.int .i64 x.f4, v5, v6], rfl, rfl, ⟨[.int .i64 x.f4], [v5, v6], rfl, rfl, ⟨[v5], [v6], rfl, ⟨v5, rfl, g5⟩, ⟨v6, rfl, g6⟩⟩⟩⟩⟩⟩⟩
theorem k24_openF {W : World} {ok : Nat → Prop} {x : S24} {cs : List Value} (h : Kd.FK k24 W ok x cs) : ∃ A5 c5 A6 c6, cs = [.int .i64 x.f0, .int .i64 x.f1, .int .i64 x.f2, .int .i64 x.f3, .int .i64 x.f4, .slice A5 x.f5.length c5, .slice A6 x.f6.length c6] ∧ x.f5.length ≤ c5 ∧ Kd.F (Kd.int .i64) W ok A5 x.f5.length x.f5 ∧ x.f6.length ≤ c6 ∧ Kd.F (Kd.int .i64) W ok A6 x.f6.length x.f6 := by
  obtain ⟨A5, c5, A6, c6, rfl, l5, _, l6, _⟩ := k24_open (Kd.FK_now h)
  exact ⟨A5, c5, A6, c6, rfl, l5, (fun W' hW => by obtain ⟨A5_, c5_, A6_, c6_, he, l5_, g5_, l6_, g6_⟩ := k24_open (h W' hW); injection (Option.some.inj (show some (Value.slice A5 x.f5.length c5) = some (Value.slice A5_ x.f5.length c5_) from congrArg (fun l => l[5]?) he)) with ha_ _ _; rw [ha_]; exact g5_), l6, (fun W' hW => by obtain ⟨A5_, c5_, A6_, c6_, he, l5_, g5_, l6_, g6_⟩ := k24_open (h W' hW); injection (Option.some.inj (show some (Value.slice A6 x.f6.length c6) = some (Value.slice A6_ x.f6.length c6_) from congrArg (fun l => l[6]?) he)) with ha_ _ _; rw [ha_]; exact g6_)⟩
theorem k24_mkF (W : World) (ok : Nat → Prop) (x : S24) {A5 : Option Addr} {c5 : Nat} (l5 : x.f5.length ≤ c5) (g5 : Kd.F (Kd.int .i64) W ok A5 x.f5.length x.f5) {A6 : Option Addr} {c6 : Nat} (l6 : x.f6.length ≤ c6) (g6 : Kd.F (Kd.int .i64) W ok A6 x.f6.length x.f6) : Kd.FK k24 W ok x [.int .i64 x.f0, .int .i64 x.f1, .int .i64 x.f2, .int .i64 x.f3, .int .i64 x.f4, .slice A5 x.f5.length c5, .slice A6 x.f6.length c6] := fun W2 hW => k24_mk W2 x l5 (g5 W2 hW) l6 (g6 W2 hW)
def rd_T24 (xs : List S24) (i : Int) : S24 := xs.getD i.toNat z24
theorem at_T24 {w : World} {A : Option Addr} {n : Nat} {xs : List S24} (h : Kd.C k24 w A n xs) (i : Int) (h0 : 0 ≤ i) (h1 : i < n) : ∃ ad A5 c5 A6 c6, A = some ad ∧ w.cell? (ad.add (i.toNat * 7)) = some (.int .i64 (rd_T24 xs i).f0) ∧ w.cell? ⟨(ad.add (i.toNat * 7)).block, (ad.add (i.toNat * 7)).off + 1, none⟩ = some (.int .i64 (rd_T24 xs i).f1) ∧ w.cell? ⟨(ad.add (i.toNat * 7)).block, (ad.add (i.toNat * 7)).off + 2, none⟩ = some (.int .i64 (rd_T24 xs i).f2) ∧ w.cell? ⟨(ad.add (i.toNat * 7)).block, (ad.add (i.toNat * 7)).off + 3, none⟩ = some (.int .i64 (rd_T24 xs i).f3) ∧ w.cell? ⟨(ad.add (i.toNat * 7)).block, (ad.add (i.toNat * 7)).off + 4, none⟩ = some (.int .i64 (rd_T24 xs i).f4) ∧ w.cell? ⟨(ad.add (i.toNat * 7)).block, (ad.add (i.toNat * 7)).off + 5, none⟩ = some (.slice A5 (rd_T24 xs i).f5.length c5) ∧ w.cell? ⟨(ad.add (i.toNat * 7)).block, (ad.add (i.toNat * 7)).off + 6, none⟩ = some (.slice A6 (rd_T24 xs i).f6.length c6) ∧ (rd_T24 xs i).f5.length ≤ c5 ∧ (Kd.int .i64).C w A5 (rd_T24 xs i).f5.length (rd_T24 xs i).f5 ∧ (rd_T24 xs i).f6.length ≤ c6 ∧ (Kd.int .i64).C w A6 (rd_T24 xs i).f6.length (rd_T24 xs i).f6 := by
  obtain ⟨ad, c, e, _, hK, hc0⟩ := Kd.C_get h z24 i h0 h1
  have hc : ∀ j u, c[j]? = some u → w.cell? (ad.add (i.toNat * 7 + j)) = some u := hc0
  obtain ⟨A5, c5, A6, c6, rfl, l5, g5, l6, g6⟩ := k24_open hK
  exact ⟨ad, A5, c5, A6, c6, e, hc 0 _ rfl, by rw [← add_field _ _ 1 (by omega)]; exact hc 1 _ rfl, by rw [← add_field _ _ 2 (by omega)]; exact hc 2 _ rfl, by rw [← add_field _ _ 3 (by omega)]; exact hc 3 _ rfl, by rw [← add_field _ _ 4 (by omega)]; exact hc 4 _ rfl, by rw [← add_field _ _ 5 (by omega)]; exact hc 5 _ rfl, by rw [← add_field _ _ 6 (by omega)]; exact hc 6 _ rfl, l5, g5, l6, g6⟩

/-! #### struct type 26 -/
structure S26 where
  f0 : Int
  f1 : S24
def z26 : S26 := ⟨(0 : Int), z24⟩
def k26 : Kd S26 := Kd.iso (Kd.pair (Kd.int .i64) k24) (fun x : S26 => (x.f0, x.f1))
theorem k26_open {w : World} {x : S26} {cs : List Value} (h : k26.K w x cs) : ∃ A6 c6 A7 c7, cs = [.int .i64 x.f0, .int .i64 x.f1.f0, .int .i64 x.f1.f1, .int .i64 x.f1.f2, .int .i64 x.f1.f3, .int .i64 x.f1.f4, .slice A6 x.f1.f5.length c6, .slice A7 x.f1.f6.length c7] ∧ x.f1.f5.length ≤ c6 ∧ (Kd.int .i64).C w A6 x.f1.f5.length x.f1.f5 ∧ x.f1.f6.length ≤ c7 ∧ (Kd.int .i64).C w A7 x.f1.f6.length x.f1.f6 := by
  obtain ⟨_, _, rfl, rfl, s1⟩ := h
  obtain ⟨A6, c6, A7, c7, rfl, l6, g6, l7, g7⟩ := k24_open s1
  exact ⟨A6, c6, A7, c7, rfl, l6, g6, l7, g7⟩
theorem k26_openM {w : World} {base : Nat} {ok : Nat → Prop} {x : S26} {cs : List Value} (h : k26.M w base ok x cs) : ∃ v6 v7, cs = [.int .i64 x.f0, .int .i64 x.f1.f0, .int .i64 x.f1.f1, .int .i64 x.f1.f2, .int .i64 x.f1.f3, .int .i64 x.f1.f4, v6, v7] ∧ (Kd.int .i64).R 3 w base ok v6 x.f1.f5 ∧ (Kd.int .i64).R 3 w base ok v7 x.f1.f6 := by
  obtain ⟨_, _, rfl, rfl, s1⟩ := h
  obtain ⟨v6, v7, rfl, g6, g7⟩ := k24_openM s1
  exact ⟨v6, v7, rfl, g6, g7⟩
theorem k26_mk (w : World) (x : S26) {A6 : Option Addr} {c6 : Nat} (l6 : x.f1.f5.length ≤ c6) (g6 : (Kd.int .i64).C w A6 x.f1.f5.length x.f1.f5) {A7 : Option Addr} {c7 : Nat} (l7 : x.f1.f6.length ≤ c7) (g7 : (Kd.int .i64).C w A7 x.f1.f6.length x.f1.f6) : k26.K w x [.int .i64 x.f0, .int .i64 x.f1.f0, .int .i64 x.f1.f1, .int .i64 x.f1.f2, .int .i64 x.f1.f3, .int .i64 x.f1.f4, .slice A6 x.f1.f5.length c6, .slice A7 x.f1.f6.length c7] := ⟨[.int .i64 x.f0], [.int .i64 x.f1.f0, .int .i64 x.f1.f1, .int .i64 x.f1.f2, .int .i64 x.f1.f3, .int .i64 x.f1.f4, .slice A6 x.f1.f5.length c6, .slice A7 x.f1.f6.length c7], rfl, rfl, (k24_mk w x.f1 l6 g6 l7 g7)⟩
theorem k26_mkM (w : World) (base : Nat) (ok : Nat → Prop) (x : S26) {v6 : Value} (g6 : (Kd.int .i64).R 3 w base ok v6 x.f1.f5) {v7 : Value} (g7 : (Kd.int .i64).R 3 w base ok v7 x.f1.f6) : k26.M w base ok x [.int .i64 x.f0, .int .i64 x.f1.f0, .int .i64 x.f1.f1, .int .i64 x.f1.f2, .int .i64 x.f1.f3, .int .i64 x.f1.f4, v6, v7] := ⟨[.int .i64 x.f0], [.int .i64 x.f1.f0, .int .i64 x.f1.f1, .int .i64 x.f1.f2, .int .i64 x.f1.f3, .int .i64 x.f1.f4, v6, v7], rfl, rfl, (k24_mkM w base ok x.f1 g6 g7)⟩
theorem k26_openF {W : World} {ok : Nat → Prop} {x : S26} {cs : List Value} (h : Kd.FK k26 W ok x cs) : ∃ A6 c6 A7 c7, cs = [.int .i64 x.f0, .int .i64 x.f1.f0, .int .i64 x.f1.f1, .int .i64 x.f1.f2, .int .i64 x.f1.f3, .int .i64 x.f1.f4, .slice A6 x.f1.f5.length c6, .slice A7 x.f1.f6.length c7] ∧ x.f1.f5.length ≤ c6 ∧ Kd.F (Kd.int .i64) W ok A6 x.f1.f5.length x.f1.f5 ∧ x.f1.f6.length ≤ c7 ∧ Kd.F (Kd.int .i64) W ok A7 x.f1.f6.length x.f1.f6 := by
  obtain ⟨A6, c6, A7, c7, rfl, l6, _, l7, _⟩ := k26_open (Kd.FK_now h)
  exact ⟨A6, c6, A7, c7, rfl, l6, (fun W' hW => by obtain ⟨A6_, c6_, A7_, c7_, he, l6_, g6_, l7_, g7_⟩ := k26_open (h W' hW); injection (Option.some.inj (show some (Value.slice A6 x.f1.f5.length c6) = some (Value.slice A6_ x.f1.f5.length c6_) from congrArg (fun l => l[6]?) he)) with ha_ _ _; rw [ha_]; exact g6_), l7, (fun W' hW => by obtain ⟨A6_, c6_, A7_, c7_, he, l6_, g6_, l7_, g7_⟩ := k26_open (h W' hW); injection (Option.some.inj (show some (Value.slice A7 x.f1.f6.length c7) = some (Value.slice A7_ x.f1.f6.length c7_) from congrArg (fun l => l[7]?) he)) with ha_ _ _; rw [ha_]; exact g7_)⟩
theorem k26_mkF (W : World) (ok : Nat → Prop) (x : S26) {A6 : Option Addr} {c6 : Nat} (l6 : x.f1.f5.length ≤ c6) (g6 : Kd.F (Kd.int .i64) W ok A6 x.f1.f5.length x.f1.f5) {A7 : Option Addr} {c7 : Nat} (l7 : x.f1.f6.length ≤ c7) (g7 : Kd.F (Kd.int .i64) W ok A7 x.f1.f6.length x.f1.f6) : Kd.FK k26 W ok x [.int .i64 x.f0, .int .i64 x.f1.f0, .int .i64 x.f1.f1, .int .i64 x.f1.f2, .int .i64 x.f1.f3, .int .i64 x.f1.f4, .slice A6 x.f1.f5.length c6, .slice A7 x.f1.f6.length c7] := fun W2 hW => k26_mk W2 x l6 (g6 W2 hW) l7 (g7 W2 hW)
def rd_T26 (xs : List S26) (i : Int) : S26 := xs.getD i.toNat z26
theorem at_T26 {w : World} {A : Option Addr} {n : Nat} {xs : List S26} (h : Kd.C k26 w A n xs) (i : Int) (h0 : 0 ≤ i) (h1 : i < n) : ∃ ad A6 c6 A7 c7, A = some ad ∧ w.cell? (ad.add (i.toNat * 8)) = some (.int .i64 (rd_T26 xs i).f0) ∧ w.cell? ⟨(ad.add (i.toNat * 8)).block, (ad.add (i.toNat * 8)).off + 1, none⟩ = some (.int .i64 (rd_T26 xs i).f1.f0) ∧ w.cell? ⟨(ad.add (i.toNat * 8)).block, (ad.add (i.toNat * 8)).off + 2, none⟩ = some (.int .i64 (rd_T26 xs i).f1.f1) ∧ w.cell? ⟨(ad.add (i.toNat * 8)).block, (ad.add (i.toNat * 8)).off + 3, none⟩ = some (.int .i64 (rd_T26 xs i).f1.f2) ∧ w.cell? ⟨(ad.add (i.toNat * 8)).block, (ad.add (i.toNat * 8)).off + 4, none⟩ = some (.int .i64 (rd_T26 xs i).f1.f3) ∧ w.cell? ⟨(ad.add (i.toNat * 8)).block, (ad.add (i.toNat * 8)).off + 5, none⟩ = some (.int .i64 (rd_T26 xs i).f1.f4) ∧ w.cell? ⟨(ad.add (i.toNat * 8)).block, (ad.add (i.toNat * 8)).off + 6, none⟩ = some (.slice A6 (rd_T26 xs i).f1.f5.length c6) ∧ w.cell? ⟨(ad.add (i.toNat * 8)).block, (ad.add (i.toNat * 8)).off + 7, none⟩ = some (.slice A7 (rd_T26 xs i).f1.f6.length c7) ∧ (rd_T26 xs i).f1.f5.length ≤ c6 ∧ (Kd.int .i64).C w A6 (rd_T26 xs i).f1.f5.length (rd_T26 xs i).f1.f5 ∧ (rd_T26 xs i).f1.f6.length ≤ c7 ∧ (Kd.int .i64).C w A7 (rd_T26 xs i).f1.f6.length (rd_T26 xs i).f1.f6 := by
  obtain ⟨ad, c, e, _, hK, hc0⟩ := Kd.C_get h z26 i h0 h1
  have hc : ∀ j u, c[j]? = some u → w.cell? (ad.add (i.toNat * 8 + j)) = some u := hc0
  obtain ⟨A6, c6, A7, c7, rfl, l6, g6, l7, g7⟩ := k26_open hK
  exact ⟨ad, A6, c6, A7, c7, e, hc 0 _ rfl, by rw [← add_field _ _ 1 (by omega)]; exact hc 1 _ rfl, by rw [← add_field _ _ 2 (by omega)]; exact hc 2 _ rfl, by rw [← add_field _ _ 3 (by omega)]; exact hc 3 _ rfl, by rw [← add_field _ _ 4 (by omega)]; exact hc 4 _ rfl, by rw [← add_field _ _ 5 (by omega)]; exact hc 5 _ rfl, by rw [← add_field _ _ 6 (by omega)]; exact hc 6 _ rfl, by rw [← add_field _ _ 7 (by omega)]; exact hc 7 _ rfl, l6, g6, l7, g7⟩

def rd_L5 (xs : List (List Int)) (i : Int) : (List Int) := xs.getD i.toNat ([] : List Int)
theorem at_L5 {w : World} {A : Option Addr} {n : Nat} {xs : List (List Int)} (h : Kd.C (Kd.slice 5 (Kd.int .u8)) w A n xs) (i : Int) (h0 : 0 ≤ i) (h1 : i < n) : ∃ ad A0 c0, A = some ad ∧ w.cell? (ad.add i.toNat) = some (.slice A0 (rd_L5 xs i).length c0) ∧ (rd_L5 xs i).length ≤ c0 ∧ (Kd.int .u8).C w A0 (rd_L5 xs i).length (rd_L5 xs i) := by
  obtain ⟨ad, c, e, _, hK, hc0⟩ := Kd.C_get h ([] : List Int) i h0 h1
  have hc : ∀ j u, c[j]? = some u → w.cell? (ad.add (i.toNat * 1 + j)) = some u := hc0
  obtain ⟨A0, c0, rfl, l0, g0⟩ := hK
  exact ⟨ad, A0, c0, e, by have hq := hc 0 _ rfl; rwa [Nat.mul_one, Nat.add_zero] at hq, l0, g0⟩

def rd_L6 (xs : List (List S26)) (i : Int) : (List S26) := xs.getD i.toNat ([] : List S26)
theorem at_L6 {w : World} {A : Option Addr} {n : Nat} {xs : List (List S26)} (h : Kd.C (Kd.slice 26 k26) w A n xs) (i : Int) (h0 : 0 ≤ i) (h1 : i < n) : ∃ ad A0 c0, A = some ad ∧ w.cell? (ad.add i.toNat) = some (.slice A0 (rd_L6 xs i).length c0) ∧ (rd_L6 xs i).length ≤ c0 ∧ k26.C w A0 (rd_L6 xs i).length (rd_L6 xs i) := by
  obtain ⟨ad, c, e, _, hK, hc0⟩ := Kd.C_get h ([] : List S26) i h0 h1
  have hc : ∀ j u, c[j]? = some u → w.cell? (ad.add (i.toNat * 1 + j)) = some u := hc0
  obtain ⟨A0, c0, rfl, l0, g0⟩ := hK
  exact ⟨ad, A0, c0, e, by have hq := hc 0 _ rfl; rwa [Nat.mul_one, Nat.add_zero] at hq, l0, g0⟩

/-! #### struct type 42 -/
structure S42 where
  f0 : Int
  f1 : Int
  f2 : (List S26)
def z42 : S42 := ⟨(0 : Int), (0 : Int), ([] : List S26)⟩
def k42 : Kd S42 := Kd.iso (Kd.pair (Kd.int .i64) (Kd.pair (Kd.int .i64) (Kd.slice 26 k26))) (fun x : S42 => (x.f0, x.f1, x.f2))
theorem k42_open {w : World} {x : S42} {cs : List Value} (h : k42.K w x cs) : ∃ A2 c2, cs = [.int .i64 x.f0, .int .i64 x.f1, .slice A2 x.f2.length c2] ∧ x.f2.length ≤ c2 ∧ k26.C w A2 x.f2.length x.f2 := by
  obtain ⟨_, _, rfl, rfl, ⟨_, _, rfl, rfl, ⟨A2, c2, rfl, l2, g2⟩⟩⟩ := h
  exact ⟨A2, c2, rfl, l2, g2⟩
theorem k42_openM {w : World} {base : Nat} {ok : Nat → Prop} {x : S42} {cs : List Value} (h : k42.M w base ok x cs) : ∃ v2, cs = [.int .i64 x.f0, .int .i64 x.f1, v2] ∧ k26.R 26 w base ok v2 x.f2 := by
  obtain ⟨_, _, rfl, rfl, ⟨_, _, rfl, rfl, ⟨v2, rfl, g2⟩⟩⟩ := h
  exact ⟨v2, rfl, g2⟩
theorem k42_mk (w : World) (x : S42) {A2 : Option Addr} {c2 : Nat} (l2 : x.f2.length ≤ c2) (g2 : k26.C w A2 x.f2.length x.f2) : k42.K w x [.int .i64 x.f0, .int .i64 x.f1, .slice A2 x.f2.length c2] := ⟨[.int .i64 x.f0], [.int .i64 x.f1, .slice A2 x.f2.length c2], rfl, rfl, ⟨[.int .i64 x.f1], [.slice A2 x.f2.length c2], rfl, rfl, ⟨A2, c2, rfl, l2, g2⟩⟩⟩
theorem k42_mkM (w : World) (base : Nat) (ok : Nat → Prop) (x : S42) {v2 : Value} (g2 : k26.R 26 w base ok v2 x.f2) : k42.M w base ok x [.int .i64 x.f0, .int .i64 x.f1, v2] := ⟨[.int .i64 x.f0], [.int .i64 x.f1, v2], rfl, rfl, ⟨[.int .i64 x.f1], [v2], rfl, rfl, ⟨v2, rfl, g2⟩⟩⟩
theorem k42_openF {W : World} {ok : Nat → Prop} {x : S42} {cs : List Value} (h : Kd.FK k42 W ok x cs) : ∃ A2 c2, cs = [.int .i64 x.f0, .int .i64 x.f1, .slice A2 x.f2.length c2] ∧ x.f2.length ≤ c2 ∧ Kd.F k26 W ok A2 x.f2.length x.f2 := by
  obtain ⟨A2, c2, rfl, l2, _⟩ := k42_open (Kd.FK_now h)
  exact ⟨A2, c2, rfl, l2, (fun W' hW => by obtain ⟨A2_, c2_, he, l2_, g2_⟩ := k42_open (h W' hW); injection (Option.some.inj (show some (Value.slice A2 x.f2.length c2) = some (Value.slice A2_ x.f2.length c2_) from congrArg (fun l => l[2]?) he)) with ha_ _ _; rw [ha_]; exact g2_)⟩
theorem k42_mkF (W : World) (ok : Nat → Prop) (x : S42) {A2 : Option Addr} {c2 : Nat} (l2 : x.f2.length ≤ c2) (g2 : Kd.F k26 W ok A2 x.f2.length x.f2) : Kd.FK k42 W ok x [.int .i64 x.f0, .int .i64 x.f1, .slice A2 x.f2.length c2] := fun W2 hW => k42_mk W2 x l2 (g2 W2 hW)
def rd_T42 (xs : List S42) (i : Int) : S42 := xs.getD i.toNat z42
theorem at_T42 {w : World} {A : Option Addr} {n : Nat} {xs : List S42} (h : Kd.C k42 w A n xs) (i : Int) (h0 : 0 ≤ i) (h1 : i < n) : ∃ ad A2 c2, A = some ad ∧ w.cell? (ad.add (i.toNat * 3)) = some (.int .i64 (rd_T42 xs i).f0) ∧ w.cell? ⟨(ad.add (i.toNat * 3)).block, (ad.add (i.toNat * 3)).off + 1, none⟩ = some (.int .i64 (rd_T42 xs i).f1) ∧ w.cell? ⟨(ad.add (i.toNat * 3)).block, (ad.add (i.toNat * 3)).off + 2, none⟩ = some (.slice A2 (rd_T42 xs i).f2.length c2) ∧ (rd_T42 xs i).f2.length ≤ c2 ∧ k26.C w A2 (rd_T42 xs i).f2.length (rd_T42 xs i).f2 := by
  obtain ⟨ad, c, e, _, hK, hc0⟩ := Kd.C_get h z42 i h0 h1
  have hc : ∀ j u, c[j]? = some u → w.cell? (ad.add (i.toNat * 3 + j)) = some u := hc0
  obtain ⟨A2, c2, rfl, l2, g2⟩ := k42_open hK
  exact ⟨ad, A2, c2, e, hc 0 _ rfl, by rw [← add_field _ _ 1 (by omega)]; exact hc 1 _ rfl, by rw [← add_field _ _ 2 (by omega)]; exact hc 2 _ rfl, l2, g2⟩

def rd_L8 (xs : List (List S24)) (i : Int) : (List S24) := xs.getD i.toNat ([] : List S24)
theorem at_L8 {w : World} {A : Option Addr} {n : Nat} {xs : List (List S24)} (h : Kd.C (Kd.slice 24 k24) w A n xs) (i : Int) (h0 : 0 ≤ i) (h1 : i < n) : ∃ ad A0 c0, A = some ad ∧ w.cell? (ad.add i.toNat) = some (.slice A0 (rd_L8 xs i).length c0) ∧ (rd_L8 xs i).length ≤ c0 ∧ k24.C w A0 (rd_L8 xs i).length (rd_L8 xs i) := by
  obtain ⟨ad, c, e, _, hK, hc0⟩ := Kd.C_get h ([] : List S24) i h0 h1
  have hc : ∀ j u, c[j]? = some u → w.cell? (ad.add (i.toNat * 1 + j)) = some u := hc0
  obtain ⟨A0, c0, rfl, l0, g0⟩ := hK
  exact ⟨ad, A0, c0, e, by have hq := hc 0 _ rfl; rwa [Nat.mul_one, Nat.add_zero] at hq, l0, g0⟩

/-! #### struct type 57 -/
structure S57 where
  f0 : Int
  f1 : Int
def z57 : S57 := ⟨(0 : Int), (0 : Int)⟩
def k57 : Kd S57 := Kd.iso (Kd.pair (Kd.int .i64) (Kd.int .i64)) (fun x : S57 => (x.f0, x.f1))
theorem k57_open {w : World} {x : S57} {cs : List Value} (h : k57.K w x cs) : cs = [.int .i64 x.f0, .int .i64 x.f1] := by
  obtain ⟨_, _, rfl, rfl, rfl⟩ := h
  exact rfl
theorem k57_openM {w : World} {base : Nat} {ok : Nat → Prop} {x : S57} {cs : List Value} (h : k57.M w base ok x cs) : cs = [.int .i64 x.f0, .int .i64 x.f1] := by
  obtain ⟨_, _, rfl, rfl, rfl⟩ := h
  exact rfl
theorem k57_mk (w : World) (x : S57)  : k57.K w x [.int .i64 x.f0, .int .i64 x.f1] := ⟨[.int .i64 x.f0], [.int .i64 x.f1], rfl, rfl, rfl⟩
theorem k57_mkM (w : World) (base : Nat) (ok : Nat → Prop) (x : S57)  : k57.M w base ok x [.int .i64 x.f0, .int .i64 x.f1] := ⟨[.int .i64 x.f0], [.int .i64 x.f1], rfl, rfl, rfl⟩
theorem k57_mkF (W : World) (ok : Nat → Prop) (x : S57) : Kd.FK k57 W ok x [.int .i64 x.f0, .int .i64 x.f1] := fun W2 _ => k57_mk W2 x
def rd_T57 (xs : List S57) (i : Int) : S57 := xs.getD i.toNat z57
theorem at_T57 {w : World} {A : Option Addr} {n : Nat} {xs : List S57} (h : Kd.C k57 w A n xs) (i : Int) (h0 : 0 ≤ i) (h1 : i < n) : ∃ ad , A = some ad ∧ w.cell? (ad.add (i.toNat * 2)) = some (.int .i64 (rd_T57 xs i).f0) ∧ w.cell? ⟨(ad.add (i.toNat * 2)).block, (ad.add (i.toNat * 2)).off + 1, none⟩ = some (.int .i64 (rd_T57 xs i).f1) := by
  obtain ⟨ad, c, e, _, hK, hc0⟩ := Kd.C_get h z57 i h0 h1
  have hc : ∀ j u, c[j]? = some u → w.cell? (ad.add (i.toNat * 2 + j)) = some u := hc0
  obtain rfl := k57_open hK
  exact ⟨ad, e, hc 0 _ rfl, by rw [← add_field _ _ 1 (by omega)]; exact hc 1 _ rfl⟩

def rd_L10 (xs : List (List S57)) (i : Int) : (List S57) := xs.getD i.toNat ([] : List S57)
theorem at_L10 {w : World} {A : Option Addr} {n : Nat} {xs : List (List S57)} (h : Kd.C (Kd.slice 57 k57) w A n xs) (i : Int) (h0 : 0 ≤ i) (h1 : i < n) : ∃ ad A0 c0, A = some ad ∧ w.cell? (ad.add i.toNat) = some (.slice A0 (rd_L10 xs i).length c0) ∧ (rd_L10 xs i).length ≤ c0 ∧ k57.C w A0 (rd_L10 xs i).length (rd_L10 xs i) := by
  obtain ⟨ad, c, e, _, hK, hc0⟩ := Kd.C_get h ([] : List S57) i h0 h1
  have hc : ∀ j u, c[j]? = some u → w.cell? (ad.add (i.toNat * 1 + j)) = some u := hc0
  obtain ⟨A0, c0, rfl, l0, g0⟩ := hK
  exact ⟨ad, A0, c0, e, by have hq := hc 0 _ rfl; rwa [Nat.mul_one, Nat.add_zero] at hq, l0, g0⟩

/-! #### struct type 49 -/
structure S49 where
  f0 : Int
  f1 : (List S57)
  f2 : Int
  f3 : (List Int)
def z49 : S49 := ⟨(0 : Int), ([] : List S57), (0 : Int), ([] : List Int)⟩
def k49 : Kd S49 := Kd.iso (Kd.pair (Kd.int .i64) (Kd.pair (Kd.slice 57 k57) (Kd.pair (Kd.int .i64) (Kd.slice 3 (Kd.int .i64))))) (fun x : S49 => (x.f0, x.f1, x.f2, x.f3))
theorem k49_open {w : World} {x : S49} {cs : List Value} (h : k49.K w x cs) : ∃ A1 c1 A3 c3, cs = [.int .i64 x.f0, .slice A1 x.f1.length c1, .int .i64 x.f2, .slice A3 x.f3.length c3] ∧ x.f1.length ≤ c1 ∧ k57.C w A1 x.f1.length x.f1 ∧ x.f3.length ≤ c3 ∧ (Kd.int .i64).C w A3 x.f3.length x.f3 := by
  obtain ⟨_, _, rfl, rfl, ⟨_, _, rfl, ⟨A1, c1, rfl, l1, g1⟩, ⟨_, _, rfl, rfl, ⟨A3, c3, rfl, l3, g3⟩⟩⟩⟩ := h
  exact ⟨A1, c1, A3, c3, rfl, l1, g1, l3, g3⟩
theorem k49_openM {w : World} {base : Nat} {ok : Nat → Prop} {x : S49} {cs : List Value} (h : k49.M w base ok x cs) : ∃ v1 v3, cs = [.int .i64 x.f0, v1, .int .i64 x.f2, v3] ∧ k57.R 57 w base ok v1 x.f1 ∧ (Kd.int .i64).R 3 w base ok v3 x.f3 := by
  obtain ⟨_, _, rfl, rfl, ⟨_, _, rfl, ⟨v1, rfl, g1⟩, ⟨_, _, rfl, rfl, ⟨v3, rfl, g3⟩⟩⟩⟩ := h
  exact ⟨v1, v3, rfl, g1, g3⟩
theorem k49_mk (w : World) (x : S49) {A1 : Option Addr} {c1 : Nat} (l1 : x.f1.length ≤ c1) (g1 : k57.C w A1 x.f1.length x.f1) {A3 : Option Addr} {c3 : Nat} (l3 : x.f3.length ≤ c3) (g3 : (Kd.int .i64).C w A3 x.f3.length x.f3) : k49.K w x [.int .i64 x.f0, .slice A1 x.f1.length c1, .int .i64 x.f2, .slice A3 x.f3.length c3] := ⟨[.int .i64 x.f0], [.slice A1 x.f1.length c1, .int .i64 x.f2, .slice A3 x.f3.length c3], rfl, rfl, ⟨[.slice A1 x.f1.length c1], [.int .i64 x.f2, .slice A3 x.f3.length c3], rfl, ⟨A1, c1, rfl, l1, g1⟩, ⟨[.int .i64 x.f2], [.slice A3 x.f3.length c3], rfl, rfl, ⟨A3, c3, rfl, l3, g3⟩⟩⟩⟩
theorem k49_mkM (w : World) (base : Nat) (ok : Nat → Prop) (x : S49) {v1 : Value} (g1 : k57.R 57 w base ok v1 x.f1) {v3 : Value} (g3 : (Kd.int .i64).R 3 w base ok v3 x.f3) : k49.M w base ok x [.int .i64 x.f0, v1, .int .i64 x.f2, v3] := ⟨[.int .i64 x.f0], [v1, .int .i64 x.f2, v3], rfl, rfl, ⟨[v1], [.int .i64 x.f2, v3], rfl, ⟨v1, rfl, g1⟩, ⟨[.int .i64 x.f2], [v3], rfl, rfl, ⟨v3, rfl, g3⟩⟩⟩⟩
theorem k49_openF {W : World} {ok : Nat → Prop} {x : S49} {cs : List Value} (h : Kd.FK k49 W ok x cs) : ∃ A1 c1 A3 c3, cs = [.int .i64 x.f0, .slice A1 x.f1.length c1, .int .i64 x.f2, .slice A3 x.f3.length c3] ∧ x.f1.length ≤ c1 ∧ Kd.F k57 W ok A1 x.f1.length x.f1 ∧ x.f3.length ≤ c3 ∧ Kd.F (Kd.int .i64) W ok A3 x.f3.length x.f3 := by
  obtain ⟨A1, c1, A3, c3, rfl, l1, _, l3, _⟩ := k49_open (Kd.FK_now h)
  exact ⟨A1, c1, A3, c3, rfl, l1, (fun W' hW => by obtain ⟨A1_, c1_, A3_, c3_, he, l1_, g1_, l3_, g3_⟩ := k49_open (h W' hW); injection (Option.some.inj (show some (Value.slice A1 x.f1.length c1) = some (Value.slice A1_ x.f1.length c1_) from congrArg (fun l => l[1]?) he)) with ha_ _ _; rw [ha_]; exact g1_), l3, (fun W' hW => by obtain ⟨A1_, c1_, A3_, c3_, he, l1_, g1_, l3_, g3_⟩ := k49_open (h W' hW); injection (Option.some.inj (show some (Value.slice A3 x.f3.length c3) = some (Value.slice A3_ x.f3.length c3_) from congrArg (fun l => l[3]?) he)) with ha_ _ _; rw [ha_]; exact g3_)⟩
theorem k49_mkF (W : World) (ok : Nat → Prop) (x : S49) {A1 : Option Addr} {c1 : Nat} (l1 : x.f1.length ≤ c1) (g1 : Kd.F k57 W ok A1 x.f1.length x.f1) {A3 : Option Addr} {c3 : Nat} (l3 : x.f3.length ≤ c3) (g3 : Kd.F (Kd.int .i64) W ok A3 x.f3.length x.f3) : Kd.FK k49 W ok x [.int .i64 x.f0, .slice A1 x.f1.length c1, .int .i64 x.f2, .slice A3 x.f3.length c3] := fun W2 hW => k49_mk W2 x l1 (g1 W2 hW) l3 (g3 W2 hW)
def rd_T49 (xs : List S49) (i : Int) : S49 := xs.getD i.toNat z49
theorem at_T49 {w : World} {A : Option Addr} {n : Nat} {xs : List S49} (h : Kd.C k49 w A n xs) (i : Int) (h0 : 0 ≤ i) (h1 : i < n) : ∃ ad A1 c1 A3 c3, A = some ad ∧ w.cell? (ad.add (i.toNat * 4)) = some (.int .i64 (rd_T49 xs i).f0) ∧ w.cell? ⟨(ad.add (i.toNat * 4)).block, (ad.add (i.toNat * 4)).off + 1, none⟩ = some (.slice A1 (rd_T49 xs i).f1.length c1) ∧ w.cell? ⟨(ad.add (i.toNat * 4)).block, (ad.add (i.toNat * 4)).off + 2, none⟩ = some (.int .i64 (rd_T49 xs i).f2) ∧ w.cell? ⟨(ad.add (i.toNat * 4)).block, (ad.add (i.toNat * 4)).off + 3, none⟩ = some (.slice A3 (rd_T49 xs i).f3.length c3) ∧ (rd_T49 xs i).f1.length ≤ c1 ∧ k57.C w A1 (rd_T49 xs i).f1.length (rd_T49 xs i).f1 ∧ (rd_T49 xs i).f3.length ≤ c3 ∧ (Kd.int .i64).C w A3 (rd_T49 xs i).f3.length (rd_T49 xs i).f3 := by
  obtain ⟨ad, c, e, _, hK, hc0⟩ := Kd.C_get h z49 i h0 h1
  have hc : ∀ j u, c[j]? = some u → w.cell? (ad.add (i.toNat * 4 + j)) = some u := hc0
  obtain ⟨A1, c1, A3, c3, rfl, l1, g1, l3, g3⟩ := k49_open hK
  exact ⟨ad, A1, c1, A3, c3, e, hc 0 _ rfl, by rw [← add_field _ _ 1 (by omega)]; exact hc 1 _ rfl, by rw [← add_field _ _ 2 (by omega)]; exact hc 2 _ rfl, by rw [← add_field _ _ 3 (by omega)]; exact hc 3 _ rfl, l1, g1, l3, g3⟩

/-! #### struct type 145 -/
structure S145 where
  f0 : ByteArray
  f1 : Int
  f2 : Int
  f3 : Bool
  f4 : Int
def z145 : S145 := ⟨(⟨#[]⟩ : ByteArray), (0 : Int), (0 : Int), false, (0 : Int)⟩
def k145 : Kd S145 := Kd.iso (Kd.pair Kd.string (Kd.pair (Kd.int .i64) (Kd.pair (Kd.int .i64) (Kd.pair Kd.bool (Kd.int .i64))))) (fun x : S145 => (x.f0, x.f1, x.f2, x.f3, x.f4))
theorem k145_open {w : World} {x : S145} {cs : List Value} (h : k145.K w x cs) : cs = [.string x.f0, .int .i64 x.f1, .int .i64 x.f2, .bool x.f3, .int .i64 x.f4] := by
  obtain ⟨_, _, rfl, rfl, ⟨_, _, rfl, rfl, ⟨_, _, rfl, rfl, ⟨_, _, rfl, rfl, rfl⟩⟩⟩⟩ := h
  exact rfl
theorem k145_openM {w : World} {base : Nat} {ok : Nat → Prop} {x : S145} {cs : List Value} (h : k145.M w base ok x cs) : cs = [.string x.f0, .int .i64 x.f1, .int .i64 x.f2, .bool x.f3, .int .i64 x.f4] := by
  obtain ⟨_, _, rfl, rfl, ⟨_, _, rfl, rfl, ⟨_, _, rfl, rfl, ⟨_, _, rfl, rfl, rfl⟩⟩⟩⟩ := h
  exact rfl
theorem k145_mk (w : World) (x : S145)  : k145.K w x [.string x.f0, .int .i64 x.f1, .int .i64 x.f2, .bool x.f3, .int .i64 x.f4] := ⟨[.string x.f0], [.int .i64 x.f1, .int .i64 x.f2, .bool x.f3, .int .i64 x.f4], rfl, rfl, ⟨[.int .i64 x.f1], [.int .i64 x.f2, .bool x.f3, .int .i64 x.f4], rfl, rfl, ⟨[.int .i64 x.f2], [.bool x.f3, .int .i64 x.f4], rfl, rfl, ⟨[.bool x.f3], [.int .i64 x.f4], rfl, rfl, rfl⟩⟩⟩⟩
theorem k145_mkM (w : World) (base : Nat) (ok : Nat → Prop) (x : S145)  : k145.M w base ok x [.string x.f0, .int .i64 x.f1, .int .i64 x.f2, .bool x.f3, .int .i64 x.f4] := ⟨[.string x.f0], [.int .i64 x.f1, .int .i64 x.f2, .bool x.f3, .int .i64 x.f4], rfl, rfl, ⟨[.int .i64 x.f1], [.int .i64 x.f2, .bool x.f3, .int .i64 x.f4], rfl, rfl, ⟨[.int .i64 x.f2], [.bool x.f3, .int .i64 x.f4], rfl, rfl, ⟨[.bool x.f3], [.int .i64 x.f4], rfl, rfl, rfl⟩⟩⟩⟩
theorem k145_mkF (W : World) (ok : Nat → Prop) (x : S145) : Kd.FK k145 W ok x [.string x.f0, .int .i64 x.f1, .int .i64 x.f2, .bool x.f3, .int .i64 x.f4] := fun W2 _ => k145_mk W2 x
def rd_T145 (xs : List S145) (i : Int) : S145 := xs.getD i.toNat z145
theorem at_T145 {w : World} {A : Option Addr} {n : Nat} {xs : List S145} (h : Kd.C k145 w A n xs) (i : Int) (h0 : 0 ≤ i) (h1 : i < n) : ∃ ad , A = some ad ∧ w.cell? (ad.add (i.toNat * 5)) = some (.string (rd_T145 xs i).f0) ∧ w.cell? ⟨(ad.add (i.toNat * 5)).block, (ad.add (i.toNat * 5)).off + 1, none⟩ = some (.int .i64 (rd_T145 xs i).f1) ∧ w.cell? ⟨(ad.add (i.toNat * 5)).block, (ad.add (i.toNat * 5)).off + 2, none⟩ = some (.int .i64 (rd_T145 xs i).f2) ∧ w.cell? ⟨(ad.add (i.toNat * 5)).block, (ad.add (i.toNat * 5)).off + 3, none⟩ = some (.bool (rd_T145 xs i).f3) ∧ w.cell? ⟨(ad.add (i.toNat * 5)).block, (ad.add (i.toNat * 5)).off + 4, none⟩ = some (.int .i64 (rd_T145 xs i).f4) := by
  obtain ⟨ad, c, e, _, hK, hc0⟩ := Kd.C_get h z145 i h0 h1
  have hc : ∀ j u, c[j]? = some u → w.cell? (ad.add (i.toNat * 5 + j)) = some u := hc0
  obtain rfl := k145_open hK
  exact ⟨ad, e, hc 0 _ rfl, by rw [← add_field _ _ 1 (by omega)]; exact hc 1 _ rfl, by rw [← add_field _ _ 2 (by omega)]; exact hc 2 _ rfl, by rw [← add_field _ _ 3 (by omega)]; exact hc 3 _ rfl, by rw [← add_field _ _ 4 (by omega)]; exact hc 4 _ rfl⟩

def rd_L15 (xs : List (List S145)) (i : Int) : (List S145) := xs.getD i.toNat ([] : List S145)
theorem at_L15 {w : World} {A : Option Addr} {n : Nat} {xs : List (List S145)} (h : Kd.C (Kd.slice 145 k145) w A n xs) (i : Int) (h0 : 0 ≤ i) (h1 : i < n) : ∃ ad A0 c0, A = some ad ∧ w.cell? (ad.add i.toNat) = some (.slice A0 (rd_L15 xs i).length c0) ∧ (rd_L15 xs i).length ≤ c0 ∧ k145.C w A0 (rd_L15 xs i).length (rd_L15 xs i) := by
  obtain ⟨ad, c, e, _, hK, hc0⟩ := Kd.C_get h ([] : List S145) i h0 h1
  have hc : ∀ j u, c[j]? = some u → w.cell? (ad.add (i.toNat * 1 + j)) = some u := hc0
  obtain ⟨A0, c0, rfl, l0, g0⟩ := hK
  exact ⟨ad, A0, c0, e, by have hq := hc 0 _ rfl; rwa [Nat.mul_one, Nat.add_zero] at hq, l0, g0⟩

/-! #### struct type 148 -/
structure S148 where
  f0 : ByteArray
  f1 : Bool
def z148 : S148 := ⟨(⟨#[]⟩ : ByteArray), false⟩
def k148 : Kd S148 := Kd.iso (Kd.pair Kd.string Kd.bool) (fun x : S148 => (x.f0, x.f1))
theorem k148_open {w : World} {x : S148} {cs : List Value} (h : k148.K w x cs) : cs = [.string x.f0, .bool x.f1] := by
  obtain ⟨_, _, rfl, rfl, rfl⟩ := h
  exact rfl
theorem k148_openM {w : World} {base : Nat} {ok : Nat → Prop} {x : S148} {cs : List Value} (h : k148.M w base ok x cs) : cs = [.string x.f0, .bool x.f1] := by
  obtain ⟨_, _, rfl, rfl, rfl⟩ := h
  exact rfl
theorem k148_mk (w : World) (x : S148)  : k148.K w x [.string x.f0, .bool x.f1] := ⟨[.string x.f0], [.bool x.f1], rfl, rfl, rfl⟩
theorem k148_mkM (w : World) (base : Nat) (ok : Nat → Prop) (x : S148)  : k148.M w base ok x [.string x.f0, .bool x.f1] := ⟨[.string x.f0], [.bool x.f1], rfl, rfl, rfl⟩
theorem k148_mkF (W : World) (ok : Nat → Prop) (x : S148) : Kd.FK k148 W ok x [.string x.f0, .bool x.f1] := fun W2 _ => k148_mk W2 x
def rd_T148 (xs : List S148) (i : Int) : S148 := xs.getD i.toNat z148
theorem at_T148 {w : World} {A : Option Addr} {n : Nat} {xs : List S148} (h : Kd.C k148 w A n xs) (i : Int) (h0 : 0 ≤ i) (h1 : i < n) : ∃ ad , A = some ad ∧ w.cell? (ad.add (i.toNat * 2)) = some (.string (rd_T148 xs i).f0) ∧ w.cell? ⟨(ad.add (i.toNat * 2)).block, (ad.add (i.toNat * 2)).off + 1, none⟩ = some (.bool (rd_T148 xs i).f1) := by
  obtain ⟨ad, c, e, _, hK, hc0⟩ := Kd.C_get h z148 i h0 h1
  have hc : ∀ j u, c[j]? = some u → w.cell? (ad.add (i.toNat * 2 + j)) = some u := hc0
  obtain rfl := k148_open hK
  exact ⟨ad, e, hc 0 _ rfl, by rw [← add_field _ _ 1 (by omega)]; exact hc 1 _ rfl⟩

def rd_L17 (xs : List (List S148)) (i : Int) : (List S148) := xs.getD i.toNat ([] : List S148)
theorem at_L17 {w : World} {A : Option Addr} {n : Nat} {xs : List (List S148)} (h : Kd.C (Kd.slice 148 k148) w A n xs) (i : Int) (h0 : 0 ≤ i) (h1 : i < n) : ∃ ad A0 c0, A = some ad ∧ w.cell? (ad.add i.toNat) = some (.slice A0 (rd_L17 xs i).length c0) ∧ (rd_L17 xs i).length ≤ c0 ∧ k148.C w A0 (rd_L17 xs i).length (rd_L17 xs i) := by
  obtain ⟨ad, c, e, _, hK, hc0⟩ := Kd.C_get h ([] : List S148) i h0 h1
  have hc : ∀ j u, c[j]? = some u → w.cell? (ad.add (i.toNat * 1 + j)) = some u := hc0
  obtain ⟨A0, c0, rfl, l0, g0⟩ := hK
  exact ⟨ad, A0, c0, e, by have hq := hc 0 _ rfl; rwa [Nat.mul_one, Nat.add_zero] at hq, l0, g0⟩

/-! #### struct type 151 -/
structure S151 where
  f0 : ByteArray
  f1 : Int
def z151 : S151 := ⟨(⟨#[]⟩ : ByteArray), (0 : Int)⟩
def k151 : Kd S151 := Kd.iso (Kd.pair Kd.string (Kd.int .i64)) (fun x : S151 => (x.f0, x.f1))
theorem k151_open {w : World} {x : S151} {cs : List Value} (h : k151.K w x cs) : cs = [.string x.f0, .int .i64 x.f1] := by
  obtain ⟨_, _, rfl, rfl, rfl⟩ := h
  exact rfl
theorem k151_openM {w : World} {base : Nat} {ok : Nat → Prop} {x : S151} {cs : List Value} (h : k151.M w base ok x cs) : cs = [.string x.f0, .int .i64 x.f1] := by
  obtain ⟨_, _, rfl, rfl, rfl⟩ := h
  exact rfl
theorem k151_mk (w : World) (x : S151)  : k151.K w x [.string x.f0, .int .i64 x.f1] := ⟨[.string x.f0], [.int .i64 x.f1], rfl, rfl, rfl⟩
theorem k151_mkM (w : World) (base : Nat) (ok : Nat → Prop) (x : S151)  : k151.M w base ok x [.string x.f0, .int .i64 x.f1] := ⟨[.string x.f0], [.int .i64 x.f1], rfl, rfl, rfl⟩
theorem k151_mkF (W : World) (ok : Nat → Prop) (x : S151) : Kd.FK k151 W ok x [.string x.f0, .int .i64 x.f1] := fun W2 _ => k151_mk W2 x
def rd_T151 (xs : List S151) (i : Int) : S151 := xs.getD i.toNat z151
theorem at_T151 {w : World} {A : Option Addr} {n : Nat} {xs : List S151} (h : Kd.C k151 w A n xs) (i : Int) (h0 : 0 ≤ i) (h1 : i < n) : ∃ ad , A = some ad ∧ w.cell? (ad.add (i.toNat * 2)) = some (.string (rd_T151 xs i).f0) ∧ w.cell? ⟨(ad.add (i.toNat * 2)).block, (ad.add (i.toNat * 2)).off + 1, none⟩ = some (.int .i64 (rd_T151 xs i).f1) := by
  obtain ⟨ad, c, e, _, hK, hc0⟩ := Kd.C_get h z151 i h0 h1
  have hc : ∀ j u, c[j]? = some u → w.cell? (ad.add (i.toNat * 2 + j)) = some u := hc0
  obtain rfl := k151_open hK
  exact ⟨ad, e, hc 0 _ rfl, by rw [← add_field _ _ 1 (by omega)]; exact hc 1 _ rfl⟩

def rd_L19 (xs : List (List S151)) (i : Int) : (List S151) := xs.getD i.toNat ([] : List S151)
theorem at_L19 {w : World} {A : Option Addr} {n : Nat} {xs : List (List S151)} (h : Kd.C (Kd.slice 151 k151) w A n xs) (i : Int) (h0 : 0 ≤ i) (h1 : i < n) : ∃ ad A0 c0, A = some ad ∧ w.cell? (ad.add i.toNat) = some (.slice A0 (rd_L19 xs i).length c0) ∧ (rd_L19 xs i).length ≤ c0 ∧ k151.C w A0 (rd_L19 xs i).length (rd_L19 xs i) := by
  obtain ⟨ad, c, e, _, hK, hc0⟩ := Kd.C_get h ([] : List S151) i h0 h1
  have hc : ∀ j u, c[j]? = some u → w.cell? (ad.add (i.toNat * 1 + j)) = some u := hc0
  obtain ⟨A0, c0, rfl, l0, g0⟩ := hK
  exact ⟨ad, A0, c0, e, by have hq := hc 0 _ rfl; rwa [Nat.mul_one, Nat.add_zero] at hq, l0, g0⟩

def rd_L20 (xs : List (List ByteArray)) (i : Int) : (List ByteArray) := xs.getD i.toNat ([] : List ByteArray)
theorem at_L20 {w : World} {A : Option Addr} {n : Nat} {xs : List (List ByteArray)} (h : Kd.C (Kd.slice 9 Kd.string) w A n xs) (i : Int) (h0 : 0 ≤ i) (h1 : i < n) : ∃ ad A0 c0, A = some ad ∧ w.cell? (ad.add i.toNat) = some (.slice A0 (rd_L20 xs i).length c0) ∧ (rd_L20 xs i).length ≤ c0 ∧ Kd.string.C w A0 (rd_L20 xs i).length (rd_L20 xs i) := by
  obtain ⟨ad, c, e, _, hK, hc0⟩ := Kd.C_get h ([] : List ByteArray) i h0 h1
  have hc : ∀ j u, c[j]? = some u → w.cell? (ad.add (i.toNat * 1 + j)) = some u := hc0
  obtain ⟨A0, c0, rfl, l0, g0⟩ := hK
  exact ⟨ad, A0, c0, e, by have hq := hc 0 _ rfl; rwa [Nat.mul_one, Nat.add_zero] at hq, l0, g0⟩

/-! #### struct type 155 -/
structure S155 where
  f0 : Int
  f1 : Int
  f2 : Int
def z155 : S155 := ⟨(0 : Int), (0 : Int), (0 : Int)⟩
def k155 : Kd S155 := Kd.iso (Kd.pair (Kd.int .i64) (Kd.pair (Kd.int .i64) (Kd.int .i64))) (fun x : S155 => (x.f0, x.f1, x.f2))
theorem k155_open {w : World} {x : S155} {cs : List Value} (h : k155.K w x cs) : cs = [.int .i64 x.f0, .int .i64 x.f1, .int .i64 x.f2] := by
  obtain ⟨_, _, rfl, rfl, ⟨_, _, rfl, rfl, rfl⟩⟩ := h
  exact rfl
theorem k155_openM {w : World} {base : Nat} {ok : Nat → Prop} {x : S155} {cs : List Value} (h : k155.M w base ok x cs) : cs = [.int .i64 x.f0, .int .i64 x.f1, .int .i64 x.f2] := by
  obtain ⟨_, _, rfl, rfl, ⟨_, _, rfl, rfl, rfl⟩⟩ := h
  exact rfl
theorem k155_mk (w : World) (x : S155)  : k155.K w x [.int .i64 x.f0, .int .i64 x.f1, .int .i64 x.f2] := ⟨[.int .i64 x.f0], [.int .i64 x.f1, .int .i64 x.f2], rfl, rfl, ⟨[.int .i64 x.f1], [.int .i64 x.f2], rfl, rfl, rfl⟩⟩
theorem k155_mkM (w : World) (base : Nat) (ok : Nat → Prop) (x : S155)  : k155.M w base ok x [.int .i64 x.f0, .int .i64 x.f1, .int .i64 x.f2] := ⟨[.int .i64 x.f0], [.int .i64 x.f1, .int .i64 x.f2], rfl, rfl, ⟨[.int .i64 x.f1], [.int .i64 x.f2], rfl, rfl, rfl⟩⟩
theorem k155_mkF (W : World) (ok : Nat → Prop) (x : S155) : Kd.FK k155 W ok x [.int .i64 x.f0, .int .i64 x.f1, .int .i64 x.f2] := fun W2 _ => k155_mk W2 x
def rd_T155 (xs : List S155) (i : Int) : S155 := xs.getD i.toNat z155
theorem at_T155 {w : World} {A : Option Addr} {n : Nat} {xs : List S155} (h : Kd.C k155 w A n xs) (i : Int) (h0 : 0 ≤ i) (h1 : i < n) : ∃ ad , A = some ad ∧ w.cell? (ad.add (i.toNat * 3)) = some (.int .i64 (rd_T155 xs i).f0) ∧ w.cell? ⟨(ad.add (i.toNat * 3)).block, (ad.add (i.toNat * 3)).off + 1, none⟩ = some (.int .i64 (rd_T155 xs i).f1) ∧ w.cell? ⟨(ad.add (i.toNat * 3)).block, (ad.add (i.toNat * 3)).off + 2, none⟩ = some (.int .i64 (rd_T155 xs i).f2) := by
  obtain ⟨ad, c, e, _, hK, hc0⟩ := Kd.C_get h z155 i h0 h1
  have hc : ∀ j u, c[j]? = some u → w.cell? (ad.add (i.toNat * 3 + j)) = some u := hc0
  obtain rfl := k155_open hK
  exact ⟨ad, e, hc 0 _ rfl, by rw [← add_field _ _ 1 (by omega)]; exact hc 1 _ rfl, by rw [← add_field _ _ 2 (by omega)]; exact hc 2 _ rfl⟩

def rd_L22 (xs : List (List S155)) (i : Int) : (List S155) := xs.getD i.toNat ([] : List S155)
theorem at_L22 {w : World} {A : Option Addr} {n : Nat} {xs : List (List S155)} (h : Kd.C (Kd.slice 155 k155) w A n xs) (i : Int) (h0 : 0 ≤ i) (h1 : i < n) : ∃ ad A0 c0, A = some ad ∧ w.cell? (ad.add i.toNat) = some (.slice A0 (rd_L22 xs i).length c0) ∧ (rd_L22 xs i).length ≤ c0 ∧ k155.C w A0 (rd_L22 xs i).length (rd_L22 xs i) := by
  obtain ⟨ad, c, e, _, hK, hc0⟩ := Kd.C_get h ([] : List S155) i h0 h1
  have hc : ∀ j u, c[j]? = some u → w.cell? (ad.add (i.toNat * 1 + j)) = some u := hc0
  obtain ⟨A0, c0, rfl, l0, g0⟩ := hK
  exact ⟨ad, A0, c0, e, by have hq := hc 0 _ rfl; rwa [Nat.mul_one, Nat.add_zero] at hq, l0, g0⟩

/-! #### struct type 72 -/
structure S72 where
  f0 : (List S145)
  f1 : (List S148)
  f2 : (List S151)
  f3 : (List ByteArray)
  f4 : (List ByteArray)
  f5 : (List S155)
def z72 : S72 := ⟨([] : List S145), ([] : List S148), ([] : List S151), ([] : List ByteArray), ([] : List ByteArray), ([] : List S155)⟩
def k72 : Kd S72 := Kd.iso (Kd.pair (Kd.slice 145 k145) (Kd.pair (Kd.slice 148 k148) (Kd.pair (Kd.slice 151 k151) (Kd.pair (Kd.slice 9 Kd.string) (Kd.pair (Kd.slice 9 Kd.string) (Kd.slice 155 k155)))))) (fun x : S72 => (x.f0, x.f1, x.f2, x.f3, x.f4, x.f5))
theorem k72_open {w : World} {x : S72} {cs : List Value} (h : k72.K w x cs) : ∃ A0 c0 A1 c1 A2 c2 A3 c3 A4 c4 A5 c5, cs = [.slice A0 x.f0.length c0, .slice A1 x.f1.length c1, .slice A2 x.f2.length c2, .slice A3 x.f3.length c3, .slice A4 x.f4.length c4, .slice A5 x.f5.length c5] ∧ x.f0.length ≤ c0 ∧ k145.C w A0 x.f0.length x.f0 ∧ x.f1.length ≤ c1 ∧ k148.C w A1 x.f1.length x.f1 ∧ x.f2.length ≤ c2 ∧ k151.C w A2 x.f2.length x.f2 ∧ x.f3.length ≤ c3 ∧ Kd.string.C w A3 x.f3.length x.f3 ∧ x.f4.length ≤ c4 ∧ Kd.string.C w A4 x.f4.length x.f4 ∧ x.f5.length ≤ c5 ∧ k155.C w A5 x.f5.length x.f5 := by
  obtain ⟨_, _, rfl, ⟨A0, c0, rfl, l0, g0⟩, ⟨_, _, rfl, ⟨A1, c1, rfl, l1, g1⟩, ⟨_, _, rfl, ⟨A2, c2, rfl, l2, g2⟩, ⟨_, _, rfl, ⟨A3, c3, rfl, l3, g3⟩, ⟨_, _, rfl, ⟨A4, c4, rfl, l4, g4⟩, ⟨A5, c5, rfl, l5, g5⟩⟩⟩⟩⟩⟩ := h
  exact ⟨A0, c0, A1, c1, A2, c2, A3, c3, A4, c4, A5, c5, rfl, l0, g0, l1, g1, l2, g2, l3, g3, l4, g4, l5, g5⟩
theorem k72_openM {w : World} {base : Nat} {ok : Nat → Prop} {x : S72} {cs : List Value} (h : k72.M w base ok x cs) : ∃ v0 v1 v2 v3 v4 v5, cs = [v0, v1, v2, v3, v4, v5] ∧ k145.R 145 w base ok v0 x.f0 ∧ k148.R 148 w base ok v1 x.f1 ∧ k151.R 151 w base ok v2 x.f2 ∧ Kd.string.R 9 w base ok v3 x.f3 ∧ Kd.string.R 9 w base ok v4 x.f4 ∧ k155.R 155 w base ok v5 x.f5 := by
  obtain ⟨_, _, rfl, ⟨v0, rfl, g0⟩, ⟨_, _, rfl, ⟨v1, rfl, g1⟩, ⟨_, _, rfl, ⟨v2, rfl, g2⟩, ⟨_, _, rfl, ⟨v3, rfl, g3⟩, ⟨_, _, rfl, ⟨v4, rfl, g4⟩, ⟨v5, rfl, g5⟩⟩⟩⟩⟩⟩ := h
  exact ⟨v0, v1, v2, v3, v4, v5, rfl, g0, g1, g2, g3, g4, g5⟩
theorem k72_mk (w : World) (x : S72) {A0 : Option Addr} {c0 : Nat} (l0 : x.f0.length ≤ c0) (g0 : k145.C w A0 x.f0.length x.f0) {A1 : Option Addr} {c1 : Nat} (l1 : x.f1.length ≤ c1) (g1 : k148.C w A1 x.f1.length x.f1) {A2 : Option Addr} {c2 : Nat} (l2 : x.f2.length ≤ c2) (g2 : k151.C w A2 x.f2.length x.f2) {A3 : Option Addr} {c3 : Nat} (l3 : x.f3.length ≤ c3) (g3 : Kd.string.C w A3 x.f3.length x.f3) {A4 : Option Addr} {c4 : Nat} (l4 : x.f4.length ≤ c4) (g4 : Kd.string.C w A4 x.f4.length x.f4) {A5 : Option Addr} {c5 : Nat} (l5 : x.f5.length ≤ c5) (g5 : k155.C w A5 x.f5.length x.f5) : k72.K w x [.slice A0 x.f0.length c0, .slice A1 x.f1.length c1, .slice A2 x.f2.length c2, .slice A3 x.f3.length c3, .slice A4 x.f4.length c4, .slice A5 x.f5.length c5] := ⟨[.slice A0 x.f0.length c0], [.slice A1 x.f1.length c1, .slice A2 x.f2.length c2, .slice A3 x.f3.length c3, .slice A4 x.f4.length c4, .slice A5 x.f5.length c5], rfl, ⟨A0, c0, rfl, l0, g0⟩, ⟨[.slice A1 x.f1.length c1], [.slice A2 x.f2.length c2, .slice A3 x.f3.length c3, .slice A4 x.f4.length c4, .slice A5 x.f5.length c5], rfl, ⟨A1, c1, rfl, l1, g1⟩, ⟨[.slice A2 x.f2.length c2], [.slice A3 x.f3.length c3, .slice A4 x.f4.length c4, .slice A5 x.f5.length c5], rfl, ⟨A2, c2, rfl, l2, g2⟩, ⟨[.slice A3 x.f3.length c3], [.slice A4 x.f4.length c4, .slice A5 x.f5.length c5], rfl, ⟨A3, c3, rfl, l3, g3⟩, ⟨[.slice A4 x.f4.length c4], [.slice A5 x.f5.length c5], rfl, ⟨A4, c4, rfl, l4, g4⟩, ⟨A5, c5, rfl, l5, g5⟩⟩⟩⟩⟩⟩
theorem k72_mkM (w : World) (base : Nat) (ok : Nat → Prop) (x : S72) {v0 : Value} (g0 : k145.R 145 w base ok v0 x.f0) {v1 : Value} (g1 : k148.R 148 w base ok v1 x.f1) {v2 : Value} (g2 : k151.R 151 w base ok v2 x.f2) {v3 : Value} (g3 : Kd.string.R 9 w base ok v3 x.f3) {v4 : Value} (g4 : Kd.string.R 9 w base ok v4 x.f4) {v5 : Value} (g5 : k155.R 155 w base ok v5 x.f5) : k72.M w base ok x [v0, v1, v2, v3, v4, v5] := ⟨[v0], [v1, v2, v3, v4, v5], rfl, ⟨v0, rfl, g0⟩, ⟨[v1], [v2, v3, v4, v5], rfl, ⟨v1, rfl, g1⟩, ⟨[v2], [v3, v4, v5], rfl, ⟨v2, rfl, g2⟩, ⟨[v3], [v4, v5], rfl, ⟨v3, rfl, g3⟩, ⟨[v4], [v5], rfl, ⟨v4, rfl, g4⟩, ⟨v5, rfl, g5⟩⟩⟩⟩⟩⟩
theorem k72_openF {W : World} {ok : Nat → Prop} {x : S72} {cs : List Value} (h : Kd.FK k72 W ok x cs) : ∃ A0 c0 A1 c1 A2 c2 A3 c3 A4 c4 A5 c5, cs = [.slice A0 x.f0.length c0, .slice A1 x.f1.length c1, .slice A2 x.f2.length c2, .slice A3 x.f3.length c3, .slice A4 x.f4.length c4, .slice A5 x.f5.length c5] ∧ x.f0.length ≤ c0 ∧ Kd.F k145 W ok A0 x.f0.length x.f0 ∧ x.f1.length ≤ c1 ∧ Kd.F k148 W ok A1 x.f1.length x.f1 ∧ x.f2.length ≤ c2 ∧ Kd.F k151 W ok A2 x.f2.length x.f2 ∧ x.f3.length ≤ c3 ∧ Kd.F Kd.string W ok A3 x.f3.length x.f3 ∧ x.f4.length ≤ c4 ∧ Kd.F Kd.string W ok A4 x.f4.length x.f4 ∧ x.f5.length ≤ c5 ∧ Kd.F k155 W ok A5 x.f5.length x.f5 := by
  obtain ⟨A0, c0, A1, c1, A2, c2, A3, c3, A4, c4, A5, c5, rfl, l0, _, l1, _, l2, _, l3, _, l4, _, l5, _⟩ := k72_open (Kd.FK_now h)
  exact ⟨A0, c0, A1, c1, A2, c2, A3, c3, A4, c4, A5, c5, rfl, l0, (fun W' hW => by obtain ⟨A0_, c0_, A1_, c1_, A2_, c2_, A3_, c3_, A4_, c4_, A5_, c5_, he, l0_, g0_, l1_, g1_, l2_, g2_, l3_, g3_, l4_, g4_, l5_, g5_⟩ := k72_open (h W' hW); injection (Option.some.inj (show some (Value.slice A0 x.f0.length c0) = some (Value.slice A0_ x.f0.length c0_) from congrArg (fun l => l[0]?) he)) with ha_ _ _; rw [ha_]; exact g0_), l1, (fun W' hW => by obtain ⟨A0_, c0_, A1_, c1_, A2_, c2_, A3_, c3_, A4_, c4_, A5_, c5_, he, l0_, g0_, l1_, g1_, l2_, g2_, l3_, g3_, l4_, g4_, l5_, g5_⟩ := k72_open (h W' hW); injection (Option.some.inj (show some (Value.slice A1 x.f1.length c1) = some (Value.slice A1_ x.f1.length c1_) from congrArg (fun l => l[1]?) he)) with ha_ _ _; rw [ha_]; exact g1_), l2, (fun W' hW => by obtain ⟨A0_, c0_, A1_, c1_, A2_, c2_, A3_, c3_, A4_, c4_, A5_, c5_, he, l0_, g0_, l1_, g1_, l2_, g2_, l3_, g3_, l4_, g4_, l5_, g5_⟩ := k72_open (h W' hW); injection (Option.some.inj (show some (Value.slice A2 x.f2.length c2) = some (Value.slice A2_ x.f2.length c2_) from congrArg (fun l => l[2]?) he)) with ha_ _ _; rw [ha_]; exact g2_), l3, (fun W' hW => by obtain ⟨A0_, c0_, A1_, c1_, A2_, c2_, A3_, c3_, A4_, c4_, A5_, c5_, he, l0_, g0_, l1_, g1_, l2_, g2_, l3_, g3_, l4_, g4_, l5_, g5_⟩ := k72_open (h W' hW); injection (Option.some.inj (show some (Value.slice A3 x.f3.length c3) = some (Value.slice A3_ x.f3.length c3_) from congrArg (fun l => l[3]?) he)) with ha_ _ _; rw [ha_]; exact g3_), l4, (fun W' hW => by obtain ⟨A0_, c0_, A1_, c1_, A2_, c2_, A3_, c3_, A4_, c4_, A5_, c5_, he, l0_, g0_, l1_, g1_, l2_, g2_, l3_, g3_, l4_, g4_, l5_, g5_⟩ := k72_open (h W' hW); injection (Option.some.inj (show some (Value.slice A4 x.f4.length c4) = some (Value.slice A4_ x.f4.length c4_) from congrArg (fun l => l[4]?) he)) with ha_ _ _; rw [ha_]; exact g4_), l5, (fun W' hW => by obtain ⟨A0_, c0_, A1_, c1_, A2_, c2_, A3_, c3_, A4_, c4_, A5_, c5_, he, l0_, g0_, l1_, g1_, l2_, g2_, l3_, g3_, l4_, g4_, l5_, g5_⟩ := k72_open (h W' hW); injection (Option.some.inj (show some (Value.slice A5 x.f5.length c5) = some (Value.slice A5_ x.f5.length c5_) from congrArg (fun l => l[5]?) he)) with ha_ _ _; rw [ha_]; exact g5_)⟩
theorem k72_mkF (W : World) (ok : Nat → Prop) (x : S72) {A0 : Option Addr} {c0 : Nat} (l0 : x.f0.length ≤ c0) (g0 : Kd.F k145 W ok A0 x.f0.length x.f0) {A1 : Option Addr} {c1 : Nat} (l1 : x.f1.length ≤ c1) (g1 : Kd.F k148 W ok A1 x.f1.length x.f1) {A2 : Option Addr} {c2 : Nat} (l2 : x.f2.length ≤ c2) (g2 : Kd.F k151 W ok A2 x.f2.length x.f2) {A3 : Option Addr} {c3 : Nat} (l3 : x.f3.length ≤ c3) (g3 : Kd.F Kd.string W ok A3 x.f3.length x.f3) {A4 : Option Addr} {c4 : Nat} (l4 : x.f4.length ≤ c4) (g4 : Kd.F Kd.string W ok A4 x.f4.length x.f4) {A5 : Option Addr} {c5 : Nat} (l5 : x.f5.length ≤ c5) (g5 : Kd.F k155 W ok A5 x.f5.length x.f5) : Kd.FK k72 W ok x [.slice A0 x.f0.length c0, .slice A1 x.f1.length c1, .slice A2 x.f2.length c2, .slice A3 x.f3.length c3, .slice A4 x.f4.length c4, .slice A5 x.f5.length c5] := fun W2 hW => k72_mk W2 x l0 (g0 W2 hW) l1 (g1 W2 hW) l2 (g2 W2 hW) l3 (g3 W2 hW) l4 (g4 W2 hW) l5 (g5 W2 hW)
def rd_T72 (xs : List S72) (i : Int) : S72 := xs.getD i.toNat z72
theorem at_T72 {w : World} {A : Option Addr} {n : Nat} {xs : List S72} (h : Kd.C k72 w A n xs) (i : Int) (h0 : 0 ≤ i) (h1 : i < n) : ∃ ad A0 c0 A1 c1 A2 c2 A3 c3 A4 c4 A5 c5, A = some ad ∧ w.cell? (ad.add (i.toNat * 6)) = some (.slice A0 (rd_T72 xs i).f0.length c0) ∧ w.cell? ⟨(ad.add (i.toNat * 6)).block, (ad.add (i.toNat * 6)).off + 1, none⟩ = some (.slice A1 (rd_T72 xs i).f1.length c1) ∧ w.cell? ⟨(ad.add (i.toNat * 6)).block, (ad.add (i.toNat * 6)).off + 2, none⟩ = some (.slice A2 (rd_T72 xs i).f2.length c2) ∧ w.cell? ⟨(ad.add (i.toNat * 6)).block, (ad.add (i.toNat * 6)).off + 3, none⟩ = some (.slice A3 (rd_T72 xs i).f3.length c3) ∧ w.cell? ⟨(ad.add (i.toNat * 6)).block, (ad.add (i.toNat * 6)).off + 4, none⟩ = some (.slice A4 (rd_T72 xs i).f4.length c4) ∧ w.cell? ⟨(ad.add (i.toNat * 6)).block, (ad.add (i.toNat * 6)).off + 5, none⟩ = some (.slice A5 (rd_T72 xs i).f5.length c5) ∧ (rd_T72 xs i).f0.length ≤ c0 ∧ k145.C w A0 (rd_T72 xs i).f0.length (rd_T72 xs i).f0 ∧ (rd_T72 xs i).f1.length ≤ c1 ∧ k148.C w A1 (rd_T72 xs i).f1.length (rd_T72 xs i).f1 ∧ (rd_T72 xs i).f2.length ≤ c2 ∧ k151.C w A2 (rd_T72 xs i).f2.length (rd_T72 xs i).f2 ∧ (rd_T72 xs i).f3.length ≤ c3 ∧ Kd.string.C w A3 (rd_T72 xs i).f3.length (rd_T72 xs i).f3 ∧ (rd_T72 xs i).f4.length ≤ c4 ∧ Kd.string.C w A4 (rd_T72 xs i).f4.length (rd_T72 xs i).f4 ∧ (rd_T72 xs i).f5.length ≤ c5 ∧ k155.C w A5 (rd_T72 xs i).f5.length (rd_T72 xs i).f5 := by
  obtain ⟨ad, c, e, _, hK, hc0⟩ := Kd.C_get h z72 i h0 h1
  have hc : ∀ j u, c[j]? = some u → w.cell? (ad.add (i.toNat * 6 + j)) = some u := hc0
  obtain ⟨A0, c0, A1, c1, A2, c2, A3, c3, A4, c4, A5, c5, rfl, l0, g0, l1, g1, l2, g2, l3, g3, l4, g4, l5, g5⟩ := k72_open hK
  exact ⟨ad, A0, c0, A1, c1, A2, c2, A3, c3, A4, c4, A5, c5, e, hc 0 _ rfl, by rw [← add_field _ _ 1 (by omega)]; exact hc 1 _ rfl, by rw [← add_field _ _ 2 (by omega)]; exact hc 2 _ rfl, by rw [← add_field _ _ 3 (by omega)]; exact hc 3 _ rfl, by rw [← add_field _ _ 4 (by omega)]; exact hc 4 _ rfl, by rw [← add_field _ _ 5 (by omega)]; exact hc 5 _ rfl, l0, g0, l1, g1, l2, g2, l3, g3, l4, g4, l5, g5⟩

def rd_L24 (xs : List (List (List Int))) (i : Int) : (List (List Int)) := xs.getD i.toNat ([] : List (List Int))
theorem at_L24 {w : World} {A : Option Addr} {n : Nat} {xs : List (List (List Int))} (h : Kd.C (Kd.slice 27 (Kd.slice 5 (Kd.int .u8))) w A n xs) (i : Int) (h0 : 0 ≤ i) (h1 : i < n) : ∃ ad A0 c0, A = some ad ∧ w.cell? (ad.add i.toNat) = some (.slice A0 (rd_L24 xs i).length c0) ∧ (rd_L24 xs i).length ≤ c0 ∧ (Kd.slice 5 (Kd.int .u8)).C w A0 (rd_L24 xs i).length (rd_L24 xs i) := by
  obtain ⟨ad, c, e, _, hK, hc0⟩ := Kd.C_get h ([] : List (List Int)) i h0 h1
  have hc : ∀ j u, c[j]? = some u → w.cell? (ad.add (i.toNat * 1 + j)) = some u := hc0
  obtain ⟨A0, c0, rfl, l0, g0⟩ := hK
  exact ⟨ad, A0, c0, e, by have hq := hc 0 _ rfl; rwa [Nat.mul_one, Nat.add_zero] at hq, l0, g0⟩

end Go.Proofs.Ytnmmkgagbfniiaa.A
