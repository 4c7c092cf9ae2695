-- Written by eprint.py (a program of this session's, over the kit's print), not by hand.
import Derived.Test.YtdeannaaafffbaaProg
import Derived.Below
import Derived.Deep.Draws
import Derived.Deep.AppendLies
import Derived.Maps.AppendAt
import Derived.OwnWalk
import Derived.Laws.BytesArg
import Derived.Laws.MakeOwn
import Derived.Laws.OwnMore
import Derived.Deep.OwnRows
import Derived.Tactics
import Derived.Lib.ConvBytes
import Derived.Laws.Slices
import Derived.WalkKit
import Derived.KernelRfl
import Derived.RowKit3
import Derived.Deep.LoopGhost
import Derived.Deep.QuietTactic
import Derived.BigQuiet
import Derived.WideLaws
import Derived.Deep.DeepCutAuto
import Derived.Deep.CutBlock
import Derived.Deep.RegionHeld3
import Derived.Laws.Rows
import Derived.Lib.AppendStr
import Derived.ArgAppend
import Derived.Laws.IdiomCopy
import Derived.OrdersHeld
import Derived.Laws.BitsLemmas
import Derived.RowKit
import Derived.Test.YtdeannaaafffbaaWWords
import Derived.Test.YtdeannaaafffbaaWLast
import Derived.Test.YtdeannaaafffbaaWTab
import Derived.Test.YtdeannaaafffbaaWFour
import Derived.Test.YtdeannaaafffbaaWQPut
import Derived.Test.YtdeannaaafffbaaWApart
import Derived.Test.YtdeannaaafffbaaWArr
import Derived.Test.YtdeannaaafffbaaWZeros
import Derived.Test.YtdeannaaafffbaaWFoot
import Derived.Test.YtdeannaaafffbaaWKept
import Derived.Test.YtdeannaaafffbaaWShare
import Derived.Test.YtdeannaaafffbaaWN
import Derived.Test.YtdeannaaafffbaaWFootNe
import Derived.Test.YtdeannaaafffbaaWAt
import Derived.Test.YtdeannaaafffbaaWEqStruct
import Derived.Test.YtdeannaaafffbaaWRepsOne
import Derived.Test.YtdeannaaafffbaaWInv
import Derived.Test.YtdeannaaafffbaaWInvWords
import Derived.Test.YtdeannaaafffbaaWGuard
import Derived.Test.YtdeannaaafffbaaWNEv
import Derived.Test.YtdeannaaafffbaaWMore
namespace Go.Proofs.Ytdeannaaafffbaa.ECh
open Go.RowKit Go.Proofs.YtdeannaaafffbaaW.PrintWords Go.Proofs.YtdeannaaafffbaaW.PrintLast Go.Proofs.YtdeannaaafffbaaW.PrintMore
attribute [local go_sem] max2_int min2_int max_two min_two max_three min_three max_four min_four   -- for this text's walks alone
set_option linter.unusedVariables false
set_option linter.unusedSimpArgs false



def errW : Option Int → Value
  | none => .nilIface
  | some c => .iface 0 (.int .i64 c)
theorem errW_none : errW none = .nilIface := rfl
theorem errW_some (c : Int) : errW (some c) = .iface 0 (.int .i64 c) := rfl

theorem info3 : (Try.prog.info? 3).map (fun i => (i.zero, i.size, i.bytes)) = some (some (.int .i64 0), 1, 8) := by kernel_rfl
theorem info5 : (Try.prog.info? 5).map (fun i => (i.zero, i.size, i.bytes)) = some (some (.int .u8 0), 1, 1) := by kernel_rfl
theorem info9 : (Try.prog.info? 9).map (fun i => (i.zero, i.size, i.bytes)) = some (some (.string ⟨#[]⟩), 1, 16) := by kernel_rfl
-- the values' own types
def rd_L4 (xs : List (List ByteArray)) (i : Int) : (List ByteArray) := xs.getD i.toNat ([] : List ByteArray)
theorem at_L4 {w : World} {A : Option Addr} {n : Nat} {xs : List (List ByteArray)} (h : Kd.C (Kd.slice 9 Kd.string) w A n xs) (i : Int) (h0 : 0 ≤ i) (h1 : i < n) : ∃ ad A0 c0, A = some ad ∧ w.cell? (ad.add i.toNat) = some (.slice A0 (rd_L4 xs i).length c0) ∧ (rd_L4 xs i).length ≤ c0 ∧ Kd.string.C w A0 (rd_L4 xs i).length (rd_L4 xs i) := by
  obtain ⟨ad, c, e, _, hK, hc0⟩ := Kd.C_get h ([] : List ByteArray) i h0 h1
  have hc : ∀ j u, c[j]? = some u → w.cell? (ad.add (i.toNat * 1 + j)) = some u := hc0
  obtain ⟨A0, c0, rfl, l0, g0⟩ := hK
  exact ⟨ad, A0, c0, e, by have hq := hc 0 _ rfl; rwa [Nat.mul_one, Nat.add_zero] at hq, l0, g0⟩

/-! #### struct type 28 -/
structure S28 where
  f0 : ByteArray
  f1 : ByteArray
  f2 : ByteArray
  f3 : Int
  f4 : Int
  f5 : (List ByteArray)
  f6 : Int
def z28 : S28 := ⟨(⟨#[]⟩ : ByteArray), (⟨#[]⟩ : ByteArray), (⟨#[]⟩ : ByteArray), (0 : Int), (0 : Int), ([] : List ByteArray), (0 : Int)⟩
def k28 : Kd S28 := Kd.iso (Kd.pair Kd.string (Kd.pair Kd.string (Kd.pair Kd.string (Kd.pair (Kd.int .u64) (Kd.pair (Kd.int .u64) (Kd.pair (Kd.slice 9 Kd.string) (Kd.int .i64))))))) (fun x : S28 => (x.f0, x.f1, x.f2, x.f3, x.f4, x.f5, x.f6))
theorem k28_open {w : World} {x : S28} {cs : List Value} (h : k28.K w x cs) : ∃ A5 c5, cs = [.string x.f0, .string x.f1, .string x.f2, .int .u64 x.f3, .int .u64 x.f4, .slice A5 x.f5.length c5, .int .i64 x.f6] ∧ x.f5.length ≤ c5 ∧ Kd.string.C w A5 x.f5.length x.f5 := by
  obtain ⟨_, _, rfl, rfl, ⟨_, _, rfl, rfl, ⟨_, _, rfl, rfl, ⟨_, _, rfl, rfl, ⟨_, _, rfl, rfl, ⟨_, _, rfl, ⟨A5, c5, rfl, l5, g5⟩, rfl⟩⟩⟩⟩⟩⟩ := h
  exact ⟨A5, c5, rfl, l5, g5⟩
theorem k28_openM {w : World} {base : Nat} {ok : Nat → Prop} {x : S28} {cs : List Value} (h : k28.M w base ok x cs) : ∃ v5, cs = [.string x.f0, .string x.f1, .string x.f2, .int .u64 x.f3, .int .u64 x.f4, v5, .int .i64 x.f6] ∧ Kd.string.R 9 w base ok v5 x.f5 := by
  obtain ⟨_, _, rfl, rfl, ⟨_, _, rfl, rfl, ⟨_, _, rfl, rfl, ⟨_, _, rfl, rfl, ⟨_, _, rfl, rfl, ⟨_, _, rfl, ⟨v5, rfl, g5⟩, rfl⟩⟩⟩⟩⟩⟩ := h
  exact ⟨v5, rfl, g5⟩
theorem k28_mk (w : World) (x : S28) {A5 : Option Addr} {c5 : Nat} (l5 : x.f5.length ≤ c5) (g5 : Kd.string.C w A5 x.f5.length x.f5) : k28.K w x [.string x.f0, .string x.f1, .string x.f2, .int .u64 x.f3, .int .u64 x.f4, .slice A5 x.f5.length c5, .int .i64 x.f6] := ⟨[.string x.f0], [.string x.f1, .string x.f2, .int .u64 x.f3, .int .u64 x.f4, .slice A5 x.f5.length c5, .int .i64 x.f6], rfl, rfl, ⟨[.string x.f1], [.string x.f2, .int .u64 x.f3, .int .u64 x.f4, .slice A5 x.f5.length c5, .int .i64 x.f6], rfl, rfl, ⟨[.string x.f2], [.int .u64 x.f3, .int .u64 x.f4, .slice A5 x.f5.length c5, .int .i64 x.f6], rfl, rfl, ⟨[.int .u64 x.f3], [.int .u64 x.f4, .slice A5 x.f5.length c5, .int .i64 x.f6], rfl, rfl, ⟨[.int .u64 x.f4], [.slice A5 x.f5.length c5, .int .i64 x.f6], rfl, rfl, ⟨[.slice A5 x.f5.length c5], [.int .i64 x.f6], rfl, ⟨A5, c5, rfl, l5, g5⟩, rfl⟩⟩⟩⟩⟩⟩
theorem k28_mkM (w : World) (base : Nat) (ok : Nat → Prop) (x : S28) {v5 : Value} (g5 : Kd.string.R 9 w base ok v5 x.f5) : k28.M w base ok x [.string x.f0, .string x.f1, .string x.f2, .int .u64 x.f3, .int .u64 x.f4, v5, .int .i64 x.f6] := ⟨[.string x.f0], [.string x.f1, .string x.f2, .int .u64 x.f3, .int .u64 x.f4, v5, .int .i64 x.f6], rfl, rfl, ⟨[.string x.f1], [.string x.f2, .int .u64 x.f3, .int .u64 x.f4, v5, .int .i64 x.f6], rfl, rfl, ⟨[.string x.f2], [.int .u64 x.f3, .int .u64 x.f4, v5, .int .i64 x.f6], rfl, rfl, ⟨[.int .u64 x.f3], [.int .u64 x.f4, v5, .int .i64 x.f6], rfl, rfl, ⟨[.int .u64 x.f4], [v5, .int .i64 x.f6], rfl, rfl, ⟨[v5], [.int .i64 x.f6], rfl, ⟨v5, rfl, g5⟩, rfl⟩⟩⟩⟩⟩⟩
def rd_T28 (xs : List S28) (i : Int) : S28 := xs.getD i.toNat z28
theorem at_T28 {w : World} {A : Option Addr} {n : Nat} {xs : List S28} (h : Kd.C k28 w A n xs) (i : Int) (h0 : 0 ≤ i) (h1 : i < n) : ∃ ad A5 c5, A = some ad ∧ w.cell? (ad.add (i.toNat * 7)) = some (.string (rd_T28 xs i).f0) ∧ w.cell? ⟨(ad.add (i.toNat * 7)).block, (ad.add (i.toNat * 7)).off + 1, none⟩ = some (.string (rd_T28 xs i).f1) ∧ w.cell? ⟨(ad.add (i.toNat * 7)).block, (ad.add (i.toNat * 7)).off + 2, none⟩ = some (.string (rd_T28 xs i).f2) ∧ w.cell? ⟨(ad.add (i.toNat * 7)).block, (ad.add (i.toNat * 7)).off + 3, none⟩ = some (.int .u64 (rd_T28 xs i).f3) ∧ w.cell? ⟨(ad.add (i.toNat * 7)).block, (ad.add (i.toNat * 7)).off + 4, none⟩ = some (.int .u64 (rd_T28 xs i).f4) ∧ w.cell? ⟨(ad.add (i.toNat * 7)).block, (ad.add (i.toNat * 7)).off + 5, none⟩ = some (.slice A5 (rd_T28 xs i).f5.length c5) ∧ w.cell? ⟨(ad.add (i.toNat * 7)).block, (ad.add (i.toNat * 7)).off + 6, none⟩ = some (.int .i64 (rd_T28 xs i).f6) ∧ (rd_T28 xs i).f5.length ≤ c5 ∧ Kd.string.C w A5 (rd_T28 xs i).f5.length (rd_T28 xs i).f5 := by
  obtain ⟨ad, c, e, _, hK, hc0⟩ := Kd.C_get h z28 i h0 h1
  have hc : ∀ j u, c[j]? = some u → w.cell? (ad.add (i.toNat * 7 + j)) = some u := hc0
  obtain ⟨A5, c5, rfl, l5, g5⟩ := k28_open hK
  exact ⟨ad, A5, c5, e, hc 0 _ rfl, by rw [← add_field _ _ 1 (by omega)]; exact hc 1 _ rfl, by rw [← add_field _ _ 2 (by omega)]; exact hc 2 _ rfl, by rw [← add_field _ _ 3 (by omega)]; exact hc 3 _ rfl, by rw [← add_field _ _ 4 (by omega)]; exact hc 4 _ rfl, by rw [← add_field _ _ 5 (by omega)]; exact hc 5 _ rfl, by rw [← add_field _ _ 6 (by omega)]; exact hc 6 _ rfl, l5, g5⟩

end Go.Proofs.Ytdeannaaafffbaa.ECh
