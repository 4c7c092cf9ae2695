/-
  DERIVED: THE SHELF's CONTRACTS AT THIS DUMP, IN PLAIN WORDS (tools/lay-plain.mjs out of 'TrydShelf.lean', which tools/lay-shelf.mjs wrote): THE SAME DECLARATIONS UNDER THE SAME NAMES: 'import', 'namespace', 'open', 'def', 'theorem' AND NOTHING ELSE: no command of the shelf's: FOR A HAND-IN. Each laying: the table of numbers ('.._ren') and one theorem, a field a fact of the dump's own or the kernel's comparison; each contract: ONE APPLICATION.
-/
import Derived.Shelf.Strings.Builder1
import Derived.Shelf.Strings.BuilderF
import Derived.Shelf.Strings.BuilderK
import Derived.Shelf.Strconv.Itoa0
import Derived.Shelf.Strconv.Itoa1
import Derived.Shelf.LaysM
import Derived.Shelf.Strconv.Itoa2
import Derived.Shelf.Strconv.Itoa3
import Derived.Shelf.Strings.BuilderCap
import Derived.Test.YtdkejcadoepnnaaDoorProg
set_option linter.unusedSimpArgs false
namespace Go.Proofs
open Go.Shelf
def Tryd.lays170_ren : Go.Shelf.Ren := ⟨fun | 170 => 31 | n => n, fun | 70 => 82 | 3 => 3 | 0 => 0 | 72 => 84 | 37 => 34 | 5 => 5 | n => n, fun | n => n⟩
theorem Tryd.lays170 : Go.Proofs.Lays.n170 Tryd.prog Tryd.lays170_ren := {
 mixed := by kernel_rfl
 f170 := Tryd.func31.trans (congrArg some (by kernel_rfl))
 t0 := Tryd.underlying0
 a0 := Tryd.isAgg0
 z0 := Tryd.sizeOf0
 v0 := Tryd.zeroValue0
 t3 := Tryd.underlying3
 a3 := Tryd.isAgg3
 z3 := Tryd.sizeOf3
 v3 := Tryd.zeroValue3
 t37 := Tryd.underlying34
 a37 := Tryd.isAgg34
 z37 := Tryd.sizeOf34
 v37 := Tryd.zeroValue34
 t70 := Tryd.underlying82
 a70 := Tryd.isAgg82
 z70 := Tryd.sizeOf82
 v70 := Tryd.zeroValue82
 t72 := Tryd.underlying84
 a72 := Tryd.isAgg84
 z72 := Tryd.sizeOf84
 v72 := Tryd.zeroValue84 }
def Tryd.lays169_ren : Go.Shelf.Ren := ⟨fun | 169 => 32 | n => n, fun | 70 => 82 | 9 => 9 | 0 => 0 | 72 => 84 | 37 => 34 | 127 => 103 | 3 => 3 | 5 => 5 | n => n, fun | n => n⟩
theorem Tryd.lays169 : Go.Proofs.Lays.n169 Tryd.prog Tryd.lays169_ren := {
 mixed := by kernel_rfl
 f169 := Tryd.func32.trans (congrArg some (by kernel_rfl))
 t0 := Tryd.underlying0
 a0 := Tryd.isAgg0
 z0 := Tryd.sizeOf0
 v0 := Tryd.zeroValue0
 t3 := Tryd.underlying3
 a3 := Tryd.isAgg3
 z3 := Tryd.sizeOf3
 v3 := Tryd.zeroValue3
 t9 := Tryd.underlying9
 a9 := Tryd.isAgg9
 z9 := Tryd.sizeOf9
 v9 := Tryd.zeroValue9
 t37 := Tryd.underlying34
 a37 := Tryd.isAgg34
 z37 := Tryd.sizeOf34
 v37 := Tryd.zeroValue34
 t70 := Tryd.underlying82
 a70 := Tryd.isAgg82
 z70 := Tryd.sizeOf82
 v70 := Tryd.zeroValue82
 t72 := Tryd.underlying84
 a72 := Tryd.isAgg84
 z72 := Tryd.sizeOf84
 v72 := Tryd.zeroValue84
 t127 := Tryd.underlying103
 a127 := Tryd.isAgg103
 z127 := Tryd.sizeOf103
 v127 := Tryd.zeroValue103 }
theorem Tryd.Builder_Extra_169 : Builder.Extra Tryd.prog Tryd.lays169_ren := {
 sizeBuilder := by kernel_rfl
 liesBuilder := by kernel_rfl
 t5 := Tryd.underlying5
 a5 := Tryd.isAgg5
 z5 := Tryd.sizeOf5
 v5 := Tryd.zeroValue5
 infoByte := by kernel_rfl
 cellsByte := by kernel_rfl
 sizeByte := by kernel_rfl
 neB5 := by decide }
open Go.RowKit in
/-- (*strings.Builder).Len: "Len returns the number of accumulated bytes; b.Len() == len(b.String()).": the world is as it was. (THE FORM '_f': 'Lib.IsBuilderF'.) (LAID: no walk: one application.) -/
theorem Tryd.Builder_Len_f (B b : Nat) (bs : List Value) (w : World) (h : Lib.IsBuilderF 84 5 B b bs w) :
  Calls Tryd.prog 31 #[.pointer (some ⟨b, 0, none⟩)] w fun e w' => e = .returned (.int .i64 bs.length) ∧ w' = w := Any.Builder_Len_f Tryd.lays170 B b bs w h
open Go.RowKit in
/-- (*strings.Builder).String: "String returns the accumulated string.": WHATEVER THE BUILDER HOLDS; THE FORM '_f': OF A BUILDER THAT MAY HAVE BEEN READ BEFORE; AND IT IS A BUILDER STILL, holding the same bytes: it can be written on. (LAID: no walk: one application.) -/
theorem Tryd.Builder_String_any_f (B b : Nat) (l : List UInt8) (w : World) (h : Lib.IsBuilderF 84 5 B b (Lib.byteCells l) w) (hBw : B ≤ w.heap.size) :
  Calls Tryd.prog 32 #[.pointer (some ⟨b, 0, none⟩)] w fun e w' => e = .returned (.string ⟨l.toArray⟩) ∧ (Lib.IsBuilderF 84 5 B b (Lib.byteCells l) w' ∧ Below B w w') := Any.Builder_String_any_f Tryd.lays169 Tryd.Builder_Extra_169 B b l w h hBw
def Tryd.laysM171_ren : Go.Shelf.Ren := ⟨fun | 171 => 44 | 243 => 65 | 246 => 70 | 283 => 71 | 284 => 72 | 285 => 73 | 286 => 74 | 129 => 76 | 317 => 75 | 318 => 77 | 319 => 78 | 320 => 79 | 337 => 80 | 338 => 81 | n => n, fun | 3 => 3 | 9 => 9 | 2 => 2 | 4 => 4 | 171 => 124 | 0 => 0 | 53 => 66 | 37 => 34 | 5 => 5 | 173 => 127 | 212 => 131 | 51 => 132 | 20 => 20 | 213 => 133 | 46 => 48 | 232 => 137 | 233 => 138 | n => n, fun | 17 => 0 | 18 => 1 | 19 => 2 | n => n⟩
theorem Tryd.laysM171 : Go.Proofs.LaysM.n171 Tryd.prog Tryd.laysM171_ren := {
 mixed := by kernel_rfl
 f129 := Tryd.func76.trans (congrArg some (by kernel_rfl))
 f171 := Tryd.func44.trans (congrArg some (by kernel_rfl))
 f243 := Tryd.func65.trans (congrArg some (by kernel_rfl))
 f246 := Tryd.func70.trans (congrArg some (by kernel_rfl))
 f283 := Tryd.func71.trans (congrArg some (by kernel_rfl))
 f284 := Tryd.func72.trans (congrArg some (by kernel_rfl))
 f285 := Tryd.func73.trans (congrArg some (by kernel_rfl))
 f286 := Tryd.func74.trans (congrArg some (by kernel_rfl))
 f317 := Tryd.func75.trans (congrArg some (by kernel_rfl))
 f318 := Tryd.func77.trans (congrArg some (by kernel_rfl))
 f319 := Tryd.func78.trans (congrArg some (by kernel_rfl))
 f320 := Tryd.func79.trans (congrArg some (by kernel_rfl))
 f337 := Tryd.func80.trans (congrArg some (by kernel_rfl))
 f338 := Tryd.func81.trans (congrArg some (by kernel_rfl))
 t0 := Tryd.underlying0
 a0 := Tryd.isAgg0
 z0 := Tryd.sizeOf0
 v0 := Tryd.zeroValue0
 t2 := Tryd.underlying2
 a2 := Tryd.isAgg2
 z2 := Tryd.sizeOf2
 v2 := Tryd.zeroValue2
 t3 := Tryd.underlying3
 a3 := Tryd.isAgg3
 z3 := Tryd.sizeOf3
 v3 := Tryd.zeroValue3
 t4 := Tryd.underlying4
 a4 := Tryd.isAgg4
 z4 := Tryd.sizeOf4
 v4 := Tryd.zeroValue4
 t5 := Tryd.underlying5
 a5 := Tryd.isAgg5
 z5 := Tryd.sizeOf5
 v5 := Tryd.zeroValue5
 t9 := Tryd.underlying9
 a9 := Tryd.isAgg9
 z9 := Tryd.sizeOf9
 v9 := Tryd.zeroValue9
 t20 := Tryd.underlying20
 a20 := Tryd.isAgg20
 z20 := Tryd.sizeOf20
 v20 := Tryd.zeroValue20
 t37 := Tryd.underlying34
 a37 := Tryd.isAgg34
 z37 := Tryd.sizeOf34
 v37 := Tryd.zeroValue34
 t46 := Tryd.underlying48
 a46 := Tryd.isAgg48
 z46 := Tryd.sizeOf48
 v46 := Tryd.zeroValue48
 t51 := Tryd.underlying132
 a51 := Tryd.isAgg132
 z51 := Tryd.sizeOf132
 v51 := Tryd.zeroValue132
 t53 := Tryd.underlying66
 a53 := Tryd.isAgg66
 z53 := Tryd.sizeOf66
 v53 := Tryd.zeroValue66
 t171 := Tryd.underlying124
 a171 := Tryd.isAgg124
 z171 := Tryd.sizeOf124
 v171 := Tryd.zeroValue124
 t173 := Tryd.underlying127
 a173 := Tryd.isAgg127
 z173 := Tryd.sizeOf127
 v173 := Tryd.zeroValue127
 t212 := Tryd.underlying131
 a212 := Tryd.isAgg131
 z212 := Tryd.sizeOf131
 v212 := Tryd.zeroValue131
 t213 := Tryd.underlying133
 a213 := Tryd.isAgg133
 z213 := Tryd.sizeOf133
 t232 := Tryd.underlying137
 a232 := Tryd.isAgg137
 z232 := Tryd.sizeOf137
 v232 := Tryd.zeroValue137
 t233 := Tryd.underlying138
 a233 := Tryd.isAgg138
 z233 := Tryd.sizeOf138
 v233 := Tryd.zeroValue138
 g17 := by kernel_rfl
 g18 := by kernel_rfl
 g19 := by kernel_rfl
 i0 := by kernel_rfl
 i2 := by kernel_rfl
 i3 := by kernel_rfl
 i4 := by kernel_rfl
 i5 := by kernel_rfl
 i9 := by kernel_rfl
 i20 := by kernel_rfl
 i37 := by kernel_rfl
 i46 := by kernel_rfl
 i51 := by kernel_rfl
 i53 := by kernel_rfl
 i171 := by kernel_rfl
 i173 := by kernel_rfl
 i212 := by kernel_rfl
 i232 := by kernel_rfl
 i233 := by kernel_rfl
 m17 := by kernel_rfl
 m18 := by kernel_rfl
 m19 := by kernel_rfl }
open Go.RowKit Go.Sort Go.Lib in
/-- strconv.Itoa: "Itoa is equivalent to FormatInt(int64(i), 10).": i's DECIMAL NUMERAL ('Lib.itoa': a '-' where i is negative, then the digits), FOR EVERY int. The world behind the call: the world before it, new blocks behind the heap (the library's 'var a [24]byte'), draws. (LAID: no walk: one application.) -/
theorem Tryd.strconv_Itoa (n : Int) (h0 : -9223372036854775808 ≤ n) (h1 : n ≤ 9223372036854775807) (w : World) (htab : Lib.TabIs Tryd.prog w "internal/strconv.uint64pow10" .u64 Lib.pow10Tab) :
  Calls Tryd.prog 44 #[.int .i64 n] w fun e w' => e = .returned (.string ⟨(Lib.itoa n).toArray⟩) ∧ ∃ k os, w' = grow (w.drewN k) os := Any.strconv_Itoa Tryd.laysM171 n h0 h1 w htab
end Go.Proofs
