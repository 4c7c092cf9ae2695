/-
  A text of this session's own.
-/
import Derived.Test.YtdeannaaafffbaaDoorKeECdx0
import Derived.Test.YtdeannaaafffbaaDoorKeXAp
import Derived.Test.YtdeannaaafffbaaDoorKeXLits
import Derived.Test.YtdeannaaafffbaaDoorKeECdx1
import Derived.Test.YtdeannaaafffbaaDoorKeECdx4
import Derived.Test.YtdeannaaafffbaaDoorKeECdx5
import Derived.Test.YtdeannaaafffbaaDoorKeECdx6
import Derived.Test.YtdeannaaafffbaaDoorKeECmx8
import Derived.Test.YtdeannaaafffbaaDoorKeX
set_option linter.unusedSimpArgs false
namespace Go.Proofs.YtdeannaaafffbaaDoor.ECd
open Go.RowKit Go.Proofs.YtdeannaaafffbaaDoorW.PrintWords Go.Proofs.YtdeannaaafffbaaDoorW.PrintLast Go.Proofs.YtdeannaaafffbaaDoorW.PrintMore
attribute [local go_sem] max2_int min2_int max_two min_two max_three min_three max_four min_four   -- for this text's walks alone
set_option linter.unusedVariables false
set_option linter.unusedSimpArgs false
open Go.Proofs.YtdeannaaafffbaaDoor.X
mutual
def abacuslaw20_CharsKeeps.j6 : Nat → List (List ByteArray) → Option (Bool)
  | 0, _ => none
  | k + 1, x3 => abacuslaw20_CharsKeeps.l3 k x3 0
def abacuslaw20_CharsKeeps.l3 : Nat → List (List ByteArray) → Int → Option (Bool)
  | 0, _, _ => none
  | k + 1, x3, x16 => if (wrap64 (x16 + 1)) < (x3.length : Int) then (if 0 ≤ x16 then (if x16 < (x3.length : Int) then (if 0 ≤ (wrap64 (x16 + 1)) then ((abacuslaw20_alike.f k (rd_L1 x3 x16) (rd_L1 x3 (wrap64 (x16 + 1)))).bind fun t217 => (if t217 = true then (abacuslaw20_CharsKeeps.l3 k x3 (wrap64 (x16 + 2))) else (some false))) else (none)) else (none)) else (none)) else ((abacuslaw20_apart.f k x3).bind fun t218 => (some t218))
def abacuslaw20_CharsKeeps.l0 : Nat → List (S29) → List (List ByteArray) → Int → Int → Option (Bool)
  | 0, _, _, _, _ => none
  | k + 1, x0, x3, x4, x5 => if x5 < (x0.length : Int) then (abacuslaw20_CharsKeeps.j1 k x0 x3 x4 x5 (decide (x5 < 8))) else (abacuslaw20_CharsKeeps.j1 k x0 x3 x4 x5 false)
def abacuslaw20_CharsKeeps.j1 : Nat → List (S29) → List (List ByteArray) → Int → Int → Bool → Option (Bool)
  | 0, _, _, _, _, _ => none
  | k + 1, x0, x3, x4, x5, x28 => if x28 = true then (if 0 ≤ x5 then (if x5 < (x0.length : Int) then (if (wrap64 (x4 + (((rd_T29 x0 x5).f0).size : Int))) > 262144 then (abacuslaw20_CharsKeeps.j2 k x0 x3 (wrap64 (x4 + (((rd_T29 x0 x5).f0).size : Int))) x5 true ((rd_T29 x0 x5).f0) ((rd_T29 x0 x5).f1) ((rd_T29 x0 x5).f2) ((rd_T29 x0 x5).f3) ((rd_T29 x0 x5).f4) ((rd_T29 x0 x5).f5) ((rd_T29 x0 x5).f6)) else (abacuslaw20_CharsKeeps.j2 k x0 x3 (wrap64 (x4 + (((rd_T29 x0 x5).f0).size : Int))) x5 (decide ((((rd_T29 x0 x5).f5).length : Int) > 1048576)) ((rd_T29 x0 x5).f0) ((rd_T29 x0 x5).f1) ((rd_T29 x0 x5).f2) ((rd_T29 x0 x5).f3) ((rd_T29 x0 x5).f4) ((rd_T29 x0 x5).f5) ((rd_T29 x0 x5).f6))) else (none)) else (none)) else (abacuslaw20_CharsKeeps.j6 k x3)
def abacuslaw20_CharsKeeps.j2 : Nat → List (S29) → List (List ByteArray) → Int → Int → Bool → ByteArray → ByteArray → ByteArray → Int → Int → List ByteArray → Int → Option (Bool)
  | 0, _, _, _, _, _, _, _, _, _, _, _, _ => none
  | k + 1, x0, x3, x4, x5, x47, x165000, x165001, x165002, x165003, x165004, x165005, x165006 => if x47 = true then (abacuslaw20_CharsKeeps.j6 k x3) else (if 0 ≤ (wrap64 ((x165005.length : Int) + 20)) then (if (wrap64 ((x165005.length : Int) + 20) : Int).toNat ≤ 17592186044416 then (abacuslaw20_CharsKeeps.l1 k x0 x3 x4 x5 (List.replicate (wrap64 ((x165005.length : Int) + 20) : Int).toNat (⟨#[]⟩ : ByteArray)) 0 x165000 x165001 x165002 x165003 x165004 x165005 x165006) else (none)) else (none))
def abacuslaw20_CharsKeeps.l1 : Nat → List (S29) → List (List ByteArray) → Int → Int → List ByteArray → Int → ByteArray → ByteArray → ByteArray → Int → Int → List ByteArray → Int → Option (Bool)
  | 0, _, _, _, _, _, _, _, _, _, _, _, _, _ => none
  | k + 1, x0, x3, x4, x5, x7, x8, x165000, x165001, x165002, x165003, x165004, x165005, x165006 => if x8 < (x7.length : Int) then (if 0 ≤ x8 then ((some (x7.set (x8 : Int).toNat (⟨#[115, 112, 97, 114, 101]⟩ : ByteArray) : List ByteArray)).bind fun y168 => (if x8 < (x165005.length : Int) then (abacuslaw20_CharsKeeps.l1 k x0 x3 x4 x5 (y168.set (x8 : Int).toNat (rdOf ByteArray.empty x165005 x8)) (wrap64 (x8 + 1)) x165000 x165001 x165002 x165003 x165004 x165005 x165006) else (abacuslaw20_CharsKeeps.l1 k x0 x3 x4 x5 y168 (wrap64 (x8 + 1)) x165000 x165001 x165002 x165003 x165004 x165005 x165006))) else (none)) else (if 0 ≤ (x165005.length : Int) then (if (x165005.length : Int) ≤ (x7.length : Int) then ((chars_Join.f k (x7.take ((x165005.length : Int) : Int).toNat) x165001).bind fun bt176 => ((chars_Cat.f k (x7.take ((x165005.length : Int) : Int).toNat)).bind fun bt183 => ((chars_Join.f k x165005 x165001).bind fun bt185 => (if bt176.1.toList = bt185.1.toList then (if bt176.2 = bt185.2 then (if bt183.2 = 0 then (if x165001.toList = ([] : List UInt8) then (abacuslaw20_CharsKeeps.j4 k x0 x3 x4 x5 x7 (bt183.1.toList != bt176.1.toList) x165000 x165001 x165002 x165003 x165004 x165005 x165006) else (abacuslaw20_CharsKeeps.j4 k x0 x3 x4 x5 x7 false x165000 x165001 x165002 x165003 x165004 x165005 x165006)) else (abacuslaw20_CharsKeeps.j4 k x0 x3 x4 x5 x7 false x165000 x165001 x165002 x165003 x165004 x165005 x165006)) else (abacuslaw20_CharsKeeps.j4 k x0 x3 x4 x5 x7 true x165000 x165001 x165002 x165003 x165004 x165005 x165006)) else (abacuslaw20_CharsKeeps.j4 k x0 x3 x4 x5 x7 true x165000 x165001 x165002 x165003 x165004 x165005 x165006))))) else (none)) else (none))
def abacuslaw20_CharsKeeps.j4 : Nat → List (S29) → List (List ByteArray) → Int → Int → List ByteArray → Bool → ByteArray → ByteArray → ByteArray → Int → Int → List ByteArray → Int → Option (Bool)
  | 0, _, _, _, _, _, _, _, _, _, _, _, _, _ => none
  | k + 1, x0, x3, x4, x5, x7, x124, x165000, x165001, x165002, x165003, x165004, x165005, x165006 => if x124 = true then (some false) else (abacuslaw20_CharsKeeps.l2 k x0 x3 x4 x5 x7 0 x165000 x165001 x165002 x165003 x165004 x165005 x165006)
def abacuslaw20_CharsKeeps.l2 : Nat → List (S29) → List (List ByteArray) → Int → Int → List ByteArray → Int → ByteArray → ByteArray → ByteArray → Int → Int → List ByteArray → Int → Option (Bool)
  | 0, _, _, _, _, _, _, _, _, _, _, _, _, _ => none
  | k + 1, x0, x3, x4, x5, x7, x15, x165000, x165001, x165002, x165003, x165004, x165005, x165006 => if x15 < (x7.length : Int) then (if x15 < (x165005.length : Int) then (if 0 ≤ x15 then (if (rdOf ByteArray.empty x7 x15).toList = (rdOf ByteArray.empty x165005 x15).toList then (if x15 ≥ (x165005.length : Int) then (if (rdOf ByteArray.empty x7 x15).toList = ([115, 112, 97, 114, 101] : List UInt8) then (abacuslaw20_CharsKeeps.l2 k x0 x3 x4 x5 x7 (wrap64 (x15 + 1)) x165000 x165001 x165002 x165003 x165004 x165005 x165006) else (some false)) else (abacuslaw20_CharsKeeps.l2 k x0 x3 x4 x5 x7 (wrap64 (x15 + 1)) x165000 x165001 x165002 x165003 x165004 x165005 x165006)) else (some false)) else (none)) else (if x15 ≥ (x165005.length : Int) then (if 0 ≤ x15 then (if (rdOf ByteArray.empty x7 x15).toList = ([115, 112, 97, 114, 101] : List UInt8) then (abacuslaw20_CharsKeeps.l2 k x0 x3 x4 x5 x7 (wrap64 (x15 + 1)) x165000 x165001 x165002 x165003 x165004 x165005 x165006) else (some false)) else (none)) else (abacuslaw20_CharsKeeps.l2 k x0 x3 x4 x5 x7 (wrap64 (x15 + 1)) x165000 x165001 x165002 x165003 x165004 x165005 x165006))) else ((chars_Split.f k x165000 x165001).bind fun t191 => ((chars_Split.f k x165000 x165001).bind fun t194 => ((chars_Split.f k x165000 (⟨#[32]⟩ : ByteArray)).bind fun t197 => ((chars_Split.f k x165000 (⟨#[32]⟩ : ByteArray)).bind fun t200 => ((chars_Split.f k x165000 (⟨#[]⟩ : ByteArray)).bind fun t203 => ((chars_Split.f k x165000 (⟨#[]⟩ : ByteArray)).bind fun t206 => ((some (([t191, t194, t197, t200, t203, t206] : List (List ByteArray)) : List (List ByteArray))).bind fun y209 => (if x3.length + y209.length < 5864062014805 then (abacuslaw20_CharsKeeps.l0 k x0 (x3 ++ y209) x4 (wrap64 (x5 + 1))) else (none)))))))))
end
def abacuslaw20_CharsKeeps.f (k : Nat) (l0 : List (S29)) : Option (Bool) := (chars_Split.f k (⟨#[97, 44, 98]⟩ : ByteArray) (⟨#[44]⟩ : ByteArray)).bind fun t156 => ((abacuslaw20_alike.f k t156 (([(⟨#[97]⟩ : ByteArray), (⟨#[98]⟩ : ByteArray)] : List ByteArray))).bind fun t162 => (if t162 = true then (abacuslaw20_CharsKeeps.l0 k l0 ([] : List (List ByteArray)) 0 0) else (some false)))
def abacuslaw20_CharsKeeps.T18 : Bool × List (List Nat × List Nat) := (true, [([], []), ([], []), ([1], [1]), ([2], [2]), ([0, 3], [0, 3]), ([], []), ([5], [5]), ([4, 6], [4, 6]), ([7], [7]), ([8], [8]), ([8], [8]), ([9, 7, 0, 1, 2, 3, 4, 5, 6, 7, 8, 9], [9]), ([10, 11, 0, 1, 2, 3, 4, 5, 6, 7, 8, 9, 10, 11], [10])])
def abacuslaw20_CharsKeeps.B18 : List Nat := [0, 0, 2, 6, 15, 0, 32, 127, 255, 511, 511, 1023, 4095]
theorem abacuslaw20_CharsKeeps.tab18 : rtab .any (opsOf Tryd.f4 18) = abacuslaw20_CharsKeeps.T18 := by kernel_rfl
theorem abacuslaw20_CharsKeeps.bits18 : waitsOk abacuslaw20_CharsKeeps.T18.2 abacuslaw20_CharsKeeps.B18 = true := by kernel_rfl
def abacuslaw20_CharsKeeps.T26 : Bool × List (List Nat × List Nat) := (true, [([], []), ([], []), ([1], [1]), ([2], [2]), ([0, 3], [0, 3]), ([4], [4]), ([5], [5]), ([5], [5]), ([6, 7, 5], [5, 6, 7]), ([8, 5], [5, 8]), ([5], [5]), ([10, 5], [5, 10]), ([5], [5]), ([11, 12, 5], [5, 11, 12]), ([13, 5], [5, 13]), ([9, 14, 5], [5, 9, 14]), ([5, 15], [5, 15]), ([16, 5], [16]), ([17], [17]), ([17], [17]), ([19, 17], [17, 19]), ([20, 17], [17, 20]), ([18, 21, 17], [17, 18, 21]), ([22, 17, 17], [17, 22]), ([23], [23]), ([23], [23]), ([24, 25, 23], [23, 24, 25]), ([26, 23], [23, 26]), ([27, 23], [23, 27]), ([23, 28, 17], [17, 23, 28]), ([17, 29], [17, 29])])
def abacuslaw20_CharsKeeps.B26 : List Nat := [0, 0, 2, 6, 15, 31, 63, 63, 255, 511, 63, 1087, 63, 7231, 15423, 32767, 65535, 131071, 262143, 262143, 786431, 1835007, 4194303, 8388607, 16777215, 16777215, 67108863, 134217727, 268435455, 536870911, 1073741823]
theorem abacuslaw20_CharsKeeps.tab26 : rtab .any (opsOf Tryd.f4 26) = abacuslaw20_CharsKeeps.T26 := by kernel_rfl
theorem abacuslaw20_CharsKeeps.bits26 : waitsOk abacuslaw20_CharsKeeps.T26.2 abacuslaw20_CharsKeeps.B26 = true := by kernel_rfl
def abacuslaw20_CharsKeeps.T28 : Bool × List (List Nat × List Nat) := (true, [([], []), ([], []), ([1], [1]), ([], []), ([3], [3]), ([2, 4], [2, 4]), ([], []), ([6], [6]), ([], []), ([8], [8]), ([7, 9, 5], [7, 9]), ([], []), ([11], [11]), ([12, 10], [12]), ([], []), ([14], [14]), ([15, 13], [15]), ([], []), ([17], [17]), ([18, 16], [18]), ([], []), ([20], [20]), ([21, 19], [21]), ([5, 10, 13, 16, 19, 22], [5, 10, 13, 16, 19, 22]), ([0, 23, 22], [0, 23]), ([24, 24, 0, 1, 2, 3, 4, 5, 6, 7, 8, 9, 10, 11, 12, 13, 14, 15, 16, 17, 18, 19, 20, 21, 22, 23, 24], [0, 24])])
def abacuslaw20_CharsKeeps.B28 : List Nat := [0, 0, 2, 0, 8, 30, 0, 64, 0, 256, 1022, 0, 2048, 8190, 0, 16384, 65534, 0, 131072, 524286, 0, 1048576, 4194302, 8388606, 16777215, 33554431]
theorem abacuslaw20_CharsKeeps.tab28 : rtab .any (opsOf Tryd.f4 28) = abacuslaw20_CharsKeeps.T28 := by kernel_rfl
theorem abacuslaw20_CharsKeeps.bits28 : waitsOk abacuslaw20_CharsKeeps.T28.2 abacuslaw20_CharsKeeps.B28 = true := by kernel_rfl
def abacuslaw20_CharsKeeps.T32 : Bool × List (List Nat × List Nat) := (true, [([], []), ([], []), ([0, 1], [0, 1]), ([2], [2]), ([], []), ([], []), ([5], [5]), ([4, 6], [4, 6]), ([7], [7]), ([3, 8], [3, 8]), ([9], [9])])
def abacuslaw20_CharsKeeps.B32 : List Nat := [0, 0, 3, 7, 0, 0, 32, 112, 240, 511, 1023]
theorem abacuslaw20_CharsKeeps.tab32 : rtab .any (opsOf Tryd.f4 32) = abacuslaw20_CharsKeeps.T32 := by kernel_rfl
theorem abacuslaw20_CharsKeeps.bits32 : waitsOk abacuslaw20_CharsKeeps.T32.2 abacuslaw20_CharsKeeps.B32 = true := by kernel_rfl
end Go.Proofs.YtdeannaaafffbaaDoor.ECd
