/-
  Plain laws of the code statements: a line of the listing and List, told as plain functions. Conditions: numbers are int64 and uint64, places below 2^40.
-/
import Derived.Test.YtdkejcadoepnnaaDoorTuPc
import Derived.Test.YtdkejcadoepnnaaDoorTuECcx15
import Derived.Lib.ItoaLen
import Derived.Laws.BitsLemmas
set_option linter.unusedVariables false
set_option linter.unusedSimpArgs false
namespace Go.Proofs.YtdkejcadoepnnaaDoor.Pl
open Go.RowKit Go.Proofs.YtdkejcadoepnnaaDoorW.PrintWords Go.Proofs.YtdkejcadoepnnaaDoor.ECc Go.Proofs.YtdkejcadoepnnaaDoor.X
theorem bytes_app (a b : ByteArray) : bytesOf (a ++ b) = bytesOf a ++ bytesOf b := by
  unfold bytesOf
  rw [ByteArray.data_append, Array.toList_append, List.map_append]
theorem u64_and15 {x : Int} (h₀ : 0 ≤ x) (h₁ : x < 2 ^ 64) : Go.bits .and .u64 x 15 = x % 16 := Go.bits_mask .u64 64 (by decide) (fun n h0 h1 => by simp [IntKind.wrap, IntKind.bits, IntKind.signed]; omega) 4 (by decide) x h₀ h₁
theorem shr64 {x : Int} {m : Nat} (hm : m ≤ 64) : shr .u64 x (m : Int) = x / 2 ^ m := by
  unfold shr
  rw [Int.toNat_natCast]
  congr 2
  show min m 64 = m
  omega
theorem div_range {x : Int} (m : Nat) (h0 : 0 ≤ x) (h1 : x < 2 ^ 64) : 0 ≤ x / 2 ^ m ∧ x / 2 ^ m < 2 ^ 64 := by
  have hp : (0 : Int) < 2 ^ m := Int.pow_pos (by decide)
  refine ⟨Int.ediv_nonneg h0 (Int.le_of_lt hp), ?_⟩
  exact Int.lt_of_le_of_lt (Int.ediv_le_self _ h0) h1
def hexL : Nat → Int → List Int
  | 0, _ => []
  | m + 1, x => bt hexT (x / 2 ^ (4 * m) % 16) :: hexL m x
theorem hexL_len : ∀ (m : Nat) (x : Int), (hexL m x).length = m
  | 0, _ => rfl
  | m + 1, x => by rw [hexL, List.length_cons, hexL_len m]
theorem line_l0 (ops : List S41) (nums : List Int) (strs : List ByteArray) (f0 f1 f2 : Int) (h0 : 0 ≤ f1) (h1 : f1 < (nums.length : Int)) (hu : 0 ≤ rd nums f1 ∧ rd nums f1 < 2 ^ 64) : ∀ (m k : Nat) (out : List Int), m ≤ 16 → out.length + m < 140737488355327 →
    code_line.l0 (k + 1 + m) (4 * (m : Int) - 4) out ops nums strs f0 f1 f2 = some (out ++ hexL m (rd nums f1) ++ [10])
  | 0, k, out, hm, hl => by
    rw [show k + 1 + 0 = k + 1 from rfl, code_line.l0, if_neg (by omega), if_pos (by omega), hexL, List.append_nil]
  | m + 1, k, out, hm, hl => by
    have e1 : (4 * ((m + 1 : Nat) : Int) - 4) = ((4 * m : Nat) : Int) := by omega
    obtain ⟨d0, d1⟩ := div_range (4 * m) hu.1 hu.2
    have ea : Go.bits .and .u64 (shr .u64 (rd nums f1) ((4 * m : Nat) : Int)) 15 = rd nums f1 / 2 ^ (4 * m) % 16 := by rw [shr64 (by omega), u64_and15 d0 d1]
    have ih := line_l0 ops nums strs f0 f1 f2 h0 h1 hu m k (out ++ [bt hexT (rd nums f1 / 2 ^ (4 * m) % 16)]) (by omega) (by rw [List.length_append, List.length_singleton]; omega)
    rw [show k + 1 + (m + 1) = (k + 1 + m) + 1 by omega, code_line.l0, e1, if_pos (by omega), if_pos h0, if_pos h1, if_pos (by omega), ea, if_pos (by omega), if_pos (by omega), if_pos (by omega), wrap_id (by omega) (by omega), show ((4 * m : Nat) : Int) - 4 = 4 * (m : Int) - 4 by omega]
    rw [hexL]
    refine Eq.trans ?_ (ih.trans ?_)
    · rfl
    · simp
def itL (n : Int) : List Int := (Lib.itoa n).map fun b => (b.toNat : Int)
theorem it_some {n : Int} (h0 : -9223372036854775808 ≤ n) (h1 : n ≤ 9223372036854775807) : xItoa.f n = some ⟨(Lib.itoa n).toArray⟩ := if_pos ⟨h0, h1⟩
theorem it_bytes (n : Int) : bytesOf ⟨(Lib.itoa n).toArray⟩ = itL n := rfl
theorem it_size (n : Int) : (ByteArray.mk (Lib.itoa n).toArray).size = (itL n).length := by
  unfold itL
  rw [List.length_map]
  rfl
theorem itL_len {n : Int} (h0 : -9223372036854775808 ≤ n) (h1 : n ≤ 9223372036854775807) : (itL n).length ≤ 21 := by
  unfold itL
  rw [List.length_map]
  exact Lib.itoa_length_le n h0 h1
theorem app_size (a b : ByteArray) : (a ++ b).size = a.size + b.size := by rw [← bytesOf_len, bytes_app, List.length_append, bytesOf_len, bytesOf_len]
theorem qP_len (c : Int) : (qP c).length ≤ 4 := by
  unfold qP
  split <;> simp
theorem qL_len (s : ByteArray) : ∀ (m i : Nat), (qL s i m).length ≤ 4 * m
  | 0, i => by simp [qL]
  | m + 1, i => by
    rw [qL, List.length_append]
    have := qP_len (bt s (i : Int))
    have := qL_len s m (i + 1)
    omega
theorem qT_len (s : ByteArray) : (qT s).length ≤ 4 * s.size + 2 := by
  unfold qT
  rw [List.length_append, List.length_append, List.length_singleton]
  have := qL_len s s.size 0
  simp
  omega
def nmL (w : Int) : List Int := bytesOf (rowL w).f0
def chkName (p : S72) : Bool := decide (p.f0.size ≤ 9) && (bytesOf p.f0).all (fun b => decide (97 ≤ b) && decide (b ≤ 122))
set_option maxRecDepth 100000 in
theorem chk_names : tabL.all chkName = true := by kernel_rfl
theorem name_at (w : Int) : (nmL w).length ≤ 9 ∧ ∀ b ∈ nmL w, 97 ≤ b ∧ b ≤ 122 := by
  have h : chkName (rowL w) = true := by
    unfold rowL rd_T72
    rw [List.getD_eq_getElem?_getD]
    cases e : tabL[w.toNat]? with
    | none => decide
    | some p => exact List.all_eq_true.mp chk_names p (List.mem_of_getElem? e)
  unfold chkName at h
  simp only [Bool.and_eq_true, decide_eq_true_eq, List.all_eq_true] at h
  refine ⟨?_, h.2⟩
  unfold nmL
  rw [bytesOf_len]
  exact h.1
def argL (kind v : Int) : List Int := if kind = 0 then [] else 32 :: itL v
def tailL (x : S41) (nums : List Int) (strs : List ByteArray) : List Int := if x.f0 = 1 then 32 :: hexL 16 (rd nums x.f1) else if x.f0 = 2 then 32 :: qT (rdOf ByteArray.empty strs x.f1) else []
/-- The line of instruction x at place i. -/
def lineV (i : Int) (x : S41) (nums : List Int) (strs : List ByteArray) : List Int :=
  itL i ++ ([58, 32] ++ (nmL x.f0 ++ (argL (rowL x.f0).f1 x.f1 ++ (argL (rowL x.f0).f2 x.f2 ++ (tailL x nums strs ++ [10])))))
def U64 (nums : List Int) : Prop := ∀ x ∈ nums, 0 ≤ x ∧ x < 2 ^ 64
theorem rd_mem {nums : List Int} {i : Int} (h0 : 0 ≤ i) (h1 : i < nums.length) : rd nums i ∈ nums := by
  unfold rd
  rw [List.getD_eq_getElem?_getD, List.getElem?_eq_getElem (by omega)]
  exact List.getElem_mem _
theorem line_j1 (k : Nat) (ops : List S41) (nums : List Int) (strs : List ByteArray) (x : S41) (out : List Int) (i : Int) (hr : rgI x i ops.length nums.length strs.length = true) (hu : U64 nums) (hs : x.f0 = 2 → (rdOf ByteArray.empty strs x.f1).size ≤ 16777216) (hl : out.length ≤ 100000000) :
    code_line.j1 (k + 18) out ops nums strs x.f0 x.f1 x.f2 (rowL x.f0).f0 (rowL x.f0).f1 (rowL x.f0).f2 (rowL x.f0).f3 (rowL x.f0).f4 = some (out ++ (tailL x nums strs ++ [10])) := by
  have ok := (jump_in hr).1
  have hw := ok_word ok
  obtain ⟨⟨ha, hb, -⟩, -, -⟩ := row_at x.f0 (by omega) (by omega)
  unfold rgI at hr
  simp only [Bool.and_eq_true] at hr
  have hr2 := hr.2
  unfold tailL
  rw [code_line.j1]
  by_cases c1 : x.f0 = 1
  · rw [if_pos (ha.mpr c1), if_pos c1, if_pos (by omega)]
    rw [if_pos c1] at hr2
    have hr2 := of_decide_eq_true hr2
    have h0 := num_pos ok (.inl c1)
    have := line_l0 ops nums strs x.f0 x.f1 x.f2 h0 hr2 (hu _ (rd_mem h0 hr2)) 16 k (out ++ [32]) (by omega) (by rw [List.length_append, List.length_singleton]; omega)
    rw [show k + 17 = k + 1 + 16 from rfl]
    refine this.trans ?_
    simp
  · rw [if_neg (fun h => c1 (ha.mp h)), if_neg c1]
    rw [if_neg c1] at hr2
    by_cases c2 : x.f0 = 2
    · rw [if_pos (hb.mpr c2), if_pos c2, if_pos (by omega), Option.bind_some]
      rw [if_pos c2] at hr2
      have hr2 := of_decide_eq_true hr2
      have h0 := num_pos ok (.inr c2)
      have hs := hs c2
      have hq := qT_len (rdOf ByteArray.empty strs x.f1)
      have hx : xQuoted.f (rdOf ByteArray.empty strs x.f1) = some (strOfNums (qT (rdOf ByteArray.empty strs x.f1))) := if_pos (by omega)
      rw [if_pos h0, if_pos hr2, hx, Option.bind_some, son_size, List.length_append, List.length_singleton, if_pos (by omega), Option.bind_some, numsBytes _ (qT_range _), List.length_append, List.length_append, List.length_singleton, if_pos (by omega)]
      simp
    · rw [if_neg (fun h => c2 (hb.mp h)), if_neg c2, if_pos (by omega)]
      rfl
theorem line_j0 (k : Nat) (ops : List S41) (nums : List Int) (strs : List ByteArray) (x : S41) (out : List Int) (i : Int) (hr : rgI x i ops.length nums.length strs.length = true) (hu : U64 nums) (hs : x.f0 = 2 → (rdOf ByteArray.empty strs x.f1).size ≤ 16777216) (hl : out.length ≤ 50000000) (hi : -9223372036854775808 ≤ x.f2 ∧ x.f2 ≤ 9223372036854775807) :
    code_line.j0 (k + 19) out ops nums strs x.f0 x.f1 x.f2 (rowL x.f0).f0 (rowL x.f0).f1 (rowL x.f0).f2 (rowL x.f0).f3 (rowL x.f0).f4 = some (out ++ (argL (rowL x.f0).f2 x.f2 ++ (tailL x nums strs ++ [10]))) := by
  rw [code_line.j0]
  unfold argL
  by_cases c : (rowL x.f0).f2 = 0
  · rw [if_pos c, if_pos c, line_j1 k ops nums strs x out i hr hu hs (by omega)]
    rfl
  · have hlen := itL_len hi.1 hi.2
    have e1 : (⟨#[32]⟩ : ByteArray).size = 1 := rfl
    rw [if_neg c, if_neg c, it_some hi.1 hi.2, Option.bind_some, it_size, if_pos (by omega), app_size, it_size, e1, if_pos (by omega), bytes_app, it_bytes, line_j1 k ops nums strs x _ i hr hu hs (by rw [List.length_append, List.length_append]; show _ + (1 + _) ≤ _; omega)]
    simp [bytesOf]
theorem line_eq (k : Nat) (ops : List S41) (nums : List Int) (strs : List ByteArray) (out : List Int) (i : Int) (h0 : 0 ≤ i) (h1 : i < (ops.length : Int)) (h2 : (ops.length : Int) < 9223372036854775807) (hr : rgI (rd_T41 ops i) i ops.length nums.length strs.length = true) (hu : U64 nums) (hs : (rd_T41 ops i).f0 = 2 → (rdOf ByteArray.empty strs (rd_T41 ops i).f1).size ≤ 16777216) (hl : out.length ≤ 20000000)
    (hi1 : -9223372036854775808 ≤ (rd_T41 ops i).f1 ∧ (rd_T41 ops i).f1 ≤ 9223372036854775807) (hi2 : -9223372036854775808 ≤ (rd_T41 ops i).f2 ∧ (rd_T41 ops i).f2 ≤ 9223372036854775807) :
    code_line.f (k + 19) out tabL ops nums strs i = some (out ++ lineV i (rd_T41 ops i) nums strs) := by
  revert hr hs hi1 hi2
  unfold code_line.f
  generalize rd_T41 ops i = x
  intro hr hs hi1 hi2
  have ok := (jump_in hr).1
  have hw := ok_word ok
  have hlen := itL_len (n := i) (by omega) (by omega)
  have hlen1 := itL_len hi1.1 hi1.2
  obtain ⟨hn, -⟩ := name_at x.f0
  have hn' : (rowL x.f0).f0.size ≤ 9 := by
    unfold nmL at hn
    rw [bytesOf_len] at hn
    exact hn
  have e2 : (⟨#[58, 32]⟩ : ByteArray).size = 2 := rfl
  have e1 : (⟨#[32]⟩ : ByteArray).size = 1 := rfl
  have b2 : bytesOf (⟨#[58, 32]⟩ : ByteArray) = [58, 32] := rfl
  have b1 : bytesOf (⟨#[32]⟩ : ByteArray) = [32] := rfl
  have er : rd_T72 tabL x.f0 = rowL x.f0 := rfl
  have hsz : ((ByteArray.mk (Lib.itoa i).toArray ++ (⟨#[58, 32]⟩ : ByteArray)) ++ (rowL x.f0).f0).size = (itL i).length + 2 + (rowL x.f0).f0.size := by rw [app_size, app_size, it_size, e2]
  rw [if_pos h0, if_pos h1, if_pos (by omega), if_pos (by rw [tabL_len]; omega), it_some (by omega) (by omega), Option.bind_some, it_size, if_pos (by omega), app_size, it_size, e2, er, if_pos (by omega), hsz, if_pos (by omega), Option.bind_some, bytes_app, bytes_app, it_bytes, b2]
  have hnm : bytesOf (rowL x.f0).f0 = nmL x.f0 := rfl
  rw [hnm]
  by_cases c : (rowL x.f0).f1 = 0
  · have ea : argL (rowL x.f0).f1 x.f1 = [] := by unfold argL; rw [if_pos c]
    unfold lineV
    rw [ea, if_pos c, line_j0 k ops nums strs x _ i hr hu hs (by simp only [List.length_append, List.length_cons, List.length_nil]; omega) hi2]
    simp only [List.append_assoc, List.nil_append]
  · have ea : argL (rowL x.f0).f1 x.f1 = 32 :: itL x.f1 := by unfold argL; rw [if_neg c]
    unfold lineV
    rw [ea, if_neg c, it_some hi1.1 hi1.2, Option.bind_some, it_size, if_pos (by omega), app_size, it_size, e1, if_pos (by simp only [List.length_append, List.length_cons, List.length_nil]; omega), bytes_app, it_bytes, b1, line_j0 k ops nums strs x _ i hr hu hs (by simp only [List.length_append, List.length_cons, List.length_nil]; omega) hi2]
    simp only [List.append_assoc, List.cons_append, List.nil_append]
theorem xLine_eq (ops : List S41) (nums : List Int) (strs : List ByteArray) (i : Int) (h0 : 0 ≤ i) (h1 : i < (ops.length : Int)) (h2 : (ops.length : Int) < 9223372036854775807) (hr : rgI (rd_T41 ops i) i ops.length nums.length strs.length = true) (hu : U64 nums) (hs : (rd_T41 ops i).f0 = 2 → (rdOf ByteArray.empty strs (rd_T41 ops i).f1).size ≤ 16777216)
    (hi1 : -9223372036854775808 ≤ (rd_T41 ops i).f1 ∧ (rd_T41 ops i).f1 ≤ 9223372036854775807) (hi2 : -9223372036854775808 ≤ (rd_T41 ops i).f2 ∧ (rd_T41 ops i).f2 ≤ 9223372036854775807) :
    xLine.f tabL ops nums strs i = some (strOfNums (lineV i (rd_T41 ops i) nums strs)) := by
  unfold xLine.f
  rw [show (40 : Nat) = 21 + 19 from rfl, line_eq 21 ops nums strs [] i h0 h1 h2 hr hu hs (by simp) hi1 hi2]
  rfl
end Go.Proofs.YtdkejcadoepnnaaDoor.Pl
