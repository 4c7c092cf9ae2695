/-
  Plain laws of the code statements: List told as a plain function; the constant code that each statement looks at first (awake). Conditions: numbers are int64 and uint64.
-/
import Derived.Test.YtdkejcadoepnnaaDoorTuPd
import Derived.Test.YtdkejcadoepnnaaDoorTuECcx16
set_option linter.unusedVariables false
set_option linter.unusedSimpArgs false
namespace Go.Proofs.YtdkejcadoepnnaaDoor.Pl
open Go.RowKit Go.Proofs.YtdkejcadoepnnaaDoorW.PrintWords Go.Proofs.YtdkejcadoepnnaaDoor.ECc Go.Proofs.YtdkejcadoepnnaaDoor.X
/-- The instruction's numbers are int64. -/
def J64 (x : S41) : Prop := (-9223372036854775808 ≤ x.f1 ∧ x.f1 ≤ 9223372036854775807) ∧ (-9223372036854775808 ≤ x.f2 ∧ x.f2 ≤ 9223372036854775807)
theorem J64.i {x : S41} (h : J64 x) : I64 x := ⟨h.1.2, h.2.2⟩
/-- The lines from place i on, behind out; none: too long. -/
def listR (nums : List Int) (strs : List ByteArray) : List S41 → Int → List Int → Option (List Int)
  | [], _, out => some out
  | x :: r, i, out => if x.f0 = 2 ∧ (rdOf ByteArray.empty strs x.f1).size > 16777216 then none
    else if (out ++ lineV i x nums strs).length > 16777216 then none else listR nums strs r (i + 1) (out ++ lineV i x nums strs)
theorem lineV_range (i : Int) (x : S41) (nums : List Int) (strs : List ByteArray) : ∀ d ∈ lineV i x nums strs, 0 ≤ d ∧ d < 256 := by
  have hit : ∀ n : Int, ∀ d ∈ itL n, 0 ≤ d ∧ d < 256 := by
    intro n d hd
    unfold itL at hd
    obtain ⟨b, -, rfl⟩ := List.mem_map.1 hd
    have := b.toNat_lt
    omega
  have harg : ∀ k n : Int, ∀ d ∈ argL k n, 0 ≤ d ∧ d < 256 := by
    intro k n d hd
    unfold argL at hd
    split at hd
    · simp at hd
    · rcases List.mem_cons.1 hd with rfl | hd
      · omega
      · exact hit n d hd
  have hhex : ∀ (m : Nat) (v : Int), ∀ d ∈ hexL m v, 0 ≤ d ∧ d < 256 := by
    intro m
    induction m with
    | zero => intro v d hd; simp [hexL] at hd
    | succ m ih =>
      intro v d hd
      rw [hexL] at hd
      rcases List.mem_cons.1 hd with rfl | hd
      · have := bt_range hexT (v / 2 ^ (4 * m) % 16)
        omega
      · exact ih v d hd
  have htail : ∀ d ∈ tailL x nums strs, 0 ≤ d ∧ d < 256 := by
    intro d hd
    unfold tailL at hd
    split at hd
    · rcases List.mem_cons.1 hd with rfl | hd
      · omega
      · exact hhex _ _ d hd
    · split at hd
      · rcases List.mem_cons.1 hd with rfl | hd
        · omega
        · exact qT_range _ d hd
      · simp at hd
  intro d hd
  unfold lineV at hd
  simp only [List.mem_append, List.mem_cons, List.not_mem_nil, or_false] at hd
  rcases hd with hd | (rfl | rfl) | hd | hd | hd | hd | rfl
  · exact hit _ d hd
  · omega
  · omega
  · have := (name_at x.f0).2 d hd
    omega
  · exact harg _ _ d hd
  · exact harg _ _ d hd
  · exact htail d hd
  · omega
theorem argL_len (k : Int) {n : Int} (h0 : -9223372036854775808 ≤ n) (h1 : n ≤ 9223372036854775807) : (argL k n).length ≤ 22 := by
  unfold argL
  split
  · simp
  · have := itL_len h0 h1
    rw [List.length_cons]
    omega
theorem lineV_len (i : Int) (x : S41) (nums : List Int) (strs : List ByteArray) (h0 : -9223372036854775808 ≤ i) (h1 : i ≤ 9223372036854775807) (hj : J64 x) (hs : x.f0 = 2 → (rdOf ByteArray.empty strs x.f1).size ≤ 16777216) : (lineV i x nums strs).length ≤ 100000000 := by
  have a0 := itL_len h0 h1
  have a1 := argL_len (rowL x.f0).f1 hj.1.1 hj.1.2
  have a2 := argL_len (rowL x.f0).f2 hj.2.1 hj.2.2
  have a3 := (name_at x.f0).1
  have a4 : (tailL x nums strs).length ≤ 70000000 := by
    unfold tailL
    split
    · rw [List.length_cons, hexL_len]; omega
    · split
      · rename_i c
        have := hs c
        have := qT_len (rdOf ByteArray.empty strs x.f1)
        rw [List.length_cons]; omega
      · simp
  unfold lineV
  simp only [List.length_append, List.length_cons, List.length_nil]
  omega
def outL (o : Option (List Int)) : ByteArray × Int := match o with
  | some l => (strOfNums l, 0)
  | none => (⟨#[]⟩, 3)
theorem listR_ans (ops : List S41) (nums : List Int) (strs : List ByteArray) (hn : ops.length ≤ 131072) (hu : U64 nums) (hj : ∀ x ∈ ops, J64 x) : ∀ (r pre : List S41) (out : List Int), ops = pre ++ r → Rt ops.length nums.length strs.length r pre.length → out.length ≤ 16777216 →
    Ans (fun k => code_List.l0 k (ops.length : Int) (pre.length : Int) out ops nums strs) (outL (listR nums strs r pre.length out))
  | [], pre, out, e, hr, hl => by
    refine Ans.succ (Ans.of fun k => ?_)
    have hp : pre.length = ops.length := by rw [e]; simp
    rw [code_List.l0, if_neg (by omega)]
    rfl
  | x :: r, pre, out, e, hr, hl => by
    have hp : pre.length + 1 + r.length = ops.length := by rw [e]; simp; omega
    have hx : rd_T41 ops (pre.length : Int) = x := by rw [e]; exact rd41_at
    have hjx := hj x (by rw [e]; simp)
    have ok := (jump_in hr.1).1
    have key : ∀ k, code_List.l0 (k + 1) (ops.length : Int) (pre.length : Int) out ops nums strs = code_List.j1 k tabL (pre.length : Int) (ops.length : Int) (pre.length : Int) (decide (x.f0 = 2 ∧ (rdOf ByteArray.empty strs x.f1).size > 16777216)) out ops nums strs := by
      intro k
      rw [code_List.l0, if_pos (by omega), if_pos (by omega), if_pos (by omega), hx]
      by_cases c : x.f0 = 2
      · have hr1 := hr.1
        unfold rgI at hr1
        simp only [Bool.and_eq_true] at hr1
        have hr2 := hr1.2
        rw [if_neg (by omega), if_pos c] at hr2
        have hr2 := of_decide_eq_true hr2
        rw [if_pos c, if_pos (num_pos ok (.inr c)), if_pos hr2]
        congr 1
        by_cases d : (rdOf ByteArray.empty strs x.f1).size > 16777216
        · rw [decide_eq_true (by omega), decide_eq_true ⟨c, d⟩]
        · rw [decide_eq_false (by omega), decide_eq_false (fun h => d h.2)]
      · rw [if_neg c, decide_eq_false (fun h => c h.1)]
    refine Ans.succ (Ans.congr ?_ key)
    refine Ans.succ ?_
    unfold listR
    by_cases c : x.f0 = 2 ∧ (rdOf ByteArray.empty strs x.f1).size > 16777216
    · rw [if_pos c]
      refine Ans.of fun k => ?_
      rw [code_List.j1, decide_eq_true c, if_pos rfl]
      rfl
    · rw [if_neg c]
      have hs : x.f0 = 2 → (rdOf ByteArray.empty strs x.f1).size ≤ 16777216 := fun h2 => by
        apply Nat.le_of_not_lt
        exact fun h => c ⟨h2, h⟩
      have hsz : xLine.f tabL ops nums strs (pre.length : Int) = some (strOfNums (lineV pre.length x nums strs)) ∧ (lineV pre.length x nums strs).length ≤ 100000000 := by
        have hx' : x = rd_T41 ops (pre.length : Int) := hx.symm
        refine ⟨?_, lineV_len _ _ _ _ (by omega) (by omega) hjx hs⟩
        have := xLine_eq ops nums strs (pre.length : Int) (by omega) (by omega) (by omega) (by rw [hx]; exact hr.1) hu (by rw [hx]; exact hs) (by rw [hx]; exact hjx.1) (by rw [hx]; exact hjx.2)
        rw [hx] at this
        exact this
      have hb : bytesOf (strOfNums (lineV pre.length x nums strs)) = lineV pre.length x nums strs := numsBytes _ (lineV_range _ _ _ _)
      have key2 : ∀ k, code_List.j1 (k + 1) tabL (pre.length : Int) (ops.length : Int) (pre.length : Int) (decide (x.f0 = 2 ∧ (rdOf ByteArray.empty strs x.f1).size > 16777216)) out ops nums strs = if (out ++ lineV pre.length x nums strs).length > 16777216 then some (⟨#[]⟩, 3) else code_List.l0 k (ops.length : Int) ((pre ++ [x]).length : Int) (out ++ lineV pre.length x nums strs) ops nums strs := by
        intro k
        rw [code_List.j1, decide_eq_false c, if_neg (by decide), hsz.1, Option.bind_some, son_size, if_pos (by omega), Option.bind_some, hb, wrap_id (by omega) (by omega), show ((pre ++ [x]).length : Int) = (pre.length : Int) + 1 by rw [List.length_append]; rfl]
        by_cases d : (out ++ lineV pre.length x nums strs).length > 16777216
        · rw [if_pos d, if_pos (by omega)]
        · rw [if_neg d, if_neg (by omega)]
      refine Ans.congr ?_ key2
      by_cases d : (out ++ lineV pre.length x nums strs).length > 16777216
      · rw [if_pos d]
        exact Ans.of fun k => if_pos d
      · rw [if_neg d]
        have ih := listR_ans ops nums strs hn hu hj r (pre ++ [x]) (out ++ lineV pre.length x nums strs) (by rw [e]; simp) (by rw [List.length_append]; exact hr.2) (by omega)
        rw [List.length_append] at ih
        refine Ans.congr ih fun k => ?_
        rw [if_neg d, List.length_append]
def listV (ops : List S41) (nums : List Int) (strs : List ByteArray) : ByteArray × Int :=
  if (checkV ops nums.length strs.length).2.2 = 0 then outL (listR nums strs ops 0 []) else (⟨#[]⟩, (checkV ops nums.length strs.length).2.2)
theorem list_ans (ops : List S41) (nums : List Int) (strs : List ByteArray) (hu : U64 nums) (hj : ∀ x ∈ ops, J64 x) : Ans (fun k => code_List.f k ops nums strs) (listV ops nums strs) := by
  unfold code_List.f listV
  refine Ans.bind (check_ans ops nums strs) ?_
  by_cases c : (checkV ops nums.length strs.length).2.2 = 0
  · rw [if_pos c]
    obtain ⟨hn, hr, -⟩ := hv_ok c
    exact Ans.congr (listR_ans ops nums strs hn hu hj ops [] [] rfl hr (by simp)) fun k => if_pos c
  · rw [if_neg c]
    exact Ans.of fun k => if_neg c
def aOps : List S41 := [⟨3, 9, 0⟩, ⟨1, 0, 0⟩, ⟨24, 1, 0⟩]
set_option maxRecDepth 100000 in
theorem a_check : checkV aOps 1 0 = (2, 0, 0) := by kernel_rfl
theorem dg1 (x : Int) (h0 : 0 ≤ x) (h1 : x < 128) : dgL x = [x] := by
  rw [dgL_small (by omega)]
  congr 1
  omega
def aNums : List Int := [4607182418800017408]
theorem r3 : (rowL 3).f1 = 3 ∧ (rowL 3).f2 = 0 := ⟨rfl, rfl⟩
theorem r1 : (rowL 1).f1 = 1 ∧ (rowL 1).f2 = 0 := ⟨rfl, rfl⟩
theorem r24 : (rowL 24).f1 = 5 ∧ (rowL 24).f2 = 0 := ⟨rfl, rfl⟩
def aBytes : List Int := [65, 66, 67, 49, 1, 0, 0, 0, 0, 0, 0, 240, 63, 0, 3, 3, 9, 1, 0, 24, 1]
theorem a_n8 : n8 8 4607182418800017408 = [0, 0, 0, 0, 0, 0, 240, 63] := by kernel_rfl
theorem a_whole : wholeE aOps aNums [] = aBytes := by
  have o1 : opE ⟨3, 9, 0⟩ = [3, 9] := by
    unfold opE
    show (3 % 256 : Int) :: ((if (rowL 3).f1 = 0 then [] else dgL 9) ++ (if (rowL 3).f2 = 0 then [] else dgL 0)) = _
    rw [r3.1, r3.2, if_neg (by decide), if_pos rfl, dg1 9 (by decide) (by decide)]
    rfl
  have o2 : opE ⟨1, 0, 0⟩ = [1, 0] := by
    unfold opE
    show (1 % 256 : Int) :: ((if (rowL 1).f1 = 0 then [] else dgL 0) ++ (if (rowL 1).f2 = 0 then [] else dgL 0)) = _
    rw [r1.1, r1.2, if_neg (by decide), if_pos rfl, dg1 0 (by decide) (by decide)]
    rfl
  have o3 : opE ⟨24, 1, 0⟩ = [24, 1] := by
    unfold opE
    show (24 % 256 : Int) :: ((if (rowL 24).f1 = 0 then [] else dgL 1) ++ (if (rowL 24).f2 = 0 then [] else dgL 0)) = _
    rw [r24.1, r24.2, if_neg (by decide), if_pos rfl, dg1 1 (by decide) (by decide)]
    rfl
  unfold wholeE textE bodyE aOps aNums
  simp only [List.flatMap_cons, List.flatMap_nil, o1, o2, o3, a_n8, List.length_cons, List.length_nil]
  rw [show ((0 + 1 : Nat) : Int) = 1 from rfl, show ((0 : Nat) : Int) = 0 from rfl, show ((0 + 1 + 1 + 1 : Nat) : Int) = 3 from rfl, dg1 1 (by decide) (by decide), dg1 0 (by decide) (by decide), dg1 3 (by decide) (by decide)]
  rfl
theorem a_encode : encodeV aOps aNums [] = (aBytes, 0) := by
  unfold encodeV
  have hc : checkV aOps aNums.length ([] : List ByteArray).length = (2, 0, 0) := a_check
  rw [hc, if_pos rfl, if_pos (by decide), if_neg (by decide), a_whole]
  rfl
theorem it1 (m : Nat) (h : m < 10) : itL (m : Int) = [((UInt8.ofNat (48 + m)).toNat : Int)] := by
  unfold itL Lib.itoa
  rw [if_neg (by omega), Int.toNat_natCast, Lib.decDigits_one h]
  rfl
def aText : List Int := [48, 58, 32, 118, 97, 114, 32, 57, 10, 49, 58, 32, 110, 117, 109, 32, 48, 32, 51, 102, 102, 48, 48, 48, 48, 48, 48, 48, 48, 48, 48, 48, 48, 48, 10, 50, 58, 32, 98, 105, 110, 32, 49, 10]
theorem a_l1 : lineV 0 ⟨3, 9, 0⟩ aNums [] = [48, 58, 32, 118, 97, 114, 32, 57, 10] := by
  unfold lineV tailL argL
  show itL ((0 : Nat) : Int) ++ ([58, 32] ++ (nmL 3 ++ ((if (rowL 3).f1 = 0 then [] else 32 :: itL ((9 : Nat) : Int)) ++ ((if (rowL 3).f2 = 0 then [] else 32 :: itL ((0 : Nat) : Int)) ++ (_ ++ [10]))))) = _
  rw [r3.1, r3.2, it1 0 (by decide), it1 9 (by decide), show nmL 3 = [118, 97, 114] from rfl, if_neg (by decide), if_pos rfl, if_neg (by decide), if_neg (by decide)]
  rfl
theorem a_hex : hexL 16 4607182418800017408 = [51, 102, 102, 48, 48, 48, 48, 48, 48, 48, 48, 48, 48, 48, 48, 48] := by kernel_rfl
theorem a_l2 : lineV 1 ⟨1, 0, 0⟩ aNums [] = [49, 58, 32, 110, 117, 109, 32, 48, 32, 51, 102, 102, 48, 48, 48, 48, 48, 48, 48, 48, 48, 48, 48, 48, 48, 10] := by
  unfold lineV tailL argL
  show itL ((1 : Nat) : Int) ++ ([58, 32] ++ (nmL 1 ++ ((if (rowL 1).f1 = 0 then [] else 32 :: itL ((0 : Nat) : Int)) ++ ((if (rowL 1).f2 = 0 then [] else 32 :: itL ((0 : Nat) : Int)) ++ ((32 :: hexL 16 4607182418800017408) ++ [10]))))) = _
  rw [r1.1, r1.2, it1 0 (by decide), it1 1 (by decide), show nmL 1 = [110, 117, 109] from rfl, if_neg (by decide), if_pos rfl, a_hex]
  rfl
theorem a_l3 : lineV 2 ⟨24, 1, 0⟩ aNums [] = [50, 58, 32, 98, 105, 110, 32, 49, 10] := by
  unfold lineV tailL argL
  show itL ((2 : Nat) : Int) ++ ([58, 32] ++ (nmL 24 ++ ((if (rowL 24).f1 = 0 then [] else 32 :: itL ((1 : Nat) : Int)) ++ ((if (rowL 24).f2 = 0 then [] else 32 :: itL ((0 : Nat) : Int)) ++ (_ ++ [10]))))) = _
  rw [r24.1, r24.2, it1 1 (by decide), it1 2 (by decide), show nmL 24 = [98, 105, 110] from rfl, if_neg (by decide), if_pos rfl, if_neg (by decide), if_neg (by decide)]
  rfl
theorem a_list : listV aOps aNums [] = (strOfNums aText, 0) := by
  unfold listV
  have hc : checkV aOps aNums.length ([] : List ByteArray).length = (2, 0, 0) := a_check
  rw [hc, if_pos rfl]
  unfold aOps
  rw [listR, if_neg (by decide), a_l1, if_neg (by decide), listR, show (0 + 1 : Int) = 1 from rfl, if_neg (by decide), a_l2, if_neg (by decide), listR, show (1 + 1 : Int) = 2 from rfl, if_neg (by decide), a_l3, if_neg (by decide), listR]
  rfl
set_option maxRecDepth 100000 in
theorem awake_ans : Ans (fun k => abacuslaw26_awake.f k) true := by
  unfold abacuslaw26_awake.f
  have hJ : ∀ x ∈ aOps, J64 x := by
    intro x hx
    unfold aOps at hx
    simp only [List.mem_cons, List.not_mem_nil, or_false] at hx
    rcases hx with rfl | rfl | rfl <;> (unfold J64; decide)
  have hU : U64 aNums := by
    intro x hx
    unfold aNums at hx
    rw [List.mem_singleton] at hx
    subst hx
    decide
  refine Ans.congr (g' := fun k => (code_Effect.f k 24 1 0).bind fun bt249 => (if bt249.1 = 2 then (if bt249.2.1 = 1 then (abacuslaw26_awake.j0 k (!bt249.2.2) aOps aNums) else (abacuslaw26_awake.j0 k true aOps aNums)) else (abacuslaw26_awake.j0 k true aOps aNums))) ?_ fun k => rfl
  refine Ans.bind (a := (2, 1, true)) ⟨2, fun k hk => ?_⟩ ?_
  · obtain ⟨m, rfl⟩ := Nat.exists_eq_add_of_le hk
    rw [Nat.add_comm]
    exact (effect_eq m ⟨24, 1, 0⟩).trans rfl
  refine Ans.congr (g' := fun k => abacuslaw26_awake.j0 k false aOps aNums) ?_ fun k => rfl
  refine Ans.succ ?_
  refine Ans.congr (g' := fun k => (code_Check.f k aOps aNums ([] : List ByteArray)).bind fun bt252 => (if bt252.1 = 2 then (abacuslaw26_awake.j1 k (bt252.2.2 != 0) aOps aNums) else (abacuslaw26_awake.j1 k true aOps aNums))) ?_ fun k => by rw [abacuslaw26_awake.j0, if_neg (by decide)]
  refine Ans.bind (check_ans aOps aNums []) ?_
  have hc : checkV aOps aNums.length ([] : List ByteArray).length = (2, 0, 0) := a_check
  rw [hc]
  refine Ans.congr (g' := fun k => abacuslaw26_awake.j1 k false aOps aNums) ?_ fun k => rfl
  refine Ans.succ ?_
  have hB : (strOfNums aBytes).toList = ([65, 66, 67, 49, 1, 0, 0, 0, 0, 0, 0, 240, 63, 0, 3, 3, 9, 1, 0, 24, 1] : List UInt8) := by kernel_rfl
  have hT : ((strOfNums aText).toList == ([48, 58, 32, 118, 97, 114, 32, 57, 10, 49, 58, 32, 110, 117, 109, 32, 48, 32, 51, 102, 102, 48, 48, 48, 48, 48, 48, 48, 48, 48, 48, 48, 48, 48, 10, 50, 58, 32, 98, 105, 110, 32, 49, 10] : List UInt8)) = true := by kernel_rfl
  refine Ans.congr (g' := fun k => (code_Encode.f k aOps aNums ([] : List ByteArray)).bind fun bt255 => (if bt255.2 = 0 then (if (strOfNums bt255.1).toList = ([65, 66, 67, 49, 1, 0, 0, 0, 0, 0, 0, 240, 63, 0, 3, 3, 9, 1, 0, 24, 1] : List UInt8) then ((code_List.f k aOps aNums ([] : List ByteArray)).bind fun bt259 => (if bt259.2 = 0 then (some (bt259.1.toList == ([48, 58, 32, 118, 97, 114, 32, 57, 10, 49, 58, 32, 110, 117, 109, 32, 48, 32, 51, 102, 102, 48, 48, 48, 48, 48, 48, 48, 48, 48, 48, 48, 48, 48, 10, 50, 58, 32, 98, 105, 110, 32, 49, 10] : List UInt8))) else (some false))) else (some false)) else (some false))) ?_ fun k => by rw [abacuslaw26_awake.j1, if_neg (by decide)]
  refine Ans.bind (encode_ans aOps aNums [] (fun x hx => (hJ x hx).i) (by simp) (by decide)) ?_
  rw [a_encode]
  refine Ans.congr (g' := fun k => (code_List.f k aOps aNums ([] : List ByteArray)).bind fun bt259 => (if bt259.2 = 0 then (some (bt259.1.toList == ([48, 58, 32, 118, 97, 114, 32, 57, 10, 49, 58, 32, 110, 117, 109, 32, 48, 32, 51, 102, 102, 48, 48, 48, 48, 48, 48, 48, 48, 48, 48, 48, 48, 48, 10, 50, 58, 32, 98, 105, 110, 32, 49, 10] : List UInt8))) else (some false))) ?_ fun k => by rw [if_pos rfl, if_pos hB]
  refine Ans.bind (list_ans aOps aNums [] hU hJ) ?_
  rw [a_list]
  exact Ans.of fun k => by rw [if_pos rfl, hT]
end Go.Proofs.YtdkejcadoepnnaaDoor.Pl
