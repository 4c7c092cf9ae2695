/-
  Plain laws of the code statements: CodeRuns. Conditions: none.
-/
import Derived.Test.YtdkejcadoepnnaaDoorRuPf
import Derived.Test.YtdkejcadoepnnaaDoorRuECcx19
set_option linter.unusedVariables false
set_option linter.unusedSimpArgs false
namespace Go.Proofs.YtdkejcadoepnnaaDoor.Pl
open Go.RowKit Go.Proofs.YtdkejcadoepnnaaDoorW.PrintWords Go.Proofs.YtdkejcadoepnnaaDoor.ECc Go.Proofs.YtdkejcadoepnnaaDoor.X
theorem eff_ans (x : S41) : Ans (fun k => code_Effect.f k x.f0 x.f1 x.f2) (efI x) := ⟨2, fun k hk => by
  obtain ⟨m, rfl⟩ := Nat.exists_eq_add_of_le hk
  show code_Effect.f (2 + m) x.f0 x.f1 x.f2 = _
  rw [Nat.add_comm]
  exact effect_eq m x⟩
def farI (x : S41) : Bool := decide (x.f0 = 27 ∨ x.f0 = 28 ∨ x.f0 = 29)
def nearI (x : S41) : Bool := decide (x.f0 ≠ 27)
theorem jumps_eq (x : S41) : abacuslaw26_jumps.f x.f0 = some (farI x, nearI x) := by
  unfold abacuslaw26_jumps.f farI nearI
  by_cases a : x.f0 = 27
  · simp [a]
  · by_cases b : x.f0 = 29
    · simp [b]
    · by_cases c : x.f0 = 28
      · simp [c]
      · simp [a, b, c]
theorem runs_loop (ops : List S41) (nums : List Int) (strs : List ByteArray) (ways : List Bool) (fs : List Int) (g : Good ops nums.length strs.length fs) (most : Int) (hm : ∀ j : Int, 0 ≤ j → j ≤ ops.length → rd fs j ≤ most) :
    ∀ i : Int, i ≤ ops.length → 0 ≤ i → 0 ≤ rd fs i → ∀ ch st : Int, 0 ≤ ch → ch ≤ st → 0 ≤ st → st ≤ i →
      Ans (fun k => abacuslaw26_CodeRuns.l0 k ways most (ops.length : Int) i (rd fs i) ch st ops nums strs) true := by
  refine left_ind fun i hi ih => ?_
  intro h0 hv ch st c0 c1 s0 s1
  have hn := g.short
  refine Ans.succ ?_
  by_cases hend : i < (ops.length : Int)
  · have hr := g.right i h0 hend
    obtain ⟨t1, t2, t3, t4⟩ := g.on i h0 hend hv
    have hi1 : i + 1 ≤ ops.length := by omega
    revert hr t1 t2 t3 t4
    generalize hx : rd_T41 ops i = x
    intro hr t1 t2 t3 t4
    obtain ⟨⟨a0, a1⟩, b0, b1⟩ := ways_in hr hend
    have ok := (jump_in hr).1
    have tk := tk_range ok
    have pt := pt_range ok
    have hvr := g.range i h0
    have hef : efI x = (tkI x, ptI x, true) := by unfold efI; rw [if_pos ok]
    have enx : wrap64 (rd fs i + wrap64 (ptI x - tkI x)) = nxH x (rd fs i) := by
      unfold nxH
      rw [wrap_id (x := ptI x - tkI x) (by omega) (by omega), wrap_id (by omega) (by omega)]
      omega
    have n0 : 0 ≤ nxH x (rd fs i) := by unfold nxH; omega
    have nm : nxH x (rd fs i) ≤ most := by rw [← t3]; exact hm _ (by omega) a1
    refine Ans.congr (g' := fun k => abacuslaw26_CodeRuns.j1 k ways most (ops.length : Int) i (rd fs i) ch st false ops nums strs) ?_ fun k => by
      rw [abacuslaw26_CodeRuns.l0, if_pos hend, if_neg (by omega), decide_eq_false (by omega)]
    refine Ans.succ ?_
    have key : ∀ k, abacuslaw26_CodeRuns.j1 (k + 1) ways most (ops.length : Int) i (rd fs i) ch st false ops nums strs = (code_Effect.f k x.f0 x.f1 x.f2).bind fun bt311 => (if bt311.2.2 = true then (if rd fs i < bt311.1 then (abacuslaw26_CodeRuns.j2 k ways most (ops.length : Int) i (rd fs i) ch st bt311.1 bt311.2.1 true ops nums strs x.f0 x.f1 x.f2) else (abacuslaw26_CodeRuns.j2 k ways most (ops.length : Int) i (rd fs i) ch st bt311.1 bt311.2.1 false ops nums strs x.f0 x.f1 x.f2)) else (abacuslaw26_CodeRuns.j2 k ways most (ops.length : Int) i (rd fs i) ch st bt311.1 bt311.2.1 true ops nums strs x.f0 x.f1 x.f2)) := by
      intro k
      rw [abacuslaw26_CodeRuns.j1, if_neg (by decide), if_pos h0, if_pos hend, hx]
      congr 1
      funext bt
      by_cases d : bt.2.2 = true
      · rw [if_pos d, if_pos d]
        by_cases d2 : rd fs i < bt.1
        · rw [if_pos d2, if_pos d2]
        · rw [if_neg d2, if_neg d2]
          have hr1 := hr
          unfold rgI at hr1
          simp only [Bool.and_eq_true] at hr1
          have hr2 := hr1.2
          by_cases e1 : x.f0 = 1
          · rw [if_pos e1] at hr2 ⊢
            have hr2 := of_decide_eq_true hr2
            have := num_pos ok (.inl e1)
            rw [if_neg (by omega), if_neg (by omega), if_neg (by omega)]
          · rw [if_neg e1] at hr2 ⊢
            by_cases e2 : x.f0 = 2
            · rw [if_pos e2] at hr2 ⊢
              have hr2 := of_decide_eq_true hr2
              have := num_pos ok (.inr e2)
              rw [if_neg (by omega), decide_eq_false (by omega)]
            · rw [if_neg e2]
      · rw [if_neg d, if_neg d]
    refine Ans.congr ?_ key
    refine Ans.bind (eff_ans x) ?_
    rw [hef]
    refine Ans.congr (g' := fun k => abacuslaw26_CodeRuns.j2 k ways most (ops.length : Int) i (rd fs i) ch st (tkI x) (ptI x) false ops nums strs x.f0 x.f1 x.f2) ?_ fun k => by
      rw [if_pos rfl, if_neg (by omega)]
    refine Ans.succ ?_
    have ihf : x.f0 = 27 ∨ x.f0 = 28 ∨ x.f0 = 29 → ∀ ch' : Int, 0 ≤ ch' → ch' ≤ st + 1 → Ans (fun k => abacuslaw26_CodeRuns.l0 k ways most (ops.length : Int) x.f1 (nxH x (rd fs i)) ch' (wrap64 (st + 1)) ops nums strs) true := by
      intro hj ch' g0 g1
      have e : w2 x i = x.f1 := by unfold w2; rw [if_pos hj]
      rw [wrap_id (x := st + 1) (by omega) (by omega), ← t4, e]
      exact ih x.f1 (by omega) (by omega) (by omega) (by rw [← e, t4]; exact n0) ch' (st + 1) g0 g1 (by omega) (by omega)
    have ihn : x.f0 ≠ 27 → ∀ ch' : Int, 0 ≤ ch' → ch' ≤ st + 1 → Ans (fun k => abacuslaw26_CodeRuns.l0 k ways most (ops.length : Int) (wrap64 (i + 1)) (nxH x (rd fs i)) ch' (wrap64 (st + 1)) ops nums strs) true := by
      intro hj ch' g0 g1
      have e : w1 x i = i + 1 := by unfold w1; rw [if_neg hj]
      rw [wrap_id (x := st + 1) (by omega) (by omega), wrap_id (x := i + 1) (by omega) (by omega), ← t3, e]
      exact ih (i + 1) (by omega) (by omega) (by omega) (by rw [← e, t3]; exact n0) ch' (st + 1) g0 g1 (by omega) (by omega)
    by_cases k1 : x.f0 = 27
    · refine Ans.succ (Ans.succ (Ans.congr (ihf (.inl k1) ch c0 (by omega)) fun k => ?_))
      have ef : farI x = true := decide_eq_true (.inl k1)
      have en : nearI x = false := decide_eq_false (fun h => h k1)
      rw [abacuslaw26_CodeRuns.j2, if_neg (by decide), enx, if_neg (by omega), jumps_eq, Option.bind_some]
      simp only [ef, en]
      rw [if_pos trivial, abacuslaw26_CodeRuns.j3, if_pos rfl, abacuslaw26_CodeRuns.j4, if_neg (by decide), if_pos (show (!false) = true by decide)]
    · by_cases k2 : x.f0 = 28 ∨ x.f0 = 29
      · have ef : farI x = true := decide_eq_true (.inr k2)
        have en : nearI x = true := decide_eq_true k1
        have key2 : ∀ k, abacuslaw26_CodeRuns.j2 (k + 1 + 1 + 1) ways most (ops.length : Int) i (rd fs i) ch st (tkI x) (ptI x) false ops nums strs x.f0 x.f1 x.f2 = if ch < (ways.length : Int) ∧ rdOf false ways ch = true then abacuslaw26_CodeRuns.l0 k ways most (ops.length : Int) x.f1 (nxH x (rd fs i)) (wrap64 (ch + 1)) (wrap64 (st + 1)) ops nums strs else abacuslaw26_CodeRuns.l0 k ways most (ops.length : Int) (wrap64 (i + 1)) (nxH x (rd fs i)) (wrap64 (ch + 1)) (wrap64 (st + 1)) ops nums strs := by
          intro k
          rw [abacuslaw26_CodeRuns.j2, if_neg (by decide), enx, if_neg (by omega), jumps_eq, Option.bind_some]
          simp only [ef, en]
          rw [if_pos trivial, abacuslaw26_CodeRuns.j3, if_pos rfl, abacuslaw26_CodeRuns.j4, if_pos rfl]
          by_cases d : ch < (ways.length : Int)
          · rw [if_pos d, if_pos c0]
            by_cases d2 : rdOf false ways ch = true
            · rw [if_pos d2, if_pos ⟨d, d2⟩]
            · rw [if_neg d2, if_neg (fun h => d2 h.2)]
          · rw [if_neg d, if_neg (by decide), if_neg (fun h => d h.1)]
        refine Ans.succ (Ans.succ (Ans.congr ?_ key2))
        have hc : wrap64 (ch + 1) = ch + 1 := wrap_id (by omega) (by omega)
        rw [hc]
        by_cases d : ch < (ways.length : Int) ∧ rdOf false ways ch = true
        · exact Ans.congr (ihf (.inr k2) (ch + 1) (by omega) (by omega)) fun k => if_pos d
        · exact Ans.congr (ihn k1 (ch + 1) (by omega) (by omega)) fun k => if_neg d
      · have ef : farI x = false := decide_eq_false (fun h => h.elim k1 k2)
        have en : nearI x = true := decide_eq_true k1
        refine Ans.succ (Ans.succ (Ans.congr (ihn k1 ch c0 (by omega)) fun k => ?_))
        rw [abacuslaw26_CodeRuns.j2, if_neg (by decide), enx, if_neg (by omega), jumps_eq, Option.bind_some]
        simp only [ef, en]
        rw [if_neg (show ¬ false = true by decide), abacuslaw26_CodeRuns.j3, if_neg (by decide), abacuslaw26_CodeRuns.j4, if_neg (by decide), if_neg (by decide)]
  · have e : i = (ops.length : Int) := by omega
    subst e
    refine Ans.of fun k => ?_
    rw [abacuslaw26_CodeRuns.l0, if_neg hend, if_pos rfl, g.last]
    rfl
theorem codeRuns_true (ops : List S41) (nums : List Int) (strs : List ByteArray) (ways : List Bool) : Ans (fun k => abacuslaw26_CodeRuns.f k ops nums strs ways) true := by
  unfold abacuslaw26_CodeRuns.f
  refine Ans.bind awake_ans ?_
  refine Ans.congr (g' := fun k => (code_Check.f k ops nums strs).bind fun bt306 => (if bt306.2.2 = 0 then (abacuslaw26_CodeRuns.l0 k ways bt306.1 (ops.length : Int) 0 0 0 0 ops nums strs) else (some true))) ?_ fun k => if_pos rfl
  refine Ans.bind (check_ans ops nums strs) ?_
  by_cases c : (checkV ops nums.length strs.length).2.2 = 0
  · obtain ⟨g, -⟩ := good_of c
    refine Ans.congr (g' := fun k => abacuslaw26_CodeRuns.l0 k ways (checkV ops nums.length strs.length).1 (ops.length : Int) 0 (rd (heightsV ops nums.length strs.length).1 0) 0 0 ops nums strs) ?_ fun k => by rw [if_pos c, g.first]
    exact runs_loop ops nums strs ways _ g _ (fun j h0 h1 => most_rd h0 (by have := g.len; omega) 0) 0 (by omega) (by omega) (by rw [g.first]; omega) 0 0 (by omega) (by omega) (by omega) (by omega)
  · exact Ans.of fun k => if_neg c
end Go.Proofs.YtdkejcadoepnnaaDoor.Pl
