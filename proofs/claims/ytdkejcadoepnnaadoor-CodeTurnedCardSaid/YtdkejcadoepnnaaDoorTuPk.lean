/-
  Plain laws of the code statements: CodeTurned. Conditions: int64 numbers; the lists' lengths as a row bounds them.
-/
import Derived.Test.YtdkejcadoepnnaaDoorTuPf
import Derived.Test.YtdkejcadoepnnaaDoorTuECux18
set_option linter.unusedVariables false
set_option linter.unusedSimpArgs false
namespace Go.Proofs.YtdkejcadoepnnaaDoor.Pl
open Go.RowKit Go.Proofs.YtdkejcadoepnnaaDoorW.PrintWords Go.Proofs.YtdkejcadoepnnaaDoor.ECc Go.Proofs.YtdkejcadoepnnaaDoor.X
theorem allR_set {n p q : Int} : ∀ (pre : List S41) (i : Int) (x y : S41) (r : List S41), Rt n p q (pre ++ x :: r) i → rgI y (i + pre.length) n p q = false → allR n p q (pre ++ y :: r) i = some (i + pre.length)
  | [], i, x, y, r, h, hy => by
    simp only [List.nil_append, List.length_nil] at hy ⊢
    unfold allR
    rw [show i + ((0 : Nat) : Int) = i by omega] at hy ⊢
    rw [if_neg (by rw [hy]; decide)]
  | z :: pre, i, x, y, r, h, hy => by
    rw [List.cons_append] at h ⊢
    rw [List.length_cons] at hy ⊢
    unfold allR
    rw [if_pos h.1, allR_set pre (i + 1) x y r h.2 (by rw [show i + 1 + (pre.length : Int) = i + ((pre.length + 1 : Nat) : Int) by omega]; exact hy)]
    congr 1
    omega
theorem u64_id {x : Int} (h0 : 0 ≤ x) (h1 : x < 18446744073709551616) : IntKind.u64.wrap x = x := by
  simp [IntKind.wrap, IntKind.bits, IntKind.signed]
  omega
theorem u64_rng (x : Int) : 0 ≤ IntKind.u64.wrap x ∧ IntKind.u64.wrap x < 18446744073709551616 := by
  simp [IntKind.wrap, IntKind.bits, IntKind.signed]
  omega
theorem codeTurned_true (ops : List S41) (nums : List Int) (strs : List ByteArray) (a1 : Int) (y : S41) (hj : ∀ x ∈ ops, J64 x) (hy : J64 y) (hz : ∀ s ∈ strs, s.size < 4611686018427387904) (hnl : nums.length < 17592186044416) (hsl : strs.length < 8796093022208) :
    Ans (fun k => abacuslaw26_CodeTurned.f k ops nums strs a1 y.f0 y.f1 y.f2) true := by
  unfold abacuslaw26_CodeTurned.f
  refine Ans.bind awake_ans ?_
  refine Ans.congr (g' := ?g) ?h (fun k => ?e)
  case e => rw [if_pos rfl]
  case h =>
    refine Ans.bind (check_ans ops nums strs) ?_
    by_cases c : (checkV ops nums.length strs.length).2.2 = 0
    · obtain ⟨hn, hr, -⟩ := hv_ok c
      refine Ans.congr (g' := fun k => abacuslaw26_CodeTurned.j0 k a1 ((ops.length : Int) == 0) ops nums strs y.f0 y.f1 y.f2) ?_ fun k => if_pos c
      refine Ans.succ ?_
      by_cases c0 : (ops.length : Int) = 0
      · refine Ans.of fun k => ?_
        rw [show ((ops.length : Int) == 0) = true from beq_iff_eq.mpr c0, abacuslaw26_CodeTurned.j0, if_pos rfl]
      · have e0 : ((ops.length : Int) == 0) = false := beq_eq_false_iff_ne.mpr c0
        have eu : IntKind.u64.wrap (ops.length : Int) = (ops.length : Int) := u64_id (by omega) (by omega)
        obtain ⟨r0, r1⟩ := u64_rng a1
        obtain ⟨kk, hkk⟩ : ∃ kk, kk = wrap64 (Int.tmod (IntKind.u64.wrap a1) (ops.length : Int)) := ⟨_, rfl⟩
        have hkr : 0 ≤ kk ∧ kk < ops.length := by
          have e1 : Int.tmod (IntKind.u64.wrap a1) (ops.length : Int) = (IntKind.u64.wrap a1) % (ops.length : Int) := Int.tmod_eq_emod_of_nonneg r0
          have h1 := Int.emod_nonneg (IntKind.u64.wrap a1) c0
          have h2 := Int.emod_lt_of_pos (IntKind.u64.wrap a1) (show (0 : Int) < (ops.length : Int) by omega)
          rw [e1, wrap_id (by omega) (by omega)] at hkk
          omega
        refine Ans.congr (g' := ?g2) ?h2 (fun k => ?e2)
        case e2 => rw [e0, abacuslaw26_CodeTurned.j0, if_neg (by decide), eu, if_neg c0, ← hkk]
        case h2 =>
          refine Ans.bind (eff_ans y) ?_
          have skip : ∀ k, abacuslaw26_CodeTurned.j1 (k + 1) kk true ops nums strs y.f0 y.f1 y.f2 = some true := fun k => by rw [abacuslaw26_CodeTurned.j1, if_pos rfl]
          have bad : rgI y kk ops.length nums.length strs.length = false → Ans (fun k => abacuslaw26_CodeTurned.j1 k kk false ops nums strs y.f0 y.f1 y.f2) true := by
            intro hb
            obtain ⟨pre, x, r, e1, e2⟩ : ∃ pre x r, ops = pre ++ x :: r ∧ pre.length = kk.toNat := by
              have hlt : kk.toNat < ops.length := by omega
              refine ⟨ops.take kk.toNat, ops[kk.toNat], ops.drop (kk.toNat + 1), ?_, by rw [List.length_take]; omega⟩
              rw [List.getElem_cons_drop hlt, List.take_append_drop]
            have hset : ops.set kk.toNat ⟨y.f0, y.f1, y.f2⟩ = pre ++ y :: r := by
              rw [e1, ← e2, List.set_append_right _ _ (Nat.le_refl _), Nat.sub_self, List.set_cons_zero]
            have hlen2 : (pre ++ y :: r).length = ops.length := by rw [e1]; simp
            have hk2 : (0 : Int) + (pre.length : Int) = kk := by omega
            have hall : allR ops.length nums.length strs.length (pre ++ y :: r) 0 = some kk := by
              have := allR_set (n := ops.length) (p := nums.length) (q := strs.length) pre 0 x y r (by rw [← e1]; exact hr) (by rw [hk2]; exact hb)
              rw [hk2] at this
              exact this
            have hv : heightsV (pre ++ y :: r) nums.length strs.length = ([], kk, 260) := by
              unfold heightsV
              rw [hlen2, if_neg (by omega), hall]
            have he : (encodeV (pre ++ y :: r) nums strs).2 = 260 := by
              unfold encodeV checkV
              rw [hv]
              exact congrArg Prod.snd (if_neg (show ¬ (260 : Int) = 0 by decide))
            have hcp : abacuslaw26_copied.f ops nums strs = some (ops, nums, strs) := by
              unfold abacuslaw26_copied.f
              rw [if_pos (by simp; omega), if_pos (by simp; omega), if_pos (by simp; omega)]
              rfl
            refine Ans.succ ?_
            refine Ans.congr (g' := ?g3) ?h3 (fun k => ?e3)
            case e3 => rw [abacuslaw26_CodeTurned.j1, if_neg (by decide), hcp, Option.bind_some, if_pos hkr.1, if_pos hkr.2, Option.bind_some, hset]
            case h3 =>
              refine Ans.bind (heights_ans (pre ++ y :: r) nums strs) ?_
              refine Ans.bind (encode_ans (pre ++ y :: r) nums strs (fun z hz => ?_) hz (by omega)) ?_
              · rcases List.mem_append.1 hz with hz | hz
                · exact (hj z (by rw [e1]; simp [hz])).i
                · rcases List.mem_cons.1 hz with rfl | hz
                  · exact hy.i
                  · exact (hj z (by rw [e1]; simp [hz])).i
              · refine Ans.of fun k => ?_
                rw [hv, he, if_pos rfl, if_pos rfl, if_pos (show (([] : List Int).length : Int) = 0 from rfl)]
                rfl
          unfold efI
          by_cases ok : okI y = true
          · rw [if_pos ok]
            refine Ans.congr (g' := fun k => abacuslaw26_CodeTurned.j1 k kk (!(farI y && decide (y.f1 ≤ kk ∨ y.f1 > ops.length))) ops nums strs y.f0 y.f1 y.f2) ?_ fun k => ?_
            · by_cases cf : farI y = true ∧ (y.f1 ≤ kk ∨ y.f1 > ops.length)
              · have hf := of_decide_eq_true cf.1
                rw [cf.1, decide_eq_true cf.2]
                refine bad ?_
                unfold rgI
                rw [ok, if_neg (by omega), if_neg (by omega), if_pos hf, Bool.true_and]
                exact decide_eq_false (by omega)
              · have hb : (farI y && decide (y.f1 ≤ kk ∨ y.f1 > ops.length)) = false := by
                  cases h1 : farI y with
                  | false => rfl
                  | true => rw [decide_eq_false (fun h => cf ⟨h1, h⟩)]; rfl
                rw [hb]
                exact Ans.succ (Ans.of skip)
            · rw [jumps_eq, Option.bind_some]
              simp only [if_true]
              by_cases cf : farI y = true
              · rw [if_pos cf, cf]
                by_cases c1 : y.f1 ≤ kk
                · rw [if_pos c1, decide_eq_true (show y.f1 ≤ kk ∨ y.f1 > (ops.length : Int) from .inl c1)]
                  rfl
                · rw [if_neg c1]
                  congr 1
                  simp [c1]
              · rw [if_neg cf]
                have : farI y = false := by simpa using cf
                rw [this]
                rfl
          · rw [if_neg ok]
            refine Ans.congr (bad ?_) fun k => ?_
            · unfold rgI
              have : okI y = false := by simpa using ok
              rw [this]
              rfl
            · rw [jumps_eq, Option.bind_some]
              simp
    · refine Ans.congr (g' := fun k => abacuslaw26_CodeTurned.j0 k a1 true ops nums strs y.f0 y.f1 y.f2) ?_ fun k => if_neg c
      refine Ans.succ (Ans.of fun k => ?_)
      rw [abacuslaw26_CodeTurned.j0, if_pos rfl]
end Go.Proofs.YtdkejcadoepnnaaDoor.Pl
