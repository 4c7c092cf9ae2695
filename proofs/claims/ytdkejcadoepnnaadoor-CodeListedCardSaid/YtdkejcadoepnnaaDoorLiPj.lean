/-
  Plain laws of the code statements: CodeListed. Conditions: int64 and uint64 numbers.
-/
import Derived.Test.YtdkejcadoepnnaaDoorLiPi
import Derived.Test.YtdkejcadoepnnaaDoorLiECcx23
set_option linter.unusedVariables false
set_option linter.unusedSimpArgs false
namespace Go.Proofs.YtdkejcadoepnnaaDoor.Pl
open Go.RowKit Go.Proofs.YtdkejcadoepnnaaDoorW.PrintWords Go.Proofs.YtdkejcadoepnnaaDoor.ECc Go.Proofs.YtdkejcadoepnnaaDoor.X
def linesL (nums : List Int) (strs : List ByteArray) : List S41 → Int → List Int
  | [], _ => []
  | x :: r, i => lineV i x nums strs ++ linesL nums strs r (i + 1)
theorem listR_some (nums : List Int) (strs : List ByteArray) : ∀ (r : List S41) (i : Int) (out o : List Int), listR nums strs r i out = some o → out.length ≤ 16777216 → o = out ++ linesL nums strs r i ∧ o.length ≤ 16777216
  | [], i, out, o, h, hl => by
    obtain rfl := Option.some.inj h
    exact ⟨by rw [linesL, List.append_nil], hl⟩
  | x :: r, i, out, o, h, hl => by
    unfold listR at h
    split at h
    · cases h
    · split at h
      · cases h
      · rename_i c
        obtain ⟨h1, h2⟩ := listR_some nums strs r (i + 1) _ o h (by omega)
        exact ⟨by rw [h1, linesL, List.append_assoc], h2⟩
theorem lines_range (nums : List Int) (strs : List ByteArray) : ∀ (r : List S41) (i : Int), ∀ d ∈ linesL nums strs r i, 0 ≤ d ∧ d < 256
  | [], i, d, hd => by simp [linesL] at hd
  | x :: r, i, d, hd => by
    rw [linesL, List.mem_append] at hd
    exact hd.elim (lineV_range _ _ _ _ d) (lines_range nums strs r (i + 1) d)
theorem seen_split : ∀ {A B R S : List Int}, Seen A → Seen B → A ++ 10 :: R = B ++ 10 :: S → A = B ∧ R = S
  | [], [], R, S, _, _, h => ⟨rfl, (List.cons.inj h).2⟩
  | [], b :: B, R, S, hA, hB, h => by
    have h1 : (10 : Int) = b := (List.cons.inj h).1
    have := hB b (by simp)
    omega
  | a :: A, [], R, S, hA, hB, h => by
    have h1 : a = (10 : Int) := (List.cons.inj h).1
    have := hA a (by simp)
    omega
  | a :: A, b :: B, R, S, hA, hB, h => by
    obtain ⟨h1, h2⟩ := List.cons.inj h
    obtain ⟨h3, h4⟩ := seen_split (fun c hc => hA c (by simp [hc])) (fun c hc => hB c (by simp [hc])) h2
    exact ⟨by rw [h1, h3], h4⟩
theorem lines_inj {nums nums' : List Int} {strs strs' : List ByteArray} : ∀ (r s : List S41) (i : Int), 0 ≤ i → (∀ x ∈ r, okI x = true) → (∀ x ∈ s, okI x = true) → linesL nums strs r i = linesL nums' strs' s i → r = s
  | [], [], i, h0, hr, hs, h => rfl
  | [], y :: s, i, h0, hr, hs, h => by
    rw [linesL, linesL, line_body] at h
    simp at h
  | x :: r, [], i, h0, hr, hs, h => by
    rw [linesL, linesL, line_body] at h
    simp at h
  | x :: r, y :: s, i, h0, hr, hs, h => by
    rw [linesL, linesL, line_body, line_body, List.append_assoc, List.append_assoc] at h
    have ox := hr x (by simp)
    have oy := hs y (by simp)
    obtain ⟨h1, h2⟩ := seen_split (seen_body h0 ox) (seen_body h0 oy) h
    have e : x = y := line_inj (i := i) (nums := nums) (nums' := nums') (strs := strs) (strs' := strs') ox oy (by rw [line_body, line_body, h1])
    rw [e, lines_inj r s (i + 1) (by omega) (fun a ha => hr a (by simp [ha])) (fun a ha => hs a (by simp [ha])) h2]
theorem ext_size (o : List Int) (a b : Nat) (h : a + b ≤ o.length) : ((strOfNums o).extract a (a + b)).size = b := by
  rw [ByteArray.size_extract, son_size]
  omega
section
variable (n0 : List S41) (n1 : List Int) (n2 : List ByteArray) (d0 : List S41) (d1 : List Int) (d2 : List ByteArray) (o : List Int)
theorem scan_seen (ho : ∀ d ∈ o, 0 ≤ d ∧ d < 256) (hl : o.length ≤ 16777216) (ln a : Int) (res : Bool) : ∀ (B P R : List Int), o = P ++ (B ++ R) → Seen B →
    Ans (fun k => abacuslaw26_CodeListed.l0 k (strOfNums o) ln a ((P.length + B.length : Nat) : Int) n0 n1 n2 d0 d1 d2) res → Ans (fun k => abacuslaw26_CodeListed.l0 k (strOfNums o) ln a (P.length : Int) n0 n1 n2 d0 d1 d2) res
  | [], P, R, e, hB, h => h
  | c :: B, P, R, e, hB, h => by
    have hc := hB c (by simp)
    have hlen : P.length + 1 + B.length + R.length = o.length := by rw [e]; simp; omega
    have ih := scan_seen ho hl ln a res B (P ++ [c]) R (by rw [e]; simp) (fun x hx => hB x (by simp [hx])) (by
      rw [List.length_append, List.length_singleton]
      rw [List.length_cons] at h
      rw [show P.length + 1 + B.length = P.length + (B.length + 1) by omega]
      exact h)
    refine Ans.succ (Ans.congr ih fun k => ?_)
    have hb : bt (strOfNums o) (P.length : Int) = c := bt_son ho (R := B ++ R) (by rw [e]; simp)
    rw [abacuslaw26_CodeListed.l0, son_size, if_pos (by omega), if_pos (by omega), hb, if_neg (by omega), if_neg (by omega), if_neg (by omega), wrap_id (by omega) (by omega), List.length_append]
    rfl
theorem scan_line (ho : ∀ d ∈ o, 0 ≤ d ∧ d < 256) (hl : o.length ≤ 16777216) (ln : Nat) (hln : ln ≤ 131072) (x : S41) (hx : okI x = true) (nums : List Int) (strs : List ByteArray) (res : Bool) (A R : List Int) (e : o = A ++ (lineV ln x nums strs ++ R))
    (h : Ans (fun k => abacuslaw26_CodeListed.l0 k (strOfNums o) ((ln + 1 : Nat) : Int) ((A ++ lineV ln x nums strs).length : Int) ((A ++ lineV ln x nums strs).length : Int) n0 n1 n2 d0 d1 d2) res) :
    Ans (fun k => abacuslaw26_CodeListed.l0 k (strOfNums o) (ln : Int) (A.length : Int) (A.length : Int) n0 n1 n2 d0 d1 d2) res := by
  have hseen : Seen (bodyV ln x nums strs) := seen_body (by omega) hx
  rw [line_body, List.append_assoc] at e
  refine scan_seen n0 n1 n2 d0 d1 d2 o ho hl ln A.length res (bodyV ln x nums strs) A ([10] ++ R) e hseen ?_
  have hlen : A.length + (bodyV ln x nums strs).length + 1 + R.length = o.length := by rw [e]; simp; omega
  obtain ⟨t, ht, hta⟩ := number_ans ln (by omega)
  have hts : t.size = (itL (ln : Int)).length := by rw [← ht, bytesOf_len]
  have htl := itL_len (n := (ln : Int)) (by omega) (by omega)
  have hsc : bytesOf (⟨#[58, 32]⟩ : ByteArray) = [58, 32] := rfl
  have happ : (t ++ (⟨#[58, 32]⟩ : ByteArray)).size = (itL (ln : Int)).length + 2 := by rw [app_size, hts]; rfl
  obtain ⟨rest, hrest⟩ : ∃ rest, bodyV ln x nums strs = itL (ln : Int) ++ ([58, 32] ++ rest) := ⟨_, rfl⟩
  have hbl : (bodyV ln x nums strs).length = (itL (ln : Int)).length + 2 + rest.length := by rw [hrest]; simp; omega
  have hwr : wrap64 ((A.length : Int) + ((t ++ (⟨#[58, 32]⟩ : ByteArray)).size : Int)) = ((A.length + ((itL (ln : Int)).length + 2) : Nat) : Int) := by
    rw [happ, wrap_id (by omega) (by omega)]; omega
  have hnl : ((A ++ lineV ln x nums strs).length : Int) = wrap64 (((A.length + (bodyV ln x nums strs).length : Nat) : Int) + 1) := by
    rw [wrap_id (by omega) (by omega), line_body, List.length_append, List.length_append]
    show ((A.length + ((bodyV ln x nums strs).length + 1) : Nat) : Int) = _
    omega
  have q1 : (itL (ln : Int)).length + 2 ≤ 9223372036854775807 := by omega
  have q2 : (0 : Int) ≤ (A.length : Int) := by omega
  have q3 : (A.length : Int) ≤ ((A.length + (bodyV ln x nums strs).length : Nat) : Int) := by omega
  have q4 : ((A.length + (bodyV ln x nums strs).length : Nat) : Int) ≤ (o.length : Int) := by omega
  have q5 : ¬ ((bodyV ln x nums strs).length : Int) < (((itL (ln : Int)).length + 2 : Nat) : Int) := by omega
  have q6 : (A.length : Int) ≤ ((A.length + ((itL (ln : Int)).length + 2) : Nat) : Int) := by omega
  have q7 : ((A.length + ((itL (ln : Int)).length + 2) : Nat) : Int) ≤ (o.length : Int) := by omega
  have q8 : ((A.length + (bodyV ln x nums strs).length : Nat) : Int) < (o.length : Int) := by omega
  have q9 : (0 : Int) ≤ ((A.length + (bodyV ln x nums strs).length : Nat) : Int) := by omega
  have q10 : wrap64 ((ln : Int) + 1) = ((ln + 1 : Nat) : Int) := by rw [wrap_id (by omega) (by omega)]; rfl
  have hle : A.length + (bodyV ln x nums strs).length ≤ o.length := by omega
  have hbt : bt (strOfNums o) ((A.length + (bodyV ln x nums strs).length : Nat) : Int) = 10 := by
    have := bt_son ho (P := A ++ bodyV ln x nums strs) (R := R) (c := 10) (by rw [e]; simp)
    rw [List.length_append] at this
    exact this
  have hex2 : ((strOfNums o).extract A.length (A.length + (bodyV ln x nums strs).length)).size = (bodyV ln x nums strs).length := ext_size o _ _ hle
  have hext : (strOfNums o).extract A.length (A.length + ((itL (ln : Int)).length + 2)) = t ++ (⟨#[58, 32]⟩ : ByteArray) := by
    refine bytes_inj ?_
    rw [bytes_extract, numsBytes o ho, bytes_app, ht, hsc, e, hrest]
    have e1 : A ++ (itL (ln : Int) ++ ([58, 32] ++ rest) ++ ([10] ++ R)) = (A ++ (itL (ln : Int) ++ [58, 32])) ++ (rest ++ ([10] ++ R)) := by simp only [List.append_assoc]
    rw [e1, List.take_append_of_le_length (by simp), List.take_of_length_le (by simp), List.drop_left]
  refine Ans.succ ?_
  refine Ans.congr (g' := ?g) ?h (fun k => ?e)
  case e =>
    rw [abacuslaw26_CodeListed.l0, son_size, if_pos q8, if_pos q9, if_pos hbt]
  case h =>
    refine Ans.bind hta ?_
    refine Ans.congr h fun k => ?_
    simp only [Int.toNat_natCast]
    rw [hts, if_pos q1, if_pos q2, if_pos q3, if_pos q4, hex2, happ, if_neg q5]
    rw [happ] at hwr
    rw [hwr, if_pos q6, if_pos q7, Int.toNat_natCast, if_pos (congrArg ByteArray.toList hext), hnl, q10]
theorem scan_all (ho : ∀ d ∈ o, 0 ≤ d ∧ d < 256) (hl : o.length ≤ 16777216) (nums : List Int) (strs : List ByteArray) (ops : List S41) (hn : ops.length ≤ 131072) (ok : ∀ x ∈ ops, okI x = true) (res : Bool) : ∀ (r pre : List S41) (A : List Int), ops = pre ++ r → o = A ++ linesL nums strs r pre.length →
    Ans (fun k => abacuslaw26_CodeListed.l0 k (strOfNums o) (ops.length : Int) (o.length : Int) (o.length : Int) n0 n1 n2 d0 d1 d2) res →
    Ans (fun k => abacuslaw26_CodeListed.l0 k (strOfNums o) (pre.length : Int) (A.length : Int) (A.length : Int) n0 n1 n2 d0 d1 d2) res
  | [], pre, A, e, eo, h => by
    rw [linesL, List.append_nil] at eo
    rw [List.append_nil] at e
    rw [← e, ← eo]
    exact h
  | x :: r, pre, A, e, eo, h => by
    have hp : pre.length + 1 + r.length = ops.length := by rw [e]; simp; omega
    rw [linesL] at eo
    refine scan_line n0 n1 n2 d0 d1 d2 o ho hl pre.length (by omega) x (ok x (by rw [e]; simp)) nums strs res A _ eo ?_
    have ih := scan_all ho hl nums strs ops hn ok res r (pre ++ [x]) (A ++ lineV pre.length x nums strs) (by rw [e]; simp) (by rw [List.length_append, List.append_assoc]; exact eo) h
    rw [List.length_append] at ih
    exact ih
end
theorem same_l1 (n0 : List S41) (n1 : List Int) (n2 : List ByteArray) (d1 : List Int) (d2 : List ByteArray) (hn : n0.length ≤ 131072) : ∀ i : Int, i ≤ n0.length → 0 ≤ i → Ans (fun k => abacuslaw26_CodeListed.l1 k i n0 n1 n2 n0 d1 d2) true := by
  refine left_ind fun i hi ih => ?_
  intro h0
  refine Ans.succ ?_
  by_cases c : i < (n0.length : Int)
  · refine Ans.congr (ih (i + 1) (by omega) (by omega) (by omega)) fun k => ?_
    rw [abacuslaw26_CodeListed.l1, if_pos c, if_pos h0, if_pos c, if_neg (by simp), wrap_id (by omega) (by omega)]
  · refine Ans.of fun k => ?_
    rw [abacuslaw26_CodeListed.l1, if_neg c]
theorem listV_ok {ops : List S41} {nums : List Int} {strs : List ByteArray} (h : (listV ops nums strs).2 = 0) : ∃ o, listV ops nums strs = (strOfNums o, 0) ∧ o = linesL nums strs ops 0 ∧ o.length ≤ 16777216 ∧ ops.length ≤ 131072 ∧ ∀ x ∈ ops, okI x = true := by
  unfold listV at h ⊢
  by_cases c : (checkV ops nums.length strs.length).2.2 = 0
  · rw [if_pos c] at h ⊢
    obtain ⟨hn, hr, -⟩ := hv_ok c
    cases e : listR nums strs ops 0 [] with
    | none =>
      rw [e] at h
      have h9 : (3 : Int) = 0 := h
      omega
    | some o =>
      obtain ⟨h1, h2⟩ := listR_some nums strs ops 0 [] o e (by simp)
      exact ⟨o, rfl, by rw [h1]; rfl, h2, hn, rt_ok _ _ hr⟩
  · rw [if_neg c] at h
    exact absurd h c
theorem list_bad {ops : List S41} {nums : List Int} {strs : List ByteArray} (h : ¬ (listV ops nums strs).2 = 0) : (listV ops nums strs).1 = ⟨#[]⟩ ∧ ((listV ops nums strs).2 = (checkV ops nums.length strs.length).2.2 ∨ ((listV ops nums strs).2 = 3 ∧ (checkV ops nums.length strs.length).2.2 = 0)) := by
  unfold listV at h ⊢
  by_cases c : (checkV ops nums.length strs.length).2.2 = 0
  · rw [if_pos c] at h ⊢
    cases e : listR nums strs ops 0 [] with
    | none => exact ⟨rfl, .inr ⟨rfl, c⟩⟩
    | some o => rw [e] at h; exact absurd rfl h
  · rw [if_neg c]
    exact ⟨rfl, .inl rfl⟩
theorem check_err (ops : List S41) (p q : Int) : (checkV ops p q).2.2 = 0 ∨ (checkV ops p q).2.2 = 260 := by
  have : (heightsV ops p q).2.2 = 0 ∨ (heightsV ops p q).2.2 = 260 := by
    unfold heightsV
    split
    · exact .inr rfl
    · split
      · exact .inr rfl
      · have key : ∀ (n : Int) (r : List S41) (i : Int) (hs : List Int), (runH n r i hs).2.2 = 0 ∨ (runH n r i hs).2.2 = 260 := by
          intro n r
          induction r with
          | nil =>
            intro i hs
            unfold runH
            split
            · exact .inl rfl
            · exact .inr rfl
          | cons x r ih =>
            intro i hs
            unfold runH
            split
            · exact .inr rfl
            · exact ih _ _
        exact key _ _ _ _
  exact this
theorem codeListed_true (ops : List S41) (nums : List Int) (strs : List ByteArray) (dops : List S41) (dnums : List Int) (dstrs : List ByteArray) (hu : U64 nums) (hj : ∀ x ∈ ops, J64 x) (hu' : U64 dnums) (hj' : ∀ x ∈ dops, J64 x) :
    Ans (fun k => abacuslaw26_CodeListed.f k ops nums strs dops dnums dstrs) true := by
  unfold abacuslaw26_CodeListed.f
  refine Ans.bind awake_ans ?_
  refine Ans.congr (g' := ?g) ?h (fun k => ?e)
  case e => rw [if_pos rfl]
  case h =>
    refine Ans.bind (list_ans ops nums strs hu hj) ?_
    by_cases c : (listV ops nums strs).2 = 0
    · obtain ⟨o, e1, e2, e3, e4, e5⟩ := listV_ok c
      have ho : ∀ d ∈ o, 0 ≤ d ∧ d < 256 := by rw [e2]; exact lines_range nums strs ops 0
      refine Ans.congr (g' := fun k => abacuslaw26_CodeListed.l0 k (strOfNums o) 0 0 0 ops nums strs dops dnums dstrs) ?_ fun k => by rw [if_pos c, e1]
      refine scan_all ops nums strs dops dnums dstrs o ho e3 nums strs ops e4 e5 true ops [] [] rfl e2 ?_
      refine Ans.succ ?_
      refine Ans.congr (g' := fun k => abacuslaw26_CodeListed.j1 k (strOfNums o) false ops nums strs dops dnums dstrs) ?_ fun k => by
        rw [abacuslaw26_CodeListed.l0, son_size, if_neg (by omega), if_pos rfl]
        congr 1
        simp
      refine Ans.succ ?_
      refine Ans.congr (g' := ?g2) ?h2 (fun k => ?e2)
      case e2 => rw [abacuslaw26_CodeListed.j1, if_neg (by decide)]
      case h2 =>
        refine Ans.bind (list_ans dops dnums dstrs hu' hj') ?_
        by_cases d : (listV dops dnums dstrs).2 = 0 ∧ (listV dops dnums dstrs).1.toList = (strOfNums o).toList
        · obtain ⟨o', f1, f2, f3, f4, f5⟩ := listV_ok d.1
          have ho' : ∀ d ∈ o', 0 ≤ d ∧ d < 256 := by rw [f2]; exact lines_range dnums dstrs dops 0
          have hoo : o' = o := by
            have h1 := d.2
            rw [f1, Go.ByteArray.toList_eq, Go.ByteArray.toList_eq] at h1
            have h2 : bytesOf (strOfNums o') = bytesOf (strOfNums o) := congrArg (List.map fun b : UInt8 => (b.toNat : Int)) h1
            rw [numsBytes o' ho', numsBytes o ho] at h2
            exact h2
          have hops : dops = ops := lines_inj dops ops 0 (by omega) f5 e5 (by rw [← f2, ← e2, hoo])
          subst hops
          refine Ans.succ ?_
          refine Ans.congr (same_l1 dops nums strs dnums dstrs f4 0 (by omega) (by omega)) fun k => ?_
          have hne : ((listV dops dnums dstrs).1.toList != (strOfNums o).toList) = false := by rw [d.2]; simp
          rw [if_pos d.1, hne, abacuslaw26_CodeListed.j2, if_neg (by decide), if_pos rfl]
        · refine Ans.succ (Ans.of fun k => ?_)
          by_cases d1 : (listV dops dnums dstrs).2 = 0
          · have hne : ((listV dops dnums dstrs).1.toList != (strOfNums o).toList) = true := by
              rw [bne_iff_ne]
              exact fun h => d ⟨d1, h⟩
            rw [if_pos d1, hne, abacuslaw26_CodeListed.j2, if_pos rfl]
          · rw [if_neg d1, abacuslaw26_CodeListed.j2, if_pos rfl]
    · obtain ⟨h1, h2⟩ := list_bad c
      refine Ans.congr (g' := ?g3) ?h3 (fun k => ?e3)
      case e3 => rw [if_neg c]
      case h3 =>
        refine Ans.bind (check_ans ops nums strs) ?_
        refine Ans.of fun k => ?_
        have he : (listV ops nums strs).1.toList = ([] : List UInt8) := by rw [h1, Go.ByteArray.toList_eq]
        rw [if_pos he]
        have hce := check_err ops nums.length strs.length
        rcases h2 with h2 | ⟨h2, h3⟩
        · rw [h2] at c ⊢
          have : (checkV ops nums.length strs.length).2.2 = 260 := hce.resolve_left c
          rw [if_pos this, if_pos this]
        · rw [h2, h3]
          rfl
end Go.Proofs.YtdkejcadoepnnaaDoor.Pl
