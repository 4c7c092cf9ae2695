/-
  Plain laws of DirectiveSingle: what Single answers. Conditions: those in the statements.
-/
import Derived.Test.YtlmijjekaelhcaaDoorSiPf
import Derived.Test.YtlmijjekaelhcaaDoorSiEDmx32
set_option linter.unusedVariables false
set_option linter.unusedSimpArgs false
namespace Go.Proofs.YtlmijjekaelhcaaDoor.Pl
open Go.RowKit Go.Proofs.YtlmijjekaelhcaaDoorW.PrintWords Go.Proofs.YtlmijjekaelhcaaDoor.EDi Go.Proofs.YtlmijjekaelhcaaDoor.X
def NA : ByteArray × Int × Int × Int × Int × ByteArray × Bool := ((⟨#[]⟩ : ByteArray), 0, 0, 0, 0, (⟨#[]⟩ : ByteArray), false)
def up1 (seen : Int) (a u : List UInt8) : List UInt8 := if seen = 0 then a ++ u else a
def up2 (seen : Int) (b u : List UInt8) : List UInt8 := if seen = 0 then b else b ++ u
theorem up1_up (seen : Int) (a u v : List UInt8) : up1 seen (up1 seen a u) v = up1 seen a (u ++ v) := by
  unfold up1
  split <;> simp
theorem up2_up (seen : Int) (a u v : List UInt8) : up2 seen (up2 seen a u) v = up2 seen a (u ++ v) := by
  unfold up2
  split <;> simp
theorem up_nil (seen : Int) (a : List UInt8) : up1 seen a [] = a ∧ up2 seen a [] = a := by
  unfold up1 up2
  constructor <;> split <;> simp
theorem up_len (seen : Int) (a b u : List UInt8) : (up1 seen a u).length + (up2 seen b u).length = a.length + b.length + u.length := by
  unfold up1 up2
  split <;> simp only [List.length_append] <;> omega
theorem side_law {seen : Int} (hs : seen = 0 ∨ seen = 1) (a b u : List UInt8) (hl : a.length + b.length + u.length ≤ 140737488355328) :
    xSide.f ⟨a.toArray⟩ ⟨b.toArray⟩ seen ⟨u.toArray⟩ = some (⟨(up1 seen a u).toArray⟩, ⟨(up2 seen b u).toArray⟩) := by
  unfold xSide.f up1 up2
  rcases hs with rfl | rfl
  · rw [if_pos rfl, if_pos rfl, if_pos rfl, if_pos (by rw [ba_size, ba_size]; omega), ba_app]
  · have hfit : (⟨b.toArray⟩ : ByteArray).size + (⟨u.toArray⟩ : ByteArray).size ≤ 140737488355328 := by
      rw [ba_size, ba_size]
      omega
    simp only [if_neg (show ¬ (1 : Int) = 0 by decide), if_true, if_pos hfit, ba_app]
theorem drop_cons {L : List S25} {q : S25} {m : List S25} {i : Int} (h0 : 0 ≤ i) (h : L.drop i.toNat = q :: m) : i < (L.length : Int) ∧ rd_T25 L i = q ∧ L.drop (i + 1).toNat = m := by
  have hi : i < (L.length : Int) := by
    have := congrArg List.length h
    rw [List.length_drop, List.length_cons] at this
    omega
  have hd := rd_drop h0 hi
  rw [h] at hd
  injection hd with h1 h2
  exact ⟨hi, h1.symm, h2.symm⟩
theorem seg_run (L : List S25) (hL : L.length ≤ 1099511627776) (seen : Int) (hs : seen = 0 ∨ seen = 1) (s0 s1 s2 s3 : Int) (r : ByteArray × Int × Int × Int × Int × ByteArray × Bool) : ∀ (seg : List S25) (i : Int) (a b : List UInt8) (m : List S25), 0 ≤ i → L.drop i.toNat = seg ++ m → (∀ q ∈ seg, TP q) →
    a.length + b.length + (uL seg).length ≤ 140737488355328 →
    Ans (fun k => directive_Single.l0 k ⟨(up1 seen a (uL seg)).toArray⟩ seen L (L.length : Int) (i + seg.length) ⟨(up2 seen b (uL seg)).toArray⟩ s0 s1 s2 s3) r →
    Ans (fun k => directive_Single.l0 k ⟨a.toArray⟩ seen L (L.length : Int) i ⟨b.toArray⟩ s0 s1 s2 s3) r
  | [], i, a, b, m, h0, hd, ht, hl, h => by
    have e : uL ([] : List S25) = [] := rfl
    rw [e, (up_nil seen a).1, (up_nil seen b).2] at h
    simpa using h
  | q :: seg, i, a, b, m, h0, hd, ht, hl, h => by
    obtain ⟨hi, hq, hd'⟩ := drop_cons h0 hd
    have eu : uL (q :: seg) = uq q ++ uL seg := rfl
    rw [eu, List.length_append] at hl
    have hw : wrap64 (i + 1) = i + 1 := wrap_id (by omega) (by omega)
    have hn : Ans (fun k => directive_Single.l0 k ⟨(up1 seen a (uq q)).toArray⟩ seen L (L.length : Int) (i + 1) ⟨(up2 seen b (uq q)).toArray⟩ s0 s1 s2 s3) r := by
      refine seg_run L hL seen hs s0 s1 s2 s3 r seg (i + 1) _ _ m (by omega) hd' (fun x hx => ht x (by simp [hx])) (by have := up_len seen a b (uq q); omega) ?_
      rw [up1_up, up2_up, ← eu, show i + 1 + (seg.length : Int) = i + ((q :: seg).length : Int) by rw [List.length_cons]; omega]
      exact h
    refine Ans.succ ?_
    simp only [directive_Single.l0, if_pos hi, if_pos h0, hq]
    refine Ans.succ ?_
    have hsd := side_law hs a b (uq q) (by omega)
    rcases ht q (by simp) with h1 | h1
    · have e37 : q.f1 = 37 := by rw [h1]
      have euq : (⟨(uq q).toArray⟩ : ByteArray) = ⟨#[37]⟩ := by
        unfold uq
        rw [if_pos e37]
      rw [euq] at hsd
      simp only [e37, if_neg (show ¬ (37 : Int) = 0 by decide), directive_Single.j1, beq_self_eq_true, if_true, hsd, Option.bind_some, hw]
      exact hn
    · have e0 : q.f1 = 0 := h1.2.1
      have euq : (⟨(uq q).toArray⟩ : ByteArray) = q.f0 := by
        unfold uq
        rw [if_neg (by rw [e0]; decide)]
      rw [euq] at hsd
      simp only [e0, if_true, directive_Single.j1, if_neg (show ¬ (0 : Int) = 37 by decide), hsd, Option.bind_some, hw]
      exact hn
def Point (v : Int) : Prop := v = 101 ∨ v = 69 ∨ v = 102 ∨ v = 70 ∨ v = 103 ∨ v = 71
theorem point_yes {v : Int} (h : Point v) : ∃ j, xIndexByte.f (⟨#[101, 69, 102, 70, 103, 71]⟩ : ByteArray) v = some j ∧ ¬ j < 0 := by
  rcases h with rfl | rfl | rfl | rfl | rfl | rfl
  all_goals exact ⟨_, rfl, by decide⟩
theorem point_no {v : Int} (hv : 0 ≤ v ∧ v ≤ 255) (h : ¬ Point v) : ∃ j, xIndexByte.f (⟨#[101, 69, 102, 70, 103, 71]⟩ : ByteArray) v = some j ∧ j < 0 := by
  refine ⟨_, rfl, ?_⟩
  by_cases hx : 0 ≤ Lib.indexByte [101, 69, 102, 70, 103, 71] v.toNat.toUInt8
  · obtain ⟨a, r, e, _, _⟩ := ix_pos _ _ hx
    have hm : v.toNat.toUInt8 ∈ ([101, 69, 102, 70, 103, 71] : List UInt8) := by rw [e]; simp
    have key : ∀ c : UInt8, v.toNat.toUInt8 = c → v = (c.toNat : Int) := by
      intro c hc
      rw [← hc]
      simp
      omega
    simp only [List.mem_cons, List.not_mem_nil, or_false] at hm
    refine absurd ?_ h
    rcases hm with hm | hm | hm | hm | hm | hm
    · exact .inl (key _ hm)
    · exact .inr (.inl (key _ hm))
    · exact .inr (.inr (.inl (key _ hm)))
    · exact .inr (.inr (.inr (.inl (key _ hm))))
    · exact .inr (.inr (.inr (.inr (.inl (key _ hm)))))
    · exact .inr (.inr (.inr (.inr (.inr (key _ hm)))))
  · show Lib.indexByte [101, 69, 102, 70, 103, 71] _ < 0
    omega
/-- A directive that ends the search. -/
theorem dir_na (L : List S25) (seen : Int) (a b : ByteArray) (s0 s1 s2 s3 : Int) {i : Int} {p : S25} {m : List S25} (h0 : 0 ≤ i) (hd : L.drop i.toNat = p :: m) (hp : Dir p) (hv : 0 ≤ p.f1 ∧ p.f1 ≤ 255)
    (h : seen = 1 ∨ ¬ Point p.f1 ∨ p.f3 = 2 ∨ p.f5 = 2) : Ans (fun k => directive_Single.l0 k a seen L (L.length : Int) i b s0 s1 s2 s3) NA := by
  obtain ⟨hi, hq, _⟩ := drop_cons h0 hd
  have e0 : ¬ p.f1 = 0 := hp.2.1
  have e37 : ¬ p.f1 = 37 := inF_not37 hp
  have eb : (p.f1 == 37) = false := beq_eq_false_iff_ne.2 e37
  refine Ans.succ (Ans.succ ?_)
  simp only [directive_Single.l0, if_pos hi, if_pos h0, hq, if_neg e0, eb, directive_Single.j1, Bool.false_eq_true, if_false]
  by_cases h1 : seen = 1
  · simp only [if_pos h1]
    exact Ans.ret _
  · simp only [if_neg h1]
    by_cases h2 : Point p.f1
    · obtain ⟨j, hj, hn⟩ := point_yes h2
      simp only [hj, Option.bind_some, if_neg hn]
      by_cases h3 : p.f3 = 2
      · simp only [if_pos h3]
        exact Ans.ret _
      · simp only [if_neg h3]
        have h5 : p.f5 = 2 := by
          rcases h with h | h | h | h
          · exact absurd h h1
          · exact absurd h2 h
          · exact absurd h h3
          · exact h
        simp only [if_pos h5]
        exact Ans.ret _
    · obtain ⟨j, hj, hn⟩ := point_no hv h2
      simp only [hj, Option.bind_some, if_pos hn]
      exact Ans.ret _
theorem settle_good {p : S25} (hp : Dir p) (h3 : p.f3 ≠ 2) (h5 : p.f5 ≠ 2) : ∃ W P, Ans (fun k => directive_Settle.f k p.f0 p.f1 p.f2 p.f3 p.f4 p.f5 p.f6 0 0) (p.f1, p.f2, W, P, 0) := by
  refine ⟨p.f4, setP p.f5 p.f6 0, ?_⟩
  have hw := cnt_range hp.2.2.2.2.1 (by decide)
  have hpr := cnt_range hp.2.2.2.2.2 (by decide)
  have hP : setP p.f5 p.f6 0 ≤ 4096 := by
    unfold setP
    rw [if_neg h5]
    split <;> omega
  have e : settled p.f1 p.f2 (setW p.f3 p.f4 0) (setP p.f5 p.f6 0) = (p.f1, p.f2, p.f4, setP p.f5 p.f6 0, 0) := by
    unfold settled setW
    rw [if_neg h3, if_neg (by omega), if_neg (by omega)]
  refine Ans.succ (Ans.succ (Ans.succ (Ans.of fun k => ?_)))
  rw [← e]
  exact settle_yes hp k 0 0
/-- The directive. -/
theorem dir_good (L : List S25) (a b : ByteArray) (s0 s1 s2 s3 : Int) {i : Int} {p : S25} {m : List S25} (h0 : 0 ≤ i) (hL : L.length ≤ 1099511627776) (hd : L.drop i.toNat = p :: m) (hp : Dir p) (h1 : Point p.f1) (h3 : p.f3 ≠ 2) (h5 : p.f5 ≠ 2) (W P : Int)
    (hs : Ans (fun k => directive_Settle.f k p.f0 p.f1 p.f2 p.f3 p.f4 p.f5 p.f6 0 0) (p.f1, p.f2, W, P, 0)) (r : ByteArray × Int × Int × Int × Int × ByteArray × Bool)
    (h : Ans (fun k => directive_Single.l0 k a 1 L (L.length : Int) (i + 1) b p.f1 p.f2 W P) r) : Ans (fun k => directive_Single.l0 k a 0 L (L.length : Int) i b s0 s1 s2 s3) r := by
  obtain ⟨hi, hq, _⟩ := drop_cons h0 hd
  have e0 : ¬ p.f1 = 0 := hp.2.1
  have e37 : ¬ p.f1 = 37 := inF_not37 hp
  have eb : (p.f1 == 37) = false := beq_eq_false_iff_ne.2 e37
  obtain ⟨j, hj, hn⟩ := point_yes h1
  have hw : wrap64 (i + 1) = i + 1 := wrap_id (by omega) (by omega)
  have hw1 : wrap64 ((0 : Int) + 1) = 1 := wrap_id (by omega) (by omega)
  refine Ans.succ (Ans.succ ?_)
  simp only [directive_Single.l0, if_pos hi, if_pos h0, hq, if_neg e0, eb, directive_Single.j1, Bool.false_eq_true, if_false, if_neg (show ¬ (0 : Int) = 1 by decide), hj, Option.bind_some, if_neg hn, if_neg h3, if_neg h5, hw, hw1]
  refine Ans.bind hs ?_
  exact h
theorem end_na (L : List S25) (a b : ByteArray) (s0 s1 s2 s3 : Int) {i : Int} (hi : i = (L.length : Int)) : Ans (fun k => directive_Single.l0 k a 0 L (L.length : Int) i b s0 s1 s2 s3) NA := by
  refine Ans.succ ?_
  simp only [directive_Single.l0, if_neg (show ¬ i < (L.length : Int) by omega), if_true]
  exact Ans.ret _
theorem end_ok (L : List S25) (a b : ByteArray) (s0 s1 s2 s3 : Int) {i : Int} (hi : i = (L.length : Int)) : Ans (fun k => directive_Single.l0 k a 1 L (L.length : Int) i b s0 s1 s2 s3) (a, s0, s1, s2, s3, b, true) := by
  refine Ans.succ ?_
  simp only [directive_Single.l0, if_neg (show ¬ i < (L.length : Int) by omega), if_neg (show ¬ (1 : Int) = 0 by decide)]
  exact Ans.ret _
theorem single_of {T : List UInt8} {L : List S25} (hT : T.length ≤ 1099511627776) (hp : parse T = (L, 0, 0)) (r : ByteArray × Int × Int × Int × Int × ByteArray × Bool)
    (h : Ans (fun k => directive_Single.l0 k ⟨([] : List UInt8).toArray⟩ 0 L (L.length : Int) 0 ⟨([] : List UInt8).toArray⟩ 0 0 0 0) r) : Ans (fun k => directive_Single.f k ⟨T.toArray⟩) r := by
  unfold directive_Single.f
  have hpa := parse_ans (T := ⟨T.toArray⟩) (by rw [ba_size]; omega)
  have e1 : (⟨T.toArray⟩ : ByteArray).data.toList = T := rfl
  rw [e1, hp] at hpa
  refine Ans.bind hpa ?_
  simp only [if_true]
  exact h
/-- No directive. -/
theorem single_none (x : List UInt8) (hx : x.length ≤ 16777216) : Ans (fun k => directive_Single.f k ⟨(esc x).toArray⟩) NA := by
  have h1 := esc_len x
  have h2 := cutA_len x []
  rw [List.length_nil] at h2
  refine single_of (by omega) (parse_esc x) NA ?_
  refine seg_run _ (by omega) 0 (.inl rfl) 0 0 0 0 NA (cutA [] x) 0 [] [] [] (by omega) (by simp) (cut_tp x) (by rw [uL_cut]; simp; omega) ?_
  exact end_na _ _ _ _ _ _ _ (by omega)
def Good (p : S25) : Prop := Dir p ∧ Point p.f1 ∧ p.f3 ≠ 2 ∧ p.f5 ≠ 2
theorem dir_head (x : List UInt8) (p : S25) (m : List S25) : (cutA [] x ++ p :: m).drop ((0 : Int) + ((cutA [] x).length : Int)).toNat = p :: m := by
  rw [show ((0 : Int) + ((cutA [] x).length : Int)).toNat = (cutA [] x).length by omega, List.drop_left]
/-- A directive that is none of these. -/
theorem single_bad (x : List UInt8) (hx : x.length ≤ 16777216) (p : S25) (hp : Dir p) (hr : Rng p) (m : List S25) (hm : ∀ q ∈ m, TP q) (ha : Adj m) (hT : (cat (cutA [] x ++ p :: m)).length ≤ 1099511627776) (hL : (cutA [] x ++ p :: m).length ≤ 1099511627776)
    (h : ¬ Good p) : Ans (fun k => directive_Single.f k ⟨(cat (cutA [] x ++ p :: m)).toArray⟩) NA := by
  refine single_of hT (parse_cat (fun q hq => ?_) (fun q hq => ?_) (adj_mid (adj_cutA x []) ha hp.2.1)) NA ?_
  · rcases List.mem_append.1 hq with hq | hq
    · exact tp_ok (cut_tp x q hq)
    · rcases List.mem_cons.1 hq with rfl | hq
      · exact .inl hp
      · exact tp_ok (hm q hq)
  · rcases List.mem_append.1 hq with hq | hq
    · exact tp_rng (cut_tp x q hq)
    · rcases List.mem_cons.1 hq with rfl | hq
      · exact hr
      · exact tp_rng (hm q hq)
  · refine seg_run _ hL 0 (.inl rfl) 0 0 0 0 NA (cutA [] x) 0 [] [] (p :: m) (by omega) (by simp) (cut_tp x) (by rw [uL_cut]; simp; omega) ?_
    refine dir_na _ 0 _ _ 0 0 0 0 (by omega) (dir_head x p m) hp hr.1 (.inr ?_)
    by_cases h1 : Point p.f1
    · by_cases h3 : p.f3 = 2
      · exact .inr (.inl h3)
      · by_cases h5 : p.f5 = 2
        · exact .inr (.inr h5)
        · exact absurd ⟨hp, h1, h3, h5⟩ h
    · exact .inl h1
theorem single_good (x y : List UInt8) (hx : x.length ≤ 16777216) (hy : y.length ≤ 16777216) (p : S25) (hg : Good p) (hr : Rng p) (hT : (cat (cutA [] x ++ p :: cutA [] y)).length ≤ 1099511627776) (W P : Int)
    (hs : Ans (fun k => directive_Settle.f k p.f0 p.f1 p.f2 p.f3 p.f4 p.f5 p.f6 0 0) (p.f1, p.f2, W, P, 0)) :
    Ans (fun k => directive_Single.f k ⟨(cat (cutA [] x ++ p :: cutA [] y)).toArray⟩) (⟨x.toArray⟩, p.f1, p.f2, W, P, ⟨y.toArray⟩, true) := by
  obtain ⟨hp, h1, h3, h5⟩ := hg
  have l1 := cutA_len x []
  have l2 := cutA_len y []
  rw [List.length_nil] at l1 l2
  have hL : (cutA [] x ++ p :: cutA [] y).length ≤ 1099511627776 := by
    rw [List.length_append, List.length_cons]
    omega
  refine single_of hT (parse_cat (fun q hq => ?_) (fun q hq => ?_) (adj_mid (adj_cutA x []) (adj_cutA y []) hp.2.1)) _ ?_
  · rcases List.mem_append.1 hq with hq | hq
    · exact tp_ok (cut_tp x q hq)
    · rcases List.mem_cons.1 hq with rfl | hq
      · exact .inl hp
      · exact tp_ok (cut_tp y q hq)
  · rcases List.mem_append.1 hq with hq | hq
    · exact tp_rng (cut_tp x q hq)
    · rcases List.mem_cons.1 hq with rfl | hq
      · exact hr
      · exact tp_rng (cut_tp y q hq)
  · refine seg_run _ hL 0 (.inl rfl) 0 0 0 0 _ (cutA [] x) 0 [] [] (p :: cutA [] y) (by omega) (by simp) (cut_tp x) (by rw [uL_cut]; simp; omega) ?_
    refine dir_good _ _ _ 0 0 0 0 (by omega) hL (dir_head x p _) hp h1 h3 h5 W P hs _ ?_
    have hd2 := (drop_cons (by omega) (dir_head x p (cutA [] y))).2.2
    rw [uL_cut]
    refine seg_run _ hL 1 (.inr rfl) _ _ _ _ _ (cutA [] y) _ _ _ [] (by omega) (by rw [hd2]; simp) (cut_tp y) ?_ ?_
    · rw [uL_cut]
      have := up_len 0 [] [] x
      simp only [List.length_nil] at this
      omega
    · rw [uL_cut]
      have e1 : up1 1 (up1 0 [] x) y = x := by simp [up1]
      have e2 : up2 1 (up2 0 [] x) y = y := by simp [up2]
      rw [e1, e2]
      exact end_ok _ _ _ _ _ _ _ (by rw [List.length_append, List.length_cons]; omega)
theorem single_two (x y z : List UInt8) (hx : x.length ≤ 16777216) (hy : y.length ≤ 16777216) (hz : z.length ≤ 16777216) (p : S25) (hg : Good p) (hr : Rng p) (hT : (cat (cutA [] x ++ p :: (cutA [] y ++ p :: cutA [] z))).length ≤ 1099511627776) :
    Ans (fun k => directive_Single.f k ⟨(cat (cutA [] x ++ p :: (cutA [] y ++ p :: cutA [] z))).toArray⟩) NA := by
  obtain ⟨hp, h1, h3, h5⟩ := hg
  obtain ⟨W, P, hs⟩ := settle_good hp h3 h5
  have l1 := cutA_len x []
  have l2 := cutA_len y []
  have l3 := cutA_len z []
  rw [List.length_nil] at l1 l2 l3
  have hL : (cutA [] x ++ p :: (cutA [] y ++ p :: cutA [] z)).length ≤ 1099511627776 := by
    rw [List.length_append, List.length_cons, List.length_append, List.length_cons]
    omega
  refine single_of hT (parse_cat (fun q hq => ?_) (fun q hq => ?_) (adj_mid (adj_cutA x []) (adj_mid (adj_cutA y []) (adj_cutA z []) hp.2.1) hp.2.1)) _ ?_
  · rcases List.mem_append.1 hq with hq | hq
    · exact tp_ok (cut_tp x q hq)
    · rcases List.mem_cons.1 hq with rfl | hq
      · exact .inl hp
      · rcases List.mem_append.1 hq with hq | hq
        · exact tp_ok (cut_tp y q hq)
        · rcases List.mem_cons.1 hq with rfl | hq
          · exact .inl hp
          · exact tp_ok (cut_tp z q hq)
  · rcases List.mem_append.1 hq with hq | hq
    · exact tp_rng (cut_tp x q hq)
    · rcases List.mem_cons.1 hq with rfl | hq
      · exact hr
      · rcases List.mem_append.1 hq with hq | hq
        · exact tp_rng (cut_tp y q hq)
        · rcases List.mem_cons.1 hq with rfl | hq
          · exact hr
          · exact tp_rng (cut_tp z q hq)
  · refine seg_run _ hL 0 (.inl rfl) 0 0 0 0 _ (cutA [] x) 0 [] [] (p :: (cutA [] y ++ p :: cutA [] z)) (by omega) (by simp) (cut_tp x) (by rw [uL_cut]; simp; omega) ?_
    refine dir_good _ _ _ 0 0 0 0 (by omega) hL (dir_head x p _) hp h1 h3 h5 W P hs _ ?_
    have hd2 := (drop_cons (by omega) (dir_head x p (cutA [] y ++ p :: cutA [] z))).2.2
    rw [uL_cut]
    refine seg_run _ hL 1 (.inr rfl) _ _ _ _ _ (cutA [] y) _ _ _ (p :: cutA [] z) (by omega) (by rw [hd2]) (cut_tp y) ?_ ?_
    · rw [uL_cut]
      have := up_len 0 [] [] x
      simp only [List.length_nil] at this
      omega
    · refine dir_na _ 1 _ _ _ _ _ _ (p := p) (m := cutA [] z) (by omega) ?_ hp hr.1 (.inl rfl)
      rw [show ((0 : Int) + ((cutA [] x).length : Int) + 1 + ((cutA [] y).length : Int)).toNat = ((0 : Int) + ((cutA [] x).length : Int) + 1).toNat + (cutA [] y).length by omega, ← List.drop_drop, hd2, List.drop_left]
end Go.Proofs.YtlmijjekaelhcaaDoor.Pl
