/-
  Plain laws of the chars statements: CharsKeeps. Conditions: texts and lists below the sizes named in the statement.
-/
import Derived.Test.YtdeannaaafffbaaDoorKePk
import Derived.Test.YtdeannaaafffbaaDoorKeECmx9
set_option linter.unusedSimpArgs false
set_option linter.unusedVariables false
set_option linter.unusedSimpArgs false
namespace Go.Proofs.YtdeannaaafffbaaDoor.Pl
open Go.RowKit Go.Proofs.YtdeannaaafffbaaDoorW.PrintWords Go.Proofs.YtdeannaaafffbaaDoorW.PrintMore Go.Proofs.YtdeannaaafffbaaDoor.ECd Go.Proofs.YtdeannaaafffbaaDoor.X
/-- Split, whatever the separator's length. -/
theorem split_all (s o : ByteArray) (hs : s.size ≤ 1048576) : Ans (fun k => chars_Split.f k s o) (splitV s o) := by
  have h2 := size_l s
  have h3 := size_l o
  unfold chars_Split.f splitV
  simp only [Go.ByteArray.toList_eq]
  by_cases c1 : s.data.toList = []
  · simp only [if_pos c1]
    exact Ans.ret _
  · simp only [if_neg c1]
    by_cases c2 : o.data.toList = [32]
    · simp only [if_pos c2]
      refine Ans.bind (words_t s hs) ?_
      exact Ans.ret _
    · simp only [if_neg c2]
      by_cases c3 : o.data.toList = []
      · simp only [if_pos c3, if_pos (show (0 : Int) ≤ (s.size : Int) by omega), Int.toNat_natCast, if_pos (show s.size ≤ 17592186044416 by omega), Option.bind_some, List.length_replicate]
        exact bytes1 s hs 0 (by omega) (by omega) _ (by simp) (fun j hj => by omega)
      · have hol : 0 < o.size := by rw [← h3]; exact List.length_pos_iff.2 c3
        have hx : xSplit.f s o = some (parts s o (Lib.count s.data.toList o.data.toList) 0) := by
          unfold xSplit.f
          rw [if_pos ⟨by omega, by omega⟩]
          congr 1
          exact splitB_parts s o hol _ 0 s (by omega) (by simp) (by simp)
        simp only [if_neg c3, hx, Option.bind_some]
        exact Ans.ret _
theorem Ans.via {α β : Type} {a : Nat → Option α} {x : α} {g b : Nat → Option β} {r : β} (ha : Ans a x) (hb : Ans b r) (h : ∀ k, a k = Option.some x → g k = b k) : Ans g r := by
  obtain ⟨n, hn⟩ := ha
  obtain ⟨m, hm⟩ := hb
  exact ⟨max n m, fun k hk => (h k (hn k (by omega))).trans (hm k (by omega))⟩
/-- Each list twice. -/
def dbl : List (List ByteArray) → List (List ByteArray)
  | [] => []
  | l :: r => l :: l :: dbl r
theorem dbl_app : ∀ a b, dbl (a ++ b) = dbl a ++ dbl b
  | [], b => rfl
  | l :: a, b => by rw [List.cons_append, dbl, dbl_app a b, dbl]; rfl
theorem dbl_len : ∀ a, (dbl a).length = 2 * a.length
  | [] => rfl
  | l :: a => by rw [dbl, List.length_cons, List.length_cons, dbl_len a, List.length_cons]; omega
theorem dbl_mem : ∀ {a : List (List ByteArray)} {l}, l ∈ dbl a → l ∈ a
  | x :: a, l, h => by
    rw [dbl] at h
    rcases List.mem_cons.1 h with rfl | h
    · simp
    · rcases List.mem_cons.1 h with rfl | h
      · simp
      · exact List.mem_cons_of_mem _ (dbl_mem h)
  | [], l, h => by simp [dbl] at h
def Small (D : List (List ByteArray)) : Prop := D.length ≤ 1000 ∧ ∀ l ∈ D, l.length ≤ 1048580
theorem keep_l3 : ∀ (R D : List (List ByteArray)), Small (D ++ R) → Ans (fun k => abacuslaw20_CharsKeeps.l3 k (dbl (D ++ R)) ((dbl D).length : Int)) true
  | [], D, h => by
    rw [List.append_nil] at h ⊢
    have hl := dbl_len D
    have h1 := h.1
    have hw : wrap64 (((dbl D).length : Int) + 1) = ((dbl D).length : Int) + 1 := wrap_id (by omega) (by omega)
    have ha := apart_t (dbl D) (by omega) (fun l hm => Nat.le_trans (h.2 l (dbl_mem hm)) (by decide))
    refine Ans.succ (Ans.via ha (Ans.ret true) fun k hk => ?_)
    rw [abacuslaw20_CharsKeeps.l3, hw, if_neg (by omega), hk]
    rfl
  | l :: R, D, h => by
    have hl := dbl_len D
    have h1 := h.1
    rw [List.length_append, List.length_cons] at h1
    have ih := keep_l3 R (D ++ [l]) (by rw [List.append_assoc]; exact h)
    rw [List.append_assoc] at ih
    have hlen : (dbl (D ++ l :: R)).length = 2 * D.length + 2 * R.length + 2 := by rw [dbl_len, List.length_append, List.length_cons]; omega
    have hd : dbl (D ++ l :: R) = dbl D ++ l :: l :: dbl R := by rw [dbl_app, dbl]
    have r1 : rd_L1 (dbl (D ++ l :: R)) ((dbl D).length : Int) = l := by rw [hd, rd_mid]
    have r2 : rd_L1 (dbl (D ++ l :: R)) (((dbl D).length : Int) + 1) = l := by
      have := rd_mid (D := dbl D ++ [l]) (x := l) (R := dbl R)
      rw [List.append_assoc, List.length_append, List.length_singleton] at this
      rw [hd]
      exact this
    have hw : wrap64 (((dbl D).length : Int) + 1) = ((dbl D).length : Int) + 1 := wrap_id (by omega) (by omega)
    have hw2 : wrap64 (((dbl D).length : Int) + 2) = ((dbl (D ++ [l])).length : Int) := by
      rw [wrap_id (by omega) (by omega), dbl_len, dbl_len, List.length_append, List.length_singleton]
      omega
    have ha := alike_t l (Nat.le_trans (h.2 l (by simp)) (by decide))
    refine Ans.succ (Ans.via ha ih fun k hk => ?_)
    rw [abacuslaw20_CharsKeeps.l3, hw, if_pos (by omega), if_pos (by omega), if_pos (by omega), if_pos (by omega), r1, r2, hk, Option.bind_some, if_pos rfl, hw2]
    rfl
theorem keep_j6 (D : List (List ByteArray)) (h : Small D) : Ans (fun k => abacuslaw20_CharsKeeps.j6 k (dbl D)) true := by
  have h3 := keep_l3 D [] h
  refine Ans.succ (h3.congr fun k => ?_)
  rw [abacuslaw20_CharsKeeps.j6]
  rfl
def spr : ByteArray := ⟨#[115, 112, 97, 114, 101]⟩
/-- A list and 20 marks behind it. -/
def full (l : List ByteArray) : List ByteArray := l ++ List.replicate 20 spr
theorem full_len (l : List ByteArray) : (full l).length = l.length + 20 := by rw [full, List.length_append, List.length_replicate]
theorem full_at {l A F : List ByteArray} {f : ByteArray} (h : full l = A ++ f :: F) : (A.length < l.length → rdOf ByteArray.empty l (A.length : Int) = f) ∧ (¬ A.length < l.length → f = spr) ∧ rdOf ByteArray.empty (full l) (A.length : Int) = f := by
  have hg : (full l)[A.length]? = some f := by rw [h, List.getElem?_append_right (Nat.le_refl _), Nat.sub_self]; rfl
  refine ⟨fun hl => ?_, fun hl => ?_, ?_⟩
  · rw [full, List.getElem?_append_left hl] at hg
    rw [rdOf, Int.toNat_natCast, List.getD_eq_getElem?_getD, hg]
    rfl
  · rw [full, List.getElem?_append_right (by omega), List.getElem?_replicate] at hg
    split at hg
    · exact (Option.some.inj hg).symm
    · cases hg
  · rw [rdOf, Int.toNat_natCast, List.getD_eq_getElem?_getD, hg]
    rfl
section
variable (l : List S29) (bk4 x5 : Int) (book : List (List ByteArray)) (s t u : ByteArray) (m n : Int) (L : List ByteArray) (q : Int) (hL : L.length ≤ 1048576)
include hL
theorem keep_l2 (hs : s.size ≤ 262144) (hbk : book.length ≤ 1000) (next : Ans (fun k => abacuslaw20_CharsKeeps.l0 k l (book ++ [splitV s t, splitV s t, splitV s ⟨#[32]⟩, splitV s ⟨#[32]⟩, splitV s ⟨#[]⟩, splitV s ⟨#[]⟩]) bk4 (wrap64 (x5 + 1))) true) :
    ∀ (F A : List ByteArray), full L = A ++ F → Ans (fun k => abacuslaw20_CharsKeeps.l2 k l book bk4 x5 (full L) (A.length : Int) s t u m n L q) true
  | [], A, h => by
    have hl := full_len L
    rw [List.append_nil] at h
    have hA : A.length = L.length + 20 := by rw [← hl, h]
    have s1 := split_all s t (by omega)
    have s2 := split_all s ⟨#[32]⟩ (by omega)
    have s3 := split_all s ⟨#[]⟩ (by omega)
    have hc : Ans (fun k => (chars_Split.f k s t).bind fun t191 => ((chars_Split.f k s t).bind fun t194 => ((chars_Split.f k s (⟨#[32]⟩ : ByteArray)).bind fun t197 => ((chars_Split.f k s (⟨#[32]⟩ : ByteArray)).bind fun t200 => ((chars_Split.f k s (⟨#[]⟩ : ByteArray)).bind fun t203 => ((chars_Split.f k s (⟨#[]⟩ : ByteArray)).bind fun t206 => ((some (([t191, t194, t197, t200, t203, t206] : List (List ByteArray)) : List (List ByteArray))).bind fun y209 => (if book.length + y209.length < 5864062014805 then (abacuslaw20_CharsKeeps.l0 k l (book ++ y209) bk4 (wrap64 (x5 + 1))) else (none))))))))) true := by
      refine Ans.bind s1 (Ans.bind s1 (Ans.bind s2 (Ans.bind s2 (Ans.bind s3 (Ans.bind s3 (next.congr fun k => ?_))))))
      rw [Option.bind_some, if_pos (by simp only [List.length_cons, List.length_nil]; omega)]
    refine Ans.succ (hc.congr fun k => ?_)
    rw [abacuslaw20_CharsKeeps.l2, if_neg (by omega)]
  | f :: F, A, h => by
    have hl := full_len L
    have hA : A.length + (F.length + 1) = L.length + 20 := by rw [← hl, h, List.length_append, List.length_cons]
    obtain ⟨f1, f2, f3⟩ := full_at h
    have ih := keep_l2 hs hbk next F (A ++ [f]) (by rw [List.append_assoc]; exact h)
    rw [List.length_append, List.length_singleton] at ih
    have hw : wrap64 ((A.length : Int) + 1) = ((A.length + 1 : Nat) : Int) := by rw [wrap_id (by omega) (by omega)]; rfl
    refine Ans.succ (ih.congr fun k => ?_)
    by_cases hc : A.length < L.length
    · rw [abacuslaw20_CharsKeeps.l2, if_pos (by omega), if_pos (by omega), if_pos (by omega), f3, f1 hc, if_pos rfl, if_neg (by omega), hw]
    · rw [abacuslaw20_CharsKeeps.l2, if_pos (by omega), if_neg (by omega), if_pos (by omega), if_pos (by omega), f3, f2 hc, if_pos (by rw [Go.ByteArray.toList_eq]; rfl), hw]
theorem keep_j4 (hs : s.size ≤ 262144) (hbk : book.length ≤ 1000) (next : Ans (fun k => abacuslaw20_CharsKeeps.l0 k l (book ++ [splitV s t, splitV s t, splitV s ⟨#[32]⟩, splitV s ⟨#[32]⟩, splitV s ⟨#[]⟩, splitV s ⟨#[]⟩]) bk4 (wrap64 (x5 + 1))) true) :
    Ans (fun k => abacuslaw20_CharsKeeps.j4 k l book bk4 x5 (full L) false s t u m n L q) true := by
  have h2 := keep_l2 l bk4 x5 book s t u m n L q hL hs hbk next (full L) [] rfl
  refine Ans.succ (h2.congr fun k => ?_)
  rw [abacuslaw20_CharsKeeps.j4, if_neg (by decide)]
  rfl
theorem keep_l1 (hz : ∀ x ∈ L, x.size ≤ 1152921504606846976) (ht : t.size ≤ 1152921504606846976) (next : Ans (fun k => abacuslaw20_CharsKeeps.j4 k l book bk4 x5 (full L) false s t u m n L q) true) :
    ∀ (F B A : List ByteArray), full L = A ++ F → B.length = F.length → Ans (fun k => abacuslaw20_CharsKeeps.l1 k l book bk4 x5 (A ++ B) (A.length : Int) s t u m n L q) true
  | [], B, A, h, hB => by
    obtain rfl := List.eq_nil_of_length_eq_zero hB
    have hl := full_len L
    rw [List.append_nil] at h
    have hA : A.length = L.length + 20 := by rw [← hl, h]
    have htk : (full L).take L.length = L := by rw [full, List.take_left]
    have j1 := join_t L t (by omega) hz ht
    have j2 := cat_t L (by omega) hz
    rw [List.append_nil, ← h]
    have hc : Ans (fun k => (chars_Join.f k L t).bind fun bt176 => ((chars_Cat.f k L).bind fun bt183 => ((chars_Join.f k L t).bind fun bt185 => (if bt176.1.toList = bt185.1.toList then (if bt176.2 = bt185.2 then (if bt183.2 = 0 then (if t.toList = ([] : List UInt8) then (abacuslaw20_CharsKeeps.j4 k l book bk4 x5 (full L) (bt183.1.toList != bt176.1.toList) s t u m n L q) else (abacuslaw20_CharsKeeps.j4 k l book bk4 x5 (full L) false s t u m n L q)) else (abacuslaw20_CharsKeeps.j4 k l book bk4 x5 (full L) false s t u m n L q)) else (abacuslaw20_CharsKeeps.j4 k l book bk4 x5 (full L) true s t u m n L q)) else (abacuslaw20_CharsKeeps.j4 k l book bk4 x5 (full L) true s t u m n L q))))) true := by
      refine Ans.bind j1 (Ans.bind j2 (Ans.bind j1 (next.congr fun k => ?_)))
      rw [if_pos rfl, if_pos rfl]
      split
      · split
        · rename_i h1 h2
          rw [Go.ByteArray.toList_eq] at h2
          have : t = ⟨#[]⟩ := ba_ext h2
          subst this
          rw [bne_self_eq_false]
        · rfl
      · rfl
    refine Ans.succ (hc.congr fun k => ?_)
    rw [abacuslaw20_CharsKeeps.l1, hl, if_neg (by omega), if_pos (by omega), if_pos (by omega), Int.toNat_natCast, htk]
  | f :: F, [], A, h, hB => by simp at hB
  | f :: F, b :: B, A, h, hB => by
    have hl := full_len L
    have hA : A.length + (F.length + 1) = L.length + 20 := by rw [← hl, h, List.length_append, List.length_cons]
    rw [List.length_cons, List.length_cons] at hB
    obtain ⟨f1, f2, f3⟩ := full_at h
    have ih := keep_l1 hz ht next F B (A ++ [f]) (by rw [List.append_assoc]; exact h) (by omega)
    rw [List.length_append, List.length_singleton, List.append_assoc] at ih
    have hw : wrap64 ((A.length : Int) + 1) = ((A.length + 1 : Nat) : Int) := by rw [wrap_id (by omega) (by omega)]; rfl
    refine Ans.succ (ih.congr fun k => ?_)
    by_cases hc : A.length < L.length
    · rw [abacuslaw20_CharsKeeps.l1, if_pos (by rw [List.length_append, List.length_cons]; omega), if_pos (by omega), Option.bind_some, if_pos (by omega), f1 hc, Int.toNat_natCast, set_mid, set_mid, hw]
      rfl
    · rw [abacuslaw20_CharsKeeps.l1, if_pos (by rw [List.length_append, List.length_cons]; omega), if_pos (by omega), Option.bind_some, if_neg (by omega), Int.toNat_natCast, set_mid, hw]
      obtain rfl := f2 hc
      rfl
end
theorem keep_j2 (l : List S29) (a : S29) (a1 : a.f0.size ≤ 140737488355328) (a2 : a.f1.size ≤ 140737488355328) (a3 : ∀ x ∈ a.f5, x.size ≤ 140737488355328) (b' : Int) (j : Nat) (D : List (List ByteArray)) (hj : j ≤ 8) (hD : D.length = 3 * j) (hs : a.f0.size ≤ 262144) (hL : a.f5.length ≤ 1048576) (hx : ∀ x ∈ D, x.length ≤ 1048580) (h0 : 0 ≤ b') (h1 : b' ≤ 262144)
    (ih : ∀ (D' : List (List ByteArray)) (b'' : Int), D'.length = 3 * (j + 1) → (∀ x ∈ D', x.length ≤ 1048580) → 0 ≤ b'' → b'' ≤ 262144 → Ans (fun k => abacuslaw20_CharsKeeps.l0 k l (dbl D') b'' ((j + 1 : Nat) : Int)) true) :
    Ans (fun k => abacuslaw20_CharsKeeps.j2 k l (dbl D) b' (j : Int) false a.f0 a.f1 a.f2 a.f3 a.f4 a.f5 a.f6) true := by
  have hw : Aside0 (wrap64 ((j : Int) + 1) = ((j + 1 : Nat) : Int)) := ⟨by rw [wrap_id (by omega) (by omega)]; rfl⟩
  have hw2 : Aside0 (wrap64 ((a.f5.length : Int) + 20) = ((a.f5.length + 20 : Nat) : Int)) := ⟨by rw [wrap_id (by omega) (by omega)]; rfl⟩
  have hsp : ∀ o, (splitV a.f0 o).length ≤ 1048580 := fun o => by have := splitV_len a.f0 o; omega
  have nx := ih (D ++ [splitV a.f0 a.f1, splitV a.f0 ⟨#[32]⟩, splitV a.f0 ⟨#[]⟩]) b' (by rw [List.length_append, hD]; rfl)
    (by
      intro x hm
      rcases List.mem_append.1 hm with hm | hm
      · exact hx x hm
      · simp only [List.mem_cons, List.not_mem_nil, or_false] at hm
        rcases hm with rfl | rfl | rfl <;> exact hsp _) h0 h1
  rw [dbl_app, ← hw.out] at nx
  have hdl : (dbl D).length ≤ 1000 := by rw [dbl_len]; omega
  have h4 := keep_j4 l b' (j : Int) (dbl D) a.f0 a.f1 a.f2 a.f3 a.f4 a.f5 a.f6 hL hs hdl nx
  have hz : ∀ x ∈ a.f5, x.size ≤ 1152921504606846976 := fun x hm => Nat.le_trans (a3 x hm) (by decide)
  have ht : a.f1.size ≤ 1152921504606846976 := Nat.le_trans a2 (by decide)
  have h1' := keep_l1 l b' (j : Int) (dbl D) a.f0 a.f1 a.f2 a.f3 a.f4 a.f5 a.f6 hL hz ht h4 (full a.f5) (List.replicate (a.f5.length + 20) ⟨#[]⟩) [] rfl (by rw [List.length_replicate, full_len])
  have e1 : (0 : Int) ≤ ((a.f5.length + 20 : Nat) : Int) := Int.natCast_nonneg _
  have e2 : a.f5.length + 20 ≤ 17592186044416 := by omega
  refine Ans.succ (h1'.congr fun k => ?_)
  rw [abacuslaw20_CharsKeeps.j2, if_neg (by decide), hw2.out, if_pos e1, Int.toNat_natCast, if_pos e2]
  rfl
theorem keeps_const : splitV ⟨#[97, 44, 98]⟩ ⟨#[44]⟩ = [(⟨#[97]⟩ : ByteArray), ⟨#[98]⟩] := by
  unfold splitV
  rw [if_neg (by decide), if_neg (by decide), if_neg (by decide)]
  decide
section
variable (l : List S29) (hl : ∀ a ∈ l, a.f0.size ≤ 140737488355328 ∧ a.f1.size ≤ 140737488355328 ∧ ∀ x ∈ a.f5, x.size ≤ 140737488355328)
include hl
theorem keep_l0 : ∀ (d j : Nat) (D : List (List ByteArray)) (b : Int), j + d = 8 → D.length = 3 * j → (∀ x ∈ D, x.length ≤ 1048580) → 0 ≤ b → b ≤ 262144 → Ans (fun k => abacuslaw20_CharsKeeps.l0 k l (dbl D) b (j : Int)) true := by
  intro d
  induction d with
  | zero =>
    intro j D b hj hD hx h0 h1
    have h6 := keep_j6 D ⟨by omega, hx⟩
    have h7 : Ans (fun k => abacuslaw20_CharsKeeps.j1 k l (dbl D) b (j : Int) false) true := Ans.succ (h6.congr fun k => by rw [abacuslaw20_CharsKeeps.j1, if_neg (by decide)])
    refine Ans.succ (h7.congr fun k => ?_)
    rw [abacuslaw20_CharsKeeps.l0]
    split
    · rw [decide_eq_false (show ¬ (j : Int) < 8 by omega)]
    · rfl
  | succ d ih =>
    intro j D b hj hD hx h0 h1
    have h6 := keep_j6 D ⟨by omega, hx⟩
    by_cases hlt : j < l.length
    · obtain ⟨a1, a2, a3⟩ := hl (rd_T29 l (j : Int)) (by
        unfold rd_T29
        rw [Int.toNat_natCast, List.getD, List.getElem?_eq_getElem hlt]
        exact List.getElem_mem _)
      have hjj : Ans (fun k => abacuslaw20_CharsKeeps.j1 k l (dbl D) b (j : Int) true) true := by
        generalize hb0 : wrap64 (b + ((rd_T29 l (j : Int)).f0.size : Int)) = b'
        have hb' : b' = b + ((rd_T29 l (j : Int)).f0.size : Int) := by rw [← hb0, wrap_id (by clear hb0; omega) (by clear hb0; omega)]
        have hb := Aside0.mk hb0
        clear hb0
        have brk : Ans (fun k => abacuslaw20_CharsKeeps.j2 k l (dbl D) b' (j : Int) true (rd_T29 l (j : Int)).f0 (rd_T29 l (j : Int)).f1 (rd_T29 l (j : Int)).f2 (rd_T29 l (j : Int)).f3 (rd_T29 l (j : Int)).f4 (rd_T29 l (j : Int)).f5 (rd_T29 l (j : Int)).f6) true :=
          Ans.succ (h6.congr fun k => by rw [abacuslaw20_CharsKeeps.j2, if_pos rfl])
        have g1 : 0 ≤ (j : Int) := Int.natCast_nonneg j
        have g2 : (j : Int) < (l.length : Int) := Int.ofNat_lt.2 hlt
        by_cases c1 : b' > 262144
        · refine Ans.succ (brk.congr fun k => ?_)
          rw [abacuslaw20_CharsKeeps.j1, if_pos rfl, if_pos g1, if_pos g2, hb.out, if_pos c1]
        · by_cases c2 : ((rd_T29 l (j : Int)).f5.length : Int) > 1048576
          · refine Ans.succ (brk.congr fun k => ?_)
            rw [abacuslaw20_CharsKeeps.j1, if_pos rfl, if_pos g1, if_pos g2, hb.out, if_neg c1, decide_eq_true c2]
          · have h2' := keep_j2 l (rd_T29 l (j : Int)) a1 a2 a3 b' j D (by omega) (by omega) (by omega) (by omega) hx (by omega) (by omega) (fun D' b'' e1 e2 e3 e4 => ih (j + 1) D' b'' (by omega) e1 e2 e3 e4)
            refine Ans.succ (h2'.congr fun k => ?_)
            rw [abacuslaw20_CharsKeeps.j1, if_pos rfl, if_pos g1, if_pos g2, hb.out, if_neg c1, decide_eq_false c2]
      refine Ans.succ (hjj.congr fun k => ?_)
      rw [abacuslaw20_CharsKeeps.l0, if_pos (by omega), decide_eq_true (show (j : Int) < 8 by omega)]
    · have h7 : Ans (fun k => abacuslaw20_CharsKeeps.j1 k l (dbl D) b (j : Int) false) true := Ans.succ (h6.congr fun k => by rw [abacuslaw20_CharsKeeps.j1, if_neg (by decide)])
      refine Ans.succ (h7.congr fun k => ?_)
      rw [abacuslaw20_CharsKeeps.l0, if_neg (by omega)]
theorem charsKeeps_true : Ans (fun k => abacuslaw20_CharsKeeps.f k l) true := by
  unfold abacuslaw20_CharsKeeps.f
  refine Ans.bind (split_all _ _ (by decide)) ?_
  rw [keeps_const]
  refine Ans.bind (alike_t _ (by decide)) ?_
  simp only [if_true]
  exact keep_l0 l hl 8 0 [] 0 rfl rfl (fun x hm => by simp at hm) (by decide) (by decide)
end
end Go.Proofs.YtdeannaaafffbaaDoor.Pl
