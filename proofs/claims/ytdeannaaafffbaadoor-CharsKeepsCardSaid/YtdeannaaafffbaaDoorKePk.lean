/-
  Plain laws of the chars statements: what 'apart' answers: marks written into lists and behind them are read back. Conditions: at most 2^40 lists of at most 2^40 texts.
-/
import Derived.Test.YtdeannaaafffbaaDoorKePc
import Derived.Test.YtdeannaaafffbaaDoorKeECmx8
set_option linter.unusedSimpArgs false
set_option linter.unusedVariables false
set_option linter.unusedSimpArgs false
namespace Go.Proofs.YtdeannaaafffbaaDoor.Pl
open Go.RowKit Go.Proofs.YtdeannaaafffbaaDoorW.PrintWords Go.Proofs.YtdeannaaafffbaaDoorW.PrintMore Go.Proofs.YtdeannaaafffbaaDoor.ECd Go.Proofs.YtdeannaaafffbaaDoor.X
/-- The mark of list i at place j. -/
def mk (i j : Nat) : ByteArray := (⟨#[109, 97, 114, 107, 32]⟩ : ByteArray) ++ strOfNums [(i : Int) % 256, ((i : Int) / 256) % 256, (j : Int) % 256, ((j : Int) / 256) % 256, ((j : Int) / 65536) % 256]
theorem mark_eq (i j : Nat) : abacuslaw20_mark.f (i : Int) (j : Int) = some (mk i j) := by
  unfold abacuslaw20_mark.f mk
  rw [Option.bind_some, if_pos (by rw [strOfNums_size]; simp)]
/-- n marks of list i, from place a on. -/
def mks (i a : Nat) : Nat → List ByteArray
  | 0 => []
  | n + 1 => mk i a :: mks i (a + 1) n
theorem mks_len (i : Nat) : ∀ (n a : Nat), (mks i a n).length = n
  | 0, _ => rfl
  | n + 1, a => by rw [mks, List.length_cons, mks_len i n (a + 1)]
theorem mks_snoc (i : Nat) : ∀ (n a : Nat), mks i a n ++ [mk i (a + n)] = mks i a (n + 1)
  | 0, a => rfl
  | n + 1, a => by
    rw [mks, List.cons_append, show a + (n + 1) = a + 1 + n by omega, mks_snoc i n (a + 1)]
    rfl
theorem mks_get (i : Nat) : ∀ (n a j : Nat), j < n → (mks i a n).getD j ByteArray.empty = mk i (a + j)
  | n + 1, a, 0, h => rfl
  | n + 1, a, j + 1, h => by
    rw [mks, List.getD_cons_succ, mks_get i n (a + 1) j (by omega), show a + 1 + j = a + (j + 1) by omega]
theorem rd_mid {D : List (List ByteArray)} {x : List ByteArray} {R : List (List ByteArray)} : rd_L1 (D ++ x :: R) (D.length : Int) = x := by
  unfold rd_L1
  rw [Int.toNat_natCast, List.getD_eq_getElem?_getD, List.getElem?_append_right (Nat.le_refl _), Nat.sub_self]
  rfl
theorem set_mid {α : Type} {D : List α} {x y : α} {R : List α} : (D ++ x :: R).set D.length y = D ++ y :: R := by
  rw [List.set_append_right _ _ (Nat.le_refl _), Nat.sub_self]
  rfl
/-- The lists of these lengths, full of marks; and each with 16 more. -/
def bk (g : Nat) : Nat → List Nat → List (List ByteArray)
  | _, [] => []
  | i, n :: ns => mks i 0 (n + g) :: bk g (i + 1) ns
theorem bk_len (g : Nat) : ∀ (ns : List Nat) (i : Nat), (bk g i ns).length = ns.length
  | [], _ => rfl
  | n :: ns, i => by rw [bk, List.length_cons, List.length_cons, bk_len g ns]
theorem bk_snoc (g : Nat) : ∀ (ns : List Nat) (i n : Nat), bk g i (ns ++ [n]) = bk g i ns ++ [mks (i + ns.length) 0 (n + g)]
  | [], i, n => rfl
  | m :: ns, i, n => by
    rw [List.cons_append, bk, bk_snoc g ns, bk, List.length_cons, show i + 1 + ns.length = i + (ns.length + 1) by omega]
    rfl
theorem bk_mid (g : Nat) (ns : List Nat) (n : Nat) (ms : List Nat) : ∀ i, bk g i (ns ++ n :: ms) = bk g i ns ++ mks (i + ns.length) 0 (n + g) :: bk g (i + ns.length + 1) ms := by
  induction ns with
  | nil => intro i; rfl
  | cons m ns ih =>
    intro i
    rw [List.cons_append, bk, ih, bk, List.length_cons, show i + 1 + ns.length = i + (ns.length + 1) by omega]
    rfl
theorem rd_bk (g : Nat) (ns : List Nat) (n : Nat) (ms : List Nat) : rd_L1 (bk g 0 (ns ++ n :: ms)) (ns.length : Int) = mks ns.length 0 (n + g) := by
  rw [bk_mid, Nat.zero_add]
  have := rd_mid (D := bk g 0 ns) (x := mks ns.length 0 (n + g)) (R := bk g (ns.length + 1) ms)
  rw [bk_len] at this
  exact this
section
variable {r : Bool}
theorem ap_l1 (D : List (List ByteArray)) (R : List (List ByteArray)) (hD : D.length ≤ 1099511627776) (next : ∀ x, Ans (fun k => abacuslaw20_apart.l0 k (D ++ mks D.length 0 x :: R) ((D.length + 1 : Nat) : Int)) r → True) :
    ∀ (B : List ByteArray) (c : Nat), c + B.length ≤ 1099511627776 → Ans (fun k => abacuslaw20_apart.l0 k (D ++ mks D.length 0 (c + B.length) :: R) ((D.length + 1 : Nat) : Int)) r →
    Ans (fun k => abacuslaw20_apart.l1 k (D ++ (mks D.length 0 c ++ B) :: R) (D.length : Int) (c : Int)) r
  | [], c, hc, h => by
    have hw : wrap64 ((D.length : Int) + 1) = ((D.length + 1 : Nat) : Int) := by rw [wrap_id (by omega) (by omega)]; rfl
    refine Ans.succ (h.congr fun k => ?_)
    rw [abacuslaw20_apart.l1, if_pos (by omega), if_pos (by rw [List.length_append, List.length_cons]; omega), rd_mid, List.append_nil, mks_len, if_neg (by omega), hw]
    rfl
  | b :: B, c, hc, h => by
    rw [List.length_cons] at hc
    have hw : wrap64 ((c : Int) + 1) = ((c + 1 : Nat) : Int) := by rw [wrap_id (by omega) (by omega)]; rfl
    have hs := set_mid (D := mks D.length 0 c) (x := b) (y := mk D.length c) (R := B)
    rw [mks_len] at hs
    have hs2 : mks D.length 0 c ++ mk D.length c :: B = mks D.length 0 (c + 1) ++ B := by
      rw [← mks_snoc, Nat.zero_add, List.append_assoc]
      rfl
    refine Ans.succ ((ap_l1 D R hD next B (c + 1) (by omega) (by rw [List.length_cons] at h; rw [show c + 1 + B.length = c + (B.length + 1) by omega]; exact h)).congr fun k => ?_)
    rw [abacuslaw20_apart.l1, if_pos (by omega), if_pos (by rw [List.length_append, List.length_cons]; omega), rd_mid, if_pos (by rw [List.length_append, mks_len, List.length_cons]; omega), mark_eq, Option.bind_some, if_pos (by omega), Int.toNat_natCast, Int.toNat_natCast, hs, hs2, set_mid, hw]
theorem ap_l0 : ∀ (R : List (List ByteArray)) (ns : List Nat), ns.length + R.length ≤ 1099511627776 → (∀ l ∈ R, l.length ≤ 1099511627776) → Ans (fun k => abacuslaw20_apart.l2 k (bk 0 0 (ns ++ R.map (·.length))) [] 0) r →
    Ans (fun k => abacuslaw20_apart.l0 k (bk 0 0 ns ++ R) (ns.length : Int)) r
  | [], ns, hn, hl, h => by
    rw [List.map_nil, List.append_nil] at h
    refine Ans.succ (h.congr fun k => ?_)
    rw [abacuslaw20_apart.l0, List.append_nil, bk_len, if_neg (by omega)]
  | l :: R, ns, hn, hl, h => by
    rw [List.length_cons] at hn
    have hll := hl l (by simp)
    have ih := ap_l0 R (ns ++ [l.length]) (by rw [List.length_append, List.length_singleton]; omega) (fun y hy => hl y (by simp [hy])) (by rw [List.append_assoc]; exact h)
    rw [bk_snoc, List.append_assoc, List.length_append, List.length_singleton, Nat.zero_add] at ih
    have h1 := ap_l1 (r := r) (bk 0 0 ns) R (by rw [bk_len]; omega) (fun _ _ => trivial) l 0 (by omega) (by rw [bk_len, Nat.zero_add]; exact ih)
    rw [bk_len] at h1
    refine Ans.succ (h1.congr fun k => ?_)
    rw [abacuslaw20_apart.l0, if_pos (by rw [List.length_append, bk_len, List.length_cons]; omega)]
    rfl
theorem ap_l3 (X G : List (List ByteArray)) (hG : G.length < 1099511627776) (n : Nat) (hn : n ≤ 1099511627776) : ∀ (d c : Nat), c + d = 16 → Ans (fun k => abacuslaw20_apart.l2 k X (G ++ [mks G.length 0 (n + 16)]) ((G.length + 1 : Nat) : Int)) r →
    Ans (fun k => abacuslaw20_apart.l3 k X G (G.length : Int) (mks G.length 0 (n + c)) (c : Int)) r
  | 0, c, hc, h => by
    obtain rfl : c = 16 := by omega
    have hw : wrap64 ((G.length : Int) + 1) = ((G.length + 1 : Nat) : Int) := by rw [wrap_id (by omega) (by omega)]; rfl
    refine Ans.succ (h.congr fun k => ?_)
    rw [abacuslaw20_apart.l3, if_neg (by omega), if_pos (by omega), hw]
  | d + 1, c, hc, h => by
    have hw : wrap64 ((c : Int) + 1) = ((c + 1 : Nat) : Int) := by rw [wrap_id (by omega) (by omega)]; rfl
    have hs := mks_snoc G.length (n + c) 0
    rw [Nat.zero_add] at hs
    refine Ans.succ ((ap_l3 X G hG n hn d (c + 1) (by omega) h).congr fun k => ?_)
    rw [abacuslaw20_apart.l3, if_pos (by omega), mks_len, mark_eq, Option.bind_some, if_pos (by omega), hs, hw]
    rfl
theorem ap_l2 : ∀ (ms ns : List Nat), ns.length + ms.length ≤ 1099511627776 → (∀ n ∈ ms, n ≤ 1099511627776) → Ans (fun k => abacuslaw20_apart.l4 k (bk 0 0 (ns ++ ms)) (bk 16 0 (ns ++ ms)) 0) r →
    Ans (fun k => abacuslaw20_apart.l2 k (bk 0 0 (ns ++ ms)) (bk 16 0 ns) (ns.length : Int)) r
  | [], ns, hn, hl, h => by
    rw [List.append_nil] at h ⊢
    refine Ans.succ (h.congr fun k => ?_)
    rw [abacuslaw20_apart.l2, bk_len, if_neg (by omega)]
  | n :: ms, ns, hn, hl, h => by
    rw [List.length_cons] at hn
    have hnn := hl n (by simp)
    have ih := ap_l2 ms (ns ++ [n]) (by rw [List.length_append, List.length_singleton]; omega) (fun y hy => hl y (by simp [hy])) (by rw [List.append_assoc]; exact h)
    rw [bk_snoc, List.append_assoc, List.length_append, List.length_singleton, Nat.zero_add] at ih
    have h3 := ap_l3 (r := r) (bk 0 0 (ns ++ n :: ms)) (bk 16 0 ns) (by rw [bk_len]; omega) n hnn 16 0 rfl (by rw [bk_len]; exact ih)
    rw [bk_len] at h3
    refine Ans.succ (h3.congr fun k => ?_)
    rw [abacuslaw20_apart.l2, if_pos (by rw [bk_len, List.length_append, List.length_cons]; omega), if_pos (by omega), rd_bk]
    rfl
theorem ap_l6 (ns : List Nat) (n : Nat) (ms : List Nat) (hn : n ≤ 1099511627776) (hs : ns.length ≤ 1099511627776) (h : Ans (fun k => abacuslaw20_apart.l4 k (bk 0 0 (ns ++ n :: ms)) (bk 16 0 (ns ++ n :: ms)) ((ns.length + 1 : Nat) : Int)) r) : ∀ (d c : Nat), c + d = n + 16 →
    Ans (fun k => abacuslaw20_apart.l6 k (bk 0 0 (ns ++ n :: ms)) (bk 16 0 (ns ++ n :: ms)) (ns.length : Int) (c : Int)) r
  | 0, c, hc => by
    have hw : wrap64 ((ns.length : Int) + 1) = ((ns.length + 1 : Nat) : Int) := by rw [wrap_id (by omega) (by omega)]; rfl
    refine Ans.succ (h.congr fun k => ?_)
    rw [abacuslaw20_apart.l6, if_pos (by omega), if_pos (by rw [bk_len, List.length_append, List.length_cons]; omega), rd_bk, mks_len, if_neg (by omega), hw]
  | d + 1, c, hc => by
    have hw : wrap64 ((c : Int) + 1) = ((c + 1 : Nat) : Int) := by rw [wrap_id (by omega) (by omega)]; rfl
    have hg := mks_get ns.length (n + 16) 0 c (by omega)
    rw [Nat.zero_add] at hg
    refine Ans.succ ((ap_l6 ns n ms hn hs h d (c + 1) (by omega)).congr fun k => ?_)
    rw [abacuslaw20_apart.l6, if_pos (by omega), if_pos (by rw [bk_len, List.length_append, List.length_cons]; omega), rd_bk, mks_len, if_pos (by omega), if_pos (by omega), mark_eq, Option.bind_some, rdOf, Int.toNat_natCast, hg, if_pos rfl, hw]
theorem ap_l5 (ns : List Nat) (n : Nat) (ms : List Nat) (hn : n ≤ 1099511627776) (hs : ns.length ≤ 1099511627776) (h : Ans (fun k => abacuslaw20_apart.l4 k (bk 0 0 (ns ++ n :: ms)) (bk 16 0 (ns ++ n :: ms)) ((ns.length + 1 : Nat) : Int)) r) : ∀ (d c : Nat), c + d = n →
    Ans (fun k => abacuslaw20_apart.l5 k (bk 0 0 (ns ++ n :: ms)) (bk 16 0 (ns ++ n :: ms)) (ns.length : Int) (c : Int)) r
  | 0, c, hc => by
    have h6 := ap_l6 (r := r) ns n ms hn hs h (n + 16) 0 (by omega)
    refine Ans.succ (h6.congr fun k => ?_)
    rw [abacuslaw20_apart.l5, if_pos (by omega), if_pos (by rw [bk_len, List.length_append, List.length_cons]; omega), rd_bk, mks_len, if_neg (by omega)]
    rfl
  | d + 1, c, hc => by
    have hw : wrap64 ((c : Int) + 1) = ((c + 1 : Nat) : Int) := by rw [wrap_id (by omega) (by omega)]; rfl
    have hg := mks_get ns.length (n + 0) 0 c (by omega)
    rw [Nat.zero_add] at hg
    refine Ans.succ ((ap_l5 ns n ms hn hs h d (c + 1) (by omega)).congr fun k => ?_)
    rw [abacuslaw20_apart.l5, if_pos (by omega), if_pos (by rw [bk_len, List.length_append, List.length_cons]; omega), rd_bk, mks_len, if_pos (by omega), if_pos (by omega), mark_eq, Option.bind_some, rdOf, Int.toNat_natCast, hg, if_pos rfl, hw]
end
theorem ap_l4 : ∀ (ms ns : List Nat), ns.length + ms.length ≤ 1099511627776 → (∀ n ∈ ms, n ≤ 1099511627776) → Ans (fun k => abacuslaw20_apart.l4 k (bk 0 0 (ns ++ ms)) (bk 16 0 (ns ++ ms)) (ns.length : Int)) true
  | [], ns, hn, hl => by
    refine Ans.succ (Ans.of fun k => ?_)
    rw [abacuslaw20_apart.l4, bk_len, List.append_nil, if_neg (by omega)]
  | n :: ms, ns, hn, hl => by
    rw [List.length_cons] at hn
    have ih := ap_l4 ms (ns ++ [n]) (by rw [List.length_append, List.length_singleton]; omega) (fun y hy => hl y (by simp [hy]))
    rw [List.append_assoc, List.length_append, List.length_singleton] at ih
    have h5 := ap_l5 ns n ms (hl n (by simp)) (by omega) ih n 0 (by omega)
    refine Ans.succ (h5.congr fun k => ?_)
    rw [abacuslaw20_apart.l4, if_pos (by rw [bk_len, List.length_append, List.length_cons]; omega)]
    rfl
/-- apart of any lists. -/
theorem apart_t (L : List (List ByteArray)) (hL : L.length ≤ 1099511627776) (hl : ∀ l ∈ L, l.length ≤ 1099511627776) : Ans (fun k => abacuslaw20_apart.f k L) true := by
  have hm : ∀ n ∈ L.map (·.length), n ≤ 1099511627776 := by
    intro n hn
    obtain ⟨l, h1, rfl⟩ := List.mem_map.1 hn
    exact hl l h1
  have h4 := ap_l4 (L.map (·.length)) [] (by rw [List.length_map, List.length_nil]; omega) hm
  have h2 := ap_l2 (r := true) (L.map (·.length)) [] (by rw [List.length_map, List.length_nil]; omega) hm h4
  have h0 := ap_l0 (r := true) L [] (by rw [List.length_nil]; omega) hl h2
  exact h0
end Go.Proofs.YtdeannaaafffbaaDoor.Pl
