/-
  Plain laws of the code statements: what a line of a listing tells (its place, its instruction), and the law's own numerals. Conditions: numbers from 0 on.
-/
import Derived.Test.YtdkejcadoepnnaaDoorLiPe
import Derived.Test.YtdkejcadoepnnaaDoorLiECcx0
import Derived.Test.YtdkejcadoepnnaaDoorLiECcx22
set_option linter.unusedVariables false
set_option linter.unusedSimpArgs false
namespace Go.Proofs.YtdkejcadoepnnaaDoor.Pl
open Go.RowKit Go.Proofs.YtdkejcadoepnnaaDoorW.PrintWords Go.Proofs.YtdkejcadoepnnaaDoor.ECc Go.Proofs.YtdkejcadoepnnaaDoor.X
theorem bytes_inj {a b : ByteArray} (h : bytesOf a = bytesOf b) : a = b := by
  unfold bytesOf at h
  have h1 : a.data.toList = b.data.toList := List.map_inj_right (fun x y e => by
    have e2 : x.toNat = y.toNat := by omega
    exact UInt8.toNat_inj.mp e2) |>.mp h
  obtain ⟨⟨a⟩⟩ := a
  obtain ⟨⟨b⟩⟩ := b
  simp only at h1
  rw [h1]
theorem bt_bytes (s : ByteArray) (i : Nat) : bt s (i : Int) = (bytesOf s).getD i 0 := by
  have hl := bytesOf_len s
  by_cases h' : i < s.size
  · unfold bt
    rw [dif_pos (by simpa using h'), List.getD_eq_getElem?_getD, List.getElem?_eq_getElem (by omega)]
    simp only [bytesOf, Option.getD_some, List.getElem_map, Int.toNat_natCast]
    rfl
  · unfold bt
    rw [dif_neg (by simpa using h'), List.getD_eq_getElem?_getD, List.getElem?_eq_none (by omega)]
    rfl
theorem bt_son {o : List Int} (ho : ∀ d ∈ o, 0 ≤ d ∧ d < 256) {P R : List Int} {c : Int} (e : o = P ++ c :: R) : bt (strOfNums o) (P.length : Int) = c := by
  rw [bt_bytes, numsBytes o ho, e, List.getD_eq_getElem?_getD, List.getElem?_append_right (Nat.le_refl _), Nat.sub_self]
  rfl
theorem bytes_extract (s : ByteArray) (a b : Nat) : bytesOf (s.extract a b) = ((bytesOf s).take b).drop a := by
  unfold bytesOf
  rw [ByteArray.data_extract, Array.toList_extract, List.extract_eq_take_drop, List.map_take, List.map_drop, List.drop_take]
theorem it_nat (n : Nat) : itL (n : Int) = (Lib.decDigits n).map fun b => (b.toNat : Int) := by
  unfold itL Lib.itoa
  rw [if_neg (by omega), Int.toNat_natCast]
theorem it_small {n : Nat} (h : n < 10) : itL (n : Int) = [48 + (n : Int)] := by
  rw [it_nat, Lib.decDigits, dif_pos h]
  simp
  omega
theorem it_big {n : Nat} (h : ¬ n < 10) : itL (n : Int) = itL ((n / 10 : Nat) : Int) ++ [48 + ((n % 10 : Nat) : Int)] := by
  rw [it_nat, it_nat, Lib.decDigits, dif_neg h, List.map_append]
  congr 1
  simp
  omega
theorem it_digits : ∀ (m n : Nat), n ≤ m → ∀ c ∈ itL (n : Int), 48 ≤ c ∧ c ≤ 57
  | m, n, hm, c, hc => by
    by_cases h : n < 10
    · rw [it_small h, List.mem_singleton] at hc
      omega
    · rw [it_big h, List.mem_append, List.mem_singleton] at hc
      rcases hc with hc | hc
      · match m with
        | 0 => omega
        | m + 1 => exact it_digits m (n / 10) (by omega) c hc
      · omega
def valL (l : List Int) : Int := l.foldl (fun a c => a * 10 + (c - 48)) 0
theorem val_it : ∀ (m n : Nat), n ≤ m → valL (itL (n : Int)) = n
  | m, n, hm => by
    by_cases h : n < 10
    · rw [it_small h]
      unfold valL
      simp
      omega
    · rw [it_big h]
      have ih : valL (itL ((n / 10 : Nat) : Int)) = ((n / 10 : Nat) : Int) := match m with
        | 0 => by omega
        | m + 1 => val_it m (n / 10) (by omega)
      unfold valL at ih ⊢
      rw [List.foldl_append, ih]
      simp
      omega
theorem it_inj {a b : Int} (ha : 0 ≤ a) (hb : 0 ≤ b) (h : itL a = itL b) : a = b := by
  obtain ⟨n, rfl⟩ := Int.eq_ofNat_of_zero_le ha
  obtain ⟨m, rfl⟩ := Int.eq_ofNat_of_zero_le hb
  have h1 := val_it n n (Nat.le_refl _)
  have h2 := val_it m m (Nat.le_refl _)
  rw [h] at h1
  omega
theorem number_l0 : ∀ (m x : Nat) (s : ByteArray), x ≤ m → x ≤ 4294967296 → s.size + m ≤ 8589934592 → ∃ t : ByteArray, bytesOf t = (if x = 0 then [] else itL (x : Int)) ++ bytesOf s ∧ Ans (fun k => abacuslaw26_number.l0 k (x : Int) s) t
  | m, x, s, hm, hx, hs => by
    by_cases h : x = 0
    · subst h
      exact ⟨s, rfl, Ans.succ (Ans.of fun k => by rw [abacuslaw26_number.l0, if_neg (by omega)])⟩
    · match m with
      | 0 => omega
      | m + 1 =>
        have e1 : (wrap64 (48 + (Int.tmod (x : Int) 10))) % 256 = 48 + ((x % 10 : Nat) : Int) := by
          have : Int.tmod (x : Int) 10 = (x : Int) % 10 := Int.tmod_eq_emod_of_nonneg (by omega)
          rw [this, wrap_id (by omega) (by omega)]
          omega
        have e2 : wrap64 (Int.tdiv (x : Int) 10) = ((x / 10 : Nat) : Int) := by
          have : Int.tdiv (x : Int) 10 = (x : Int) / 10 := Int.tdiv_eq_ediv_of_nonneg (by omega)
          rw [this, wrap_id (by omega) (by omega)]
          omega
        have hb : bytesOf (strOfNums [48 + ((x % 10 : Nat) : Int)]) = [48 + ((x % 10 : Nat) : Int)] := numsBytes _ (by simp; omega)
        have hz : (strOfNums [48 + ((x % 10 : Nat) : Int)] ++ s).size = 1 + s.size := by rw [app_size, son_size]; rfl
        obtain ⟨t, ht, ha⟩ := number_l0 m (x / 10) (strOfNums [48 + ((x % 10 : Nat) : Int)] ++ s) (by omega) (by omega) (by rw [hz]; omega)
        refine ⟨t, ?_, Ans.succ (Ans.congr ha fun k => ?_)⟩
        · rw [ht, bytes_app, hb, if_neg h, ← List.append_assoc]
          congr 1
          by_cases d : x < 10
          · rw [if_pos (by omega), it_small d]
            simp
            omega
          · rw [if_neg (by omega), it_big d]
        · rw [abacuslaw26_number.l0, if_pos (by omega), Option.bind_some, e1, e2, if_pos (by rw [son_size]; simp; omega)]
theorem number_ans (n : Nat) (hn : n ≤ 4294967296) : ∃ t : ByteArray, bytesOf t = itL (n : Int) ∧ Ans (fun k => abacuslaw26_number.f k (n : Int)) t := by
  have e1 : (wrap64 (48 + (Int.tmod (n : Int) 10))) % 256 = 48 + ((n % 10 : Nat) : Int) := by
    have : Int.tmod (n : Int) 10 = (n : Int) % 10 := Int.tmod_eq_emod_of_nonneg (by omega)
    rw [this, wrap_id (by omega) (by omega)]
    omega
  have e2 : wrap64 (Int.tdiv (n : Int) 10) = ((n / 10 : Nat) : Int) := by
    have : Int.tdiv (n : Int) 10 = (n : Int) / 10 := Int.tdiv_eq_ediv_of_nonneg (by omega)
    rw [this, wrap_id (by omega) (by omega)]
    omega
  have hb : bytesOf (strOfNums [48 + ((n % 10 : Nat) : Int)]) = [48 + ((n % 10 : Nat) : Int)] := numsBytes _ (by simp; omega)
  obtain ⟨t, ht, ha⟩ := number_l0 (n / 10) (n / 10) (strOfNums [48 + ((n % 10 : Nat) : Int)]) (Nat.le_refl _) (by omega) (by rw [son_size]; simp; omega)
  refine ⟨t, ?_, Ans.congr ha fun k => ?_⟩
  · rw [ht, hb]
    by_cases d : n < 10
    · rw [if_pos (by omega), it_small d]
      simp
      omega
    · rw [if_neg (by omega), it_big d]
  · unfold abacuslaw26_number.f
    rw [e1, e2]
/-- Neither a blank nor a line's end. -/
def Ink (l : List Int) : Prop := ∀ c ∈ l, c ≠ 32 ∧ c ≠ 10
def Stop (l : List Int) : Prop := ∃ c r, l = c :: r ∧ (c = 32 ∨ c = 10)
theorem ink_split : ∀ {A B R S : List Int}, Ink A → Ink B → Stop R → Stop S → A ++ R = B ++ S → A = B ∧ R = S
  | [], [], R, S, _, _, _, _, h => ⟨rfl, h⟩
  | [], b :: B, R, S, hA, hB, ⟨c, r, e, hc⟩, hS, h => by
    subst e
    have : c = b := (List.cons.inj h).1
    have := hB b (by simp)
    omega
  | a :: A, [], R, S, hA, hB, hR, ⟨c, r, e, hc⟩, h => by
    subst e
    have : a = c := (List.cons.inj h).1
    have := hA a (by simp)
    omega
  | a :: A, b :: B, R, S, hA, hB, hR, hS, h => by
    obtain ⟨h1, h2⟩ := List.cons.inj h
    obtain ⟨h3, h4⟩ := ink_split (fun c hc => hA c (by simp [hc])) (fun c hc => hB c (by simp [hc])) hR hS h2
    exact ⟨by rw [h1, h3], h4⟩
theorem ink_it {n : Int} (h : 0 ≤ n) : Ink (itL n) := by
  obtain ⟨m, rfl⟩ := Int.eq_ofNat_of_zero_le h
  intro c hc
  have := it_digits m m (Nat.le_refl _) c hc
  omega
theorem ink_nm (w : Int) : Ink (nmL w) := fun c hc => by
  have := (name_at w).2 c hc
  omega
def nmsL : List (List UInt8) := tabL.map fun p => p.f0.data.toList
def distL : List (List UInt8) → Bool
  | [] => true
  | a :: l => l.all (fun b => a != b) && distL l
set_option maxRecDepth 100000 in
theorem nms_dist : distL nmsL = true := by kernel_rfl
theorem dist_at : ∀ (l : List (List UInt8)), distL l = true → ∀ (i j : Nat) a, l[i]? = some a → l[j]? = some a → i = j
  | [], h, i, j, a, hi, hj => by simp at hi
  | x :: l, h, i, j, a, hi, hj => by
    simp only [distL, Bool.and_eq_true, List.all_eq_true] at h
    cases i with
    | zero =>
      cases j with
      | zero => rfl
      | succ j =>
        simp at hi hj
        subst hi
        have := h.1 x (List.mem_of_getElem? hj)
        simp at this
    | succ i =>
      cases j with
      | zero =>
        simp at hi hj
        subst hj
        have := h.1 x (List.mem_of_getElem? hi)
        simp at this
      | succ j =>
        simp at hi hj
        rw [dist_at l h.2 i j a hi hj]
theorem nm_inj {a b : Int} (ha : 0 ≤ a ∧ a < 34) (hb : 0 ≤ b ∧ b < 34) (h : nmL a = nmL b) : a = b := by
  have h1 := bytes_inj h
  have hat : ∀ w : Int, 0 ≤ w ∧ w < 34 → nmsL[w.toNat]? = some (rowL w).f0.data.toList := by
    intro w hw
    unfold nmsL rowL rd_T72
    have hlt : w.toNat < tabL.length := by rw [tabL_len]; omega
    rw [List.getElem?_map, List.getD_eq_getElem?_getD, List.getElem?_eq_getElem hlt]
    rfl
  have := dist_at nmsL nms_dist a.toNat b.toNat (rowL a).f0.data.toList (hat a ha) (by rw [hat b hb, h1])
  omega
theorem op_nonneg {k x f : Int} (h : opR k x f = true) : 0 ≤ x := by
  unfold opR at h
  by_cases h0 : k = 0
  · rw [if_pos h0] at h
    have := beq_iff_eq.mp h
    omega
  rw [if_neg h0] at h
  by_cases h1 : k = 1 ∨ k = 2
  · rw [if_pos h1] at h; exact of_decide_eq_true h
  rw [if_neg h1] at h
  by_cases h3 : k = 3
  · rw [if_pos h3] at h; exact (of_decide_eq_true h).1
  rw [if_neg h3] at h
  by_cases h4 : k = 4
  · rw [if_pos h4] at h; exact (of_decide_eq_true h).1
  rw [if_neg h4] at h
  by_cases h5 : k = 5
  · rw [if_pos h5] at h; have := of_decide_eq_true h; omega
  rw [if_neg h5] at h
  by_cases h6 : k = 6
  · rw [if_pos h6] at h; have := of_decide_eq_true h; omega
  rw [if_neg h6] at h
  by_cases h7 : k = 7
  · rw [if_pos h7] at h; have := of_decide_eq_true h; omega
  rw [if_neg h7] at h
  by_cases h8 : k = 8
  · rw [if_pos h8] at h; have := of_decide_eq_true h; omega
  rw [if_neg h8] at h
  by_cases h9 : k = 9
  · rw [if_pos h9] at h; have := of_decide_eq_true h; omega
  rw [if_neg h9] at h
  by_cases h10 : k = 10
  · rw [if_pos h10] at h; have := of_decide_eq_true h; omega
  rw [if_neg h10] at h
  by_cases h11 : k = 11
  · rw [if_pos h11] at h
    have h := of_decide_eq_true h
    by_cases e1 : x = 1 ∨ x = 6 ∨ x = 7 ∨ x = 8 ∨ x = 9
    · omega
    by_cases e2 : x = 2
    · omega
    by_cases e3 : x = 3
    · omega
    by_cases e4 : x = 4 ∨ x = 12
    · omega
    unfold arR at h
    rw [if_neg e1, if_neg e2, if_neg e3, if_neg e4] at h
    omega
  rw [if_neg h11] at h
  by_cases h12 : k = 12
  · rw [if_pos h12] at h
    have h := of_decide_eq_true h
    have := arR_le f
    omega
  rw [if_neg h12] at h
  cases h
theorem op_none {k x f : Int} (h : opR k x f = true) (hk : k = 0) : x = 0 := by
  unfold opR at h
  rw [if_pos hk] at h
  exact beq_iff_eq.mp h
theorem ok_parts {x : S41} (h : okI x = true) : opR (rowL x.f0).f1 x.f1 0 = true ∧ opR (rowL x.f0).f2 x.f2 x.f1 = true := by
  simp only [okI, Bool.and_eq_true] at h
  exact h.2
theorem stop_tail (x : S41) (nums : List Int) (strs : List ByteArray) : Stop (tailL x nums strs ++ [10]) := by
  unfold tailL
  split
  · exact ⟨32, _, rfl, .inl rfl⟩
  · split
    · exact ⟨32, _, rfl, .inl rfl⟩
    · exact ⟨10, _, rfl, .inr rfl⟩
theorem stop_arg (k v : Int) {R : List Int} (h : Stop R) : Stop (argL k v ++ R) := by
  unfold argL
  split
  · exact h
  · exact ⟨32, _, rfl, .inl rfl⟩
theorem arg_inj {k v u : Int} {R S : List Int} (hv : 0 ≤ v) (hu : 0 ≤ u) (h0 : k = 0 → v = 0 ∧ u = 0) (hR : Stop R) (hS : Stop S) (h : argL k v ++ R = argL k u ++ S) : v = u ∧ R = S := by
  unfold argL at h
  by_cases c : k = 0
  · rw [if_pos c, if_pos c] at h
    have := h0 c
    exact ⟨by omega, h⟩
  · rw [if_neg c, if_neg c] at h
    obtain ⟨-, h1⟩ := List.cons.inj h
    obtain ⟨h2, h3⟩ := ink_split (ink_it hv) (ink_it hu) hR hS h1
    exact ⟨it_inj hv hu h2, h3⟩
/-- A line without its end. -/
def bodyV (i : Int) (x : S41) (nums : List Int) (strs : List ByteArray) : List Int :=
  itL i ++ ([58, 32] ++ (nmL x.f0 ++ (argL (rowL x.f0).f1 x.f1 ++ (argL (rowL x.f0).f2 x.f2 ++ tailL x nums strs))))
theorem line_body (i : Int) (x : S41) (nums : List Int) (strs : List ByteArray) : lineV i x nums strs = bodyV i x nums strs ++ [10] := by
  unfold lineV bodyV
  simp only [List.append_assoc]
theorem line_inj {i : Int} {x y : S41} {nums nums' : List Int} {strs strs' : List ByteArray} (hx : okI x = true) (hy : okI y = true) (h : lineV i x nums strs = lineV i y nums' strs') : x = y := by
  unfold lineV at h
  have h := List.append_cancel_left (List.append_cancel_left h)
  have wx := ok_word hx
  have wy := ok_word hy
  obtain ⟨px, qx⟩ := ok_parts hx
  obtain ⟨py, qy⟩ := ok_parts hy
  obtain ⟨h1, h2⟩ := ink_split (ink_nm _) (ink_nm _) (stop_arg _ _ (stop_arg _ _ (stop_tail x nums strs))) (stop_arg _ _ (stop_arg _ _ (stop_tail y nums' strs'))) h
  have e0 := nm_inj (by omega) (by omega) h1
  obtain ⟨a0, a1, a2⟩ := x
  obtain ⟨b0, b1, b2⟩ := y
  simp only at e0 px qx py qy h2
  subst e0
  obtain ⟨e1, h3⟩ := arg_inj (op_nonneg px) (op_nonneg py) (fun hk => ⟨op_none px hk, op_none py hk⟩) (stop_arg _ _ (stop_tail _ _ _)) (stop_arg _ _ (stop_tail _ _ _)) h2
  subst e1
  obtain ⟨e2, h4⟩ := arg_inj (op_nonneg qx) (op_nonneg qy) (fun hk => ⟨op_none qx hk, op_none qy hk⟩) (stop_tail _ _ _) (stop_tail _ _ _) h3
  subst e2
  rfl
/-- Between a blank and a tilde. -/
def Seen (l : List Int) : Prop := ∀ c ∈ l, 32 ≤ c ∧ c ≤ 126
theorem Seen.app {A B : List Int} (a : Seen A) (b : Seen B) : Seen (A ++ B) := fun c hc => (List.mem_append.1 hc).elim (a c) (b c)
theorem seen_it {n : Int} (h : 0 ≤ n) : Seen (itL n) := by
  obtain ⟨m, rfl⟩ := Int.eq_ofNat_of_zero_le h
  intro c hc
  have := it_digits m m (Nat.le_refl _) c hc
  omega
theorem seen_arg {k v : Int} (h : 0 ≤ v) : Seen (argL k v) := by
  unfold argL
  split
  · intro c hc; simp at hc
  · intro c hc
    rcases List.mem_cons.1 hc with rfl | hc
    · omega
    · exact seen_it h c hc
theorem hex_seen : ∀ n : Fin 16, 32 ≤ bt hexT ((n.val : Nat) : Int) ∧ bt hexT ((n.val : Nat) : Int) ≤ 126 := by decide
theorem hex_seen' {d : Int} (h0 : 0 ≤ d) (h1 : d < 16) : 32 ≤ bt hexT d ∧ bt hexT d ≤ 126 := by
  have := hex_seen ⟨d.toNat, by omega⟩
  have e : ((d.toNat : Nat) : Int) = d := by omega
  simp only [e] at this
  exact this
theorem seen_hex : ∀ (m : Nat) (v : Int), Seen (hexL m v)
  | 0, v => fun c hc => by simp [hexL] at hc
  | m + 1, v => fun c hc => by
    rw [hexL] at hc
    rcases List.mem_cons.1 hc with rfl | hc
    · exact hex_seen' (by omega) (by omega)
    · exact seen_hex m v c hc
theorem seen_qP {c : Int} (h0 : 0 ≤ c) (h1 : c ≤ 255) : Seen (qP c) := by
  unfold qP
  obtain ⟨a0, a1⟩ := and15' h0 h1
  have b0 := hex_seen' a0 a1
  have b1 := hex_seen' (d := c / 16) (by omega) (by omega)
  split
  · intro d hd
    rw [List.mem_singleton] at hd
    omega
  · intro d hd
    simp only [List.mem_cons, List.not_mem_nil, or_false] at hd
    rcases hd with rfl | rfl | rfl | rfl
    · omega
    · omega
    · exact b1
    · exact b0
theorem seen_qL (s : ByteArray) : ∀ (m i : Nat), Seen (qL s i m)
  | 0, i => fun c hc => by simp [qL] at hc
  | m + 1, i => by
    rw [qL]
    exact (seen_qP (bt_range s _).1 (bt_range s _).2).app (seen_qL s m (i + 1))
theorem seen_body {i : Int} {x : S41} {nums : List Int} {strs : List ByteArray} (hi : 0 ≤ i) (hx : okI x = true) : Seen (bodyV i x nums strs) := by
  obtain ⟨px, qx⟩ := ok_parts hx
  unfold bodyV
  refine (seen_it hi).app (Seen.app (fun c hc => ?_) (Seen.app (fun c hc => ?_) ((seen_arg (op_nonneg px)).app ((seen_arg (op_nonneg qx)).app ?_))))
  · simp only [List.mem_cons, List.not_mem_nil, or_false] at hc
    omega
  · have := (name_at x.f0).2 c hc
    omega
  · unfold tailL
    split
    · intro c hc
      rcases List.mem_cons.1 hc with rfl | hc
      · omega
      · exact seen_hex _ _ c hc
    · split
      · intro c hc
        rcases List.mem_cons.1 hc with rfl | hc
        · omega
        · unfold qT at hc
          simp only [List.mem_append, List.mem_singleton] at hc
          rcases hc with (rfl | hc) | rfl
          · omega
          · exact seen_qL _ _ _ c hc
          · omega
      · intro c hc; simp at hc
end Go.Proofs.YtdkejcadoepnnaaDoor.Pl
