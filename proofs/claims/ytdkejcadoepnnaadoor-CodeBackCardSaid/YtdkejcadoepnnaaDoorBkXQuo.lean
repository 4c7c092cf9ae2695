/-
  quoted's contract: the bytes that it writes behind a Builder's (its walk: ECqx5). Conditions: those in the statements.
-/
import Derived.Test.YtdkejcadoepnnaaDoorBkECqx5
set_option linter.unusedVariables false
set_option linter.unusedSimpArgs false
namespace Go.Proofs.YtdkejcadoepnnaaDoor.X
open Go.RowKit Go.Proofs.YtdkejcadoepnnaaDoorW.PrintWords Go.Proofs.YtdkejcadoepnnaaDoor.ECq
def hexT : ByteArray := ⟨#[48, 49, 50, 51, 52, 53, 54, 55, 56, 57, 97, 98, 99, 100, 101, 102]⟩
def qP (c : Int) : List Int := if c ≥ 32 ∧ c ≤ 126 ∧ ¬ c = 34 ∧ ¬ c = 92 then [c] else [92, 120, bt hexT (c / 16), bt hexT (Go.bits .and .u8 c 15)]
def qL (s : ByteArray) : Nat → Nat → List Int
 | _, 0 => []
 | i, m + 1 => qP (bt s (i : Int)) ++ qL s (i + 1) m
set_option maxRecDepth 100000 in
theorem and15 : ∀ n : Fin 256, 0 ≤ Go.bits .and .u8 ((n.val : Nat) : Int) 15 ∧ Go.bits .and .u8 ((n.val : Nat) : Int) 15 < 16 := by decide
theorem and15' {c : Int} (h0 : 0 ≤ c) (h1 : c ≤ 255) : 0 ≤ Go.bits .and .u8 c 15 ∧ Go.bits .and .u8 c 15 < 16 := by
 have := and15 ⟨c.toNat, by omega⟩
 have e : ((c.toNat : Nat) : Int) = c := by omega
 simp only [e] at this
 exact this
theorem q_step (k : Nat) (s : ByteArray) (i : Int) (xs : List Int) (h0 : 0 ≤ i) (h1 : i < (s.size : Int)) (hx : xs.length + (qP (bt s i)).length < 140737488355328) (hs : (s.size : Int) < 9223372036854775807) :
  c_quoted.l0 (k + 1) s (s.size : Int) i xs = c_quoted.l0 k s (s.size : Int) (i + 1) (xs ++ qP (bt s i)) := by
 have hw : wrap64 (i + 1) = i + 1 := by unfold wrap64; omega
 have hb : bytesOf (⟨#[92, 120]⟩ : ByteArray) = [92, 120] := by decide
 rw [c_quoted.l0, if_pos h1, if_pos h0, if_pos h1, hw]
 obtain ⟨hc0, hc1⟩ := bt_range s i
 generalize bt s i = c at hc0 hc1 hx ⊢
 obtain ⟨ha0, ha1⟩ := and15' hc0 hc1
 have hd0 : 0 ≤ c / 16 := by omega
 have hd1 : c / 16 < 16 := by omega
 by_cases hP : c ≥ 32 ∧ c ≤ 126 ∧ ¬ c = 34 ∧ ¬ c = 92
 ·have hq : qP c = [c] := if_pos hP
  rw [hq] at hx ⊢
  rw [List.length_singleton] at hx
  rw [if_pos hP.1, if_pos hP.2.1, if_neg hP.2.2.1, if_neg hP.2.2.2, if_pos (by omega)]
 ·have hq : qP c = [92, 120, bt hexT (c / 16), bt hexT (Go.bits .and .u8 c 15)] := if_neg hP
  rw [hq] at hx ⊢
  simp only [List.length_cons, List.length_nil] at hx
  simp only [Option.bind_some, hb, List.length_append, List.length_cons, List.length_nil, if_pos hd0, if_pos hd1, if_pos ha0, if_pos ha1, if_pos (show xs.length + 2 < 140737488355328 by omega), if_pos (show xs.length + (0 + 1 + 1) < 140737488355328 by omega), if_pos (show xs.length + (0 + 1 + 1) + (0 + 1) < 140737488355328 by omega)]
  repeat' split
  all_goals first
   | (exfalso; omega)
   | (simp only [hexT, List.append_assoc, List.cons_append, List.nil_append])
theorem q_end (k : Nat) (s : ByteArray) (xs : List Int) (hx : xs.length < 140737488355328) : c_quoted.l0 (k + 1) s (s.size : Int) (s.size : Int) xs = some (xs ++ [34]) := by
 rw [c_quoted.l0, if_neg (Int.lt_irrefl _), if_pos hx]
theorem q_all (s : ByteArray) (hs : (s.size : Int) < 9223372036854775807) : ∀ (m i : Nat), i + m = s.size → ∀ xs : List Int, xs.length + (qL s i m).length < 140737488355328 → c_quoted.l0 (m + 1) s (s.size : Int) (i : Int) xs = some (xs ++ qL s i m ++ [34])
 | 0, i, e, xs, hx => by
  obtain rfl : i = s.size := by omega
  rw [qL, List.length_nil] at hx
  rw [q_end _ _ _ (by omega), qL, List.append_nil]
 | m + 1, i, e, xs, hx => by
  rw [qL, List.length_append] at hx
  rw [q_step _ _ _ _ (by omega) (by omega) (by omega) hs]
  have h := q_all s hs m (i + 1) (by omega) (xs ++ qP (bt s (i : Int))) (by rw [List.length_append]; omega)
  have e2 : ((i + 1 : Nat) : Int) = (i : Int) + 1 := by omega
  rw [e2] at h
  rw [h, qL]
  simp only [List.append_assoc]
/-- The bytes that quoted writes. -/
def qT (s : ByteArray) : List Int := [34] ++ qL s 0 s.size ++ [34]
theorem qP_range {c : Int} (h0 : 0 ≤ c) (h1 : c ≤ 255) : ∀ d ∈ qP c, 0 ≤ d ∧ d < 256 := by
 intro d hd
 have hx : ∀ e, 0 ≤ bt hexT e ∧ bt hexT e < 256 := fun e => ⟨(bt_range _ _).1, by have := (bt_range hexT e).2; omega⟩
 unfold qP at hd
 split at hd
 ·rw [List.mem_singleton] at hd; subst hd; omega
 ·simp only [List.mem_cons, List.mem_nil_iff, or_false] at hd
  rcases hd with rfl | rfl | rfl | rfl
  ·omega
  ·omega
  ·exact hx _
  ·exact hx _
theorem qL_range (s : ByteArray) : ∀ (m i : Nat), ∀ d ∈ qL s i m, 0 ≤ d ∧ d < 256
 | 0, i, d, hd => by simp [qL] at hd
 | m + 1, i, d, hd => by
  rw [qL, List.mem_append] at hd
  rcases hd with hd | hd
  ·exact qP_range (bt_range _ _).1 (bt_range _ _).2 d hd
  ·exact qL_range s m (i + 1) d hd
theorem qT_range (s : ByteArray) : ∀ d ∈ qT s, 0 ≤ d ∧ d < 256 := by
 intro d hd
 simp only [qT, List.mem_append, List.mem_singleton] at hd
 rcases hd with (rfl | hd) | rfl
 ·omega
 ·exact qL_range s _ _ d hd
 ·omega
theorem numsBytes : ∀ l : List Int, (∀ d ∈ l, 0 ≤ d ∧ d < 256) → bytesOf (strOfNums l) = l
 | l, h => by
  unfold bytesOf strOfNums
  simp only [List.map_map]
  conv => rhs; rw [← List.map_id l]
  apply List.map_congr_left
  intro d hd
  obtain ⟨h0, h1⟩ := h d hd
  simp
  omega
def xQuoted.f (s : ByteArray) : Option ByteArray := if s.size < 9223372036854775807 then some (strOfNums (qT s)) else none
theorem xQuoted.calls (w0 : World) (gbb : Nat) (w : World) (xs : List Int) (s t : ByteArray) (HF : BR w w0.heap.size gbb xs) (HB : Below w0.heap.size w0 w) (hlen : xs.length + t.size ≤ 140737488355328) (h : xQuoted.f s = some t) :
  Calls Tryd.prog 46 #[.pointer (some ⟨gbb, 0, none⟩), .string s] w fun e w' => e = .returned (.tuple #[]) ∧ BR w' w0.heap.size gbb (xs ++ bytesOf t) ∧ LB w0 w gbb w' := by
 unfold xQuoted.f at h
 split at h
 ·rename_i hs
  obtain rfl := Option.some.inj h
  have hb := numsBytes _ (qT_range s)
  have hz : (strOfNums (qT s)).size = (qT s).length := by
   have := congrArg List.length hb
   rw [bytesOf_length] at this
   exact this
  rw [hz] at hlen
  simp only [qT, List.length_append, List.length_singleton] at hlen
  rw [hb]
  refine c_quoted.calls (s.size + 1) xs s _ w0 gbb w HF HB ?_
  unfold c_quoted.f
  rw [if_pos (by omega)]
  have h2 := q_all s (by omega) s.size 0 (by omega) (xs ++ [34]) (by rw [List.length_append, List.length_singleton]; omega)
  have e : ((0 : Nat) : Int) = 0 := rfl
  rw [e] at h2
  rw [h2]
  simp [qT]
 ·cases h
end Go.Proofs.YtdkejcadoepnnaaDoor.X
