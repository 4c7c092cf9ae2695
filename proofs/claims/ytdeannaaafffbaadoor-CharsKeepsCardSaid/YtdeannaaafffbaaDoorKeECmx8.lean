/-
  A text of this session's own.
-/
import Derived.Test.YtdeannaaafffbaaDoorKeECdx0
import Derived.Test.YtdeannaaafffbaaDoorKeXAp
import Derived.Test.YtdeannaaafffbaaDoorKeECmx7
set_option linter.unusedSimpArgs false
namespace Go.Proofs.YtdeannaaafffbaaDoor.ECd
open Go.RowKit Go.Proofs.YtdeannaaafffbaaDoorW.PrintWords Go.Proofs.YtdeannaaafffbaaDoorW.PrintLast Go.Proofs.YtdeannaaafffbaaDoorW.PrintMore
attribute [local go_sem] max2_int min2_int max_two min_two max_three min_three max_four min_four   -- for this text's walks alone
set_option linter.unusedVariables false
set_option linter.unusedSimpArgs false
open Go.Proofs.YtdeannaaafffbaaDoor.X
mutual
def abacuslaw20_apart.l0 : Nat → List (List ByteArray) → Int → Option (Bool)
  | 0, _, _ => none
  | k + 1, x0, x3 => if x3 < (x0.length : Int) then (abacuslaw20_apart.l1 k x0 x3 0) else (abacuslaw20_apart.l2 k x0 ([] : List (List ByteArray)) 0)
def abacuslaw20_apart.l1 : Nat → List (List ByteArray) → Int → Int → Option (Bool)
  | 0, _, _, _ => none
  | k + 1, x0, x3, x4 => if 0 ≤ x3 then (if x3 < (x0.length : Int) then (if x4 < ((rd_L1 x0 x3).length : Int) then ((abacuslaw20_mark.f x3 x4).bind fun t133 => (if 0 ≤ x4 then (abacuslaw20_apart.l1 k (x0.set (x3 : Int).toNat ((rd_L1 x0 x3).set (x4 : Int).toNat t133)) x3 (wrap64 (x4 + 1))) else (none))) else (abacuslaw20_apart.l0 k x0 (wrap64 (x3 + 1)))) else (none)) else (none)
def abacuslaw20_apart.l2 : Nat → List (List ByteArray) → List (List ByteArray) → Int → Option (Bool)
  | 0, _, _, _ => none
  | k + 1, x0, x5, x6 => if x6 < (x0.length : Int) then (if 0 ≤ x6 then (abacuslaw20_apart.l3 k x0 x5 x6 (rd_L1 x0 x6) 0) else (none)) else (abacuslaw20_apart.l4 k x0 x5 0)
def abacuslaw20_apart.l3 : Nat → List (List ByteArray) → List (List ByteArray) → Int → List ByteArray → Int → Option (Bool)
  | 0, _, _, _, _, _ => none
  | k + 1, x0, x5, x6, x7, x8 => if x8 < 16 then ((abacuslaw20_mark.f x6 (x7.length : Int)).bind fun t141 => (if x7.length < 8796093022208 then (abacuslaw20_apart.l3 k x0 x5 x6 (x7 ++ [t141]) (wrap64 (x8 + 1))) else (none))) else (if x5.length < 5864062014805 then (abacuslaw20_apart.l2 k x0 (x5 ++ [x7]) (wrap64 (x6 + 1))) else (none))
def abacuslaw20_apart.l4 : Nat → List (List ByteArray) → List (List ByteArray) → Int → Option (Bool)
  | 0, _, _, _ => none
  | k + 1, x0, x5, x9 => if x9 < (x0.length : Int) then (abacuslaw20_apart.l5 k x0 x5 x9 0) else (some true)
def abacuslaw20_apart.l5 : Nat → List (List ByteArray) → List (List ByteArray) → Int → Int → Option (Bool)
  | 0, _, _, _, _ => none
  | k + 1, x0, x5, x9, x10 => if 0 ≤ x9 then (if x9 < (x0.length : Int) then (if x10 < ((rd_L1 x0 x9).length : Int) then (if 0 ≤ x10 then ((abacuslaw20_mark.f x9 x10).bind fun t151 => (if (rdOf ByteArray.empty (rd_L1 x0 x9) x10).toList = t151.toList then (abacuslaw20_apart.l5 k x0 x5 x9 (wrap64 (x10 + 1))) else (some false))) else (none)) else (abacuslaw20_apart.l6 k x0 x5 x9 0)) else (none)) else (none)
def abacuslaw20_apart.l6 : Nat → List (List ByteArray) → List (List ByteArray) → Int → Int → Option (Bool)
  | 0, _, _, _, _ => none
  | k + 1, x0, x5, x9, x11 => if 0 ≤ x9 then (if x9 < (x5.length : Int) then (if x11 < ((rd_L1 x5 x9).length : Int) then (if 0 ≤ x11 then ((abacuslaw20_mark.f x9 x11).bind fun t155 => (if (rdOf ByteArray.empty (rd_L1 x5 x9) x11).toList = t155.toList then (abacuslaw20_apart.l6 k x0 x5 x9 (wrap64 (x11 + 1))) else (some false))) else (none)) else (abacuslaw20_apart.l4 k x0 x5 (wrap64 (x9 + 1)))) else (none)) else (none)
end
def abacuslaw20_apart.f (k : Nat) (l0 : List (List ByteArray)) : Option (Bool) := abacuslaw20_apart.l0 k l0 0
def abacuslaw20_apart.T7 : Bool × List (List Nat × List Nat) := (true, [([], []), ([], []), ([0, 1], [0, 1]), ([2], [2]), ([], []), ([], []), ([], []), ([5, 6], [5, 6]), ([3, 4, 0, 1, 2, 3, 4, 5, 6, 7], [3, 4]), ([8, 7, 7, 0, 1, 2, 3, 4, 5, 6, 7], [7, 8])])
def abacuslaw20_apart.B7 : List Nat := [0, 0, 3, 7, 0, 0, 0, 96, 255, 511]
theorem abacuslaw20_apart.tab7 : rtab .any (opsOf Tryd.f15 7) = abacuslaw20_apart.T7 := by kernel_rfl
theorem abacuslaw20_apart.bits7 : waitsOk abacuslaw20_apart.T7.2 abacuslaw20_apart.B7 = true := by kernel_rfl
def abacuslaw20_apart.T24 : Bool × List (List Nat × List Nat) := (true, [([], []), ([], []), ([0, 1], [0, 1]), ([2], [2]), ([], []), ([3, 4], [3, 4]), ([5], [5]), ([], []), ([], []), ([7, 8], [7, 8]), ([6, 9], [6, 9])])
def abacuslaw20_apart.B24 : List Nat := [0, 0, 3, 7, 0, 31, 63, 0, 0, 384, 1023]
theorem abacuslaw20_apart.tab24 : rtab .any (opsOf Tryd.f15 24) = abacuslaw20_apart.T24 := by kernel_rfl
theorem abacuslaw20_apart.bits24 : waitsOk abacuslaw20_apart.T24.2 abacuslaw20_apart.B24 = true := by kernel_rfl
def abacuslaw20_apart.T29 : Bool × List (List Nat × List Nat) := (true, [([], []), ([], []), ([0, 1], [0, 1]), ([2], [2]), ([], []), ([3, 4], [3, 4]), ([5], [5]), ([], []), ([], []), ([7, 8], [7, 8]), ([6, 9], [6, 9])])
def abacuslaw20_apart.B29 : List Nat := [0, 0, 3, 7, 0, 31, 63, 0, 0, 384, 1023]
theorem abacuslaw20_apart.tab29 : rtab .any (opsOf Tryd.f15 29) = abacuslaw20_apart.T29 := by kernel_rfl
theorem abacuslaw20_apart.bits29 : waitsOk abacuslaw20_apart.T29.2 abacuslaw20_apart.B29 = true := by kernel_rfl
set_option maxHeartbeats 8000000 in
set_option maxRecDepth 100000 in
theorem abacuslaw20_apart.calls (k : Nat) (A0 : Option Addr) (c0 : Nat) (l0 : List (List ByteArray)) (r : Bool) (w W : World) (hb : Below w.heap.size w W) (hS : Kd.S (Kd.slice 9 Kd.string) 24 W w.heap.size (fun _ => True) (.slice A0 l0.length c0) l0) (h : abacuslaw20_apart.f k l0 = some r) :
    Calls Tryd.prog 15 #[.slice A0 l0.length c0] W fun e w' => e = .returned (.bool r) ∧ Below w.heap.size w w' := by
  have H : (abacuslaw20_apart.l0 k l0 0) = some r := h
  clear h
  have HB := Aside0.mk hb
  clear hb
  generalize hv129 : Value.slice A0 l0.length c0 = v129 at hS ⊢
  clear hv129
  have HO130 := Aside0.mk hS
  clear hS
  have H' := Aside0.mk H
  clear H
  go_enter Tryd.func15, Tryd.ntmps15
  go_wp2
  go_loopg [3] k (fun kq v3 w' => ∃ (x0_1 : List (List ByteArray)) (x3_1 : Int), v3 = .int .i64 x3_1 ∧ Aside0 (abacuslaw20_apart.l0 kq x0_1 x3_1 = some r) ∧ Aside0 (kq ≤ k) ∧ Aside0 (Kd.S (Kd.slice 9 Kd.string) 24 w' w.heap.size (fun _ => True) v129 x0_1) ∧ Aside0 (Below w.heap.size w w'))
  case atStart => exact ⟨(l0), (0), (by first | rfl | (simp; done) | (simp [*]; done)), H', ⟨Nat.le_refl _⟩, ⟨by (with_reducible repeat (first | apply Kd.S_alloc | apply Kd.S_drewN | apply Kd.S_drew)); exact HO130.out⟩, ⟨by repeat (first | (with_reducible first | exact HB.out | apply below_alloc | apply pw_below_drewN | apply below_drew1) | exact HB.out)⟩⟩
  case round =>
    clear H'
    try clear c1
    try clear p2
    obtain ⟨x0_1, x3_1, rfl, HA, HK1, HO_0, HB⟩ := hrel
    cases gk with
    | zero => exact absurd HA.out (by simp [abacuslaw20_apart.l0])
    | succ k1 =>
      have H := HA.out
      clear HA
      simp only [abacuslaw20_apart.l0] at H
      by_cases c3 : x3_1 < (x0_1.length : Int)
      · rw [if_pos c3] at H
        have c3b0 : decide (x3_1 < (x0_1.length : Int)) = true := decide_eq_true c3
        clear c3
        have H' := Aside0.mk H
        clear H
        obtain ⟨Ao4, co4, eo4⟩ := Kd.S_slice HO_0.out
        subst eo4
        go_wp2
        go_loopg [4] k1 (fun kq v4 w' => ∃ (x0_2 : List (List ByteArray)) (x4_2 : Int), v4 = .int .i64 x4_2 ∧ Aside0 (abacuslaw20_apart.l1 kq x0_2 x3_1 x4_2 = some r) ∧ Aside0 (kq ≤ k1) ∧ Aside0 (Kd.S (Kd.slice 9 Kd.string) 24 w' w.heap.size (fun _ => True) (.slice Ao4 x0_1.length co4) x0_2) ∧ Aside0 (Below w.heap.size w w'))
        case atStart => exact ⟨(x0_1), (0), (by first | rfl | (simp; done) | (simp [*]; done)), H', ⟨Nat.le_refl _⟩, ⟨by (with_reducible repeat (first | apply Kd.S_alloc | apply Kd.S_drewN | apply Kd.S_drew)); exact HO_0.out⟩, ⟨by repeat (first | (with_reducible first | exact HB.out | apply below_alloc | apply pw_below_drewN | apply below_drew1) | exact HB.out)⟩⟩
        case round =>
          clear H'
          try clear c1
          try clear p2
          try clear c3
          try clear c3b0
          try clear p2
          obtain ⟨x0_2, x4_2, rfl, HA, HK2, HO_0, HB⟩ := hrel
          have hl0_2 := (Kd.S_reads' HO_0.out).1
          rw [hl0_2] at HO_0
          (try simp only [hl0_2])
          cases gk with
          | zero => exact absurd HA.out (by simp [abacuslaw20_apart.l1])
          | succ k2 =>
            have H := HA.out
            clear HA
            simp only [abacuslaw20_apart.l1] at H
            by_cases c5 : 0 ≤ x3_1
            · rw [if_pos c5] at H
              have c5b0 : decide (0 ≤ x3_1) = true := decide_eq_true c5
              clear c5
              by_cases c6 : x3_1 < (x0_2.length : Int)
              · rw [if_pos c6] at H
                have c6b0 : decide (x3_1 < (x0_2.length : Int)) = true := decide_eq_true c6
                clear c6
                by_cases c7 : x4_2 < ((rd_L1 x0_2 x3_1).length : Int)
                · rw [if_pos c7] at H
                  have c7b0 : decide (x4_2 < ((rd_L1 x0_2 x3_1).length : Int)) = true := decide_eq_true c7
                  clear c7
                  replace H := Option.bind_eq_some_iff.mp H
                  obtain ⟨t133, A80, H⟩ := H
                  replace H : (if 0 ≤ x4_2 then (abacuslaw20_apart.l1 k2 (x0_2.set (x3_1 : Int).toNat ((rd_L1 x0_2 x3_1).set (x4_2 : Int).toNat t133)) x3_1 (wrap64 (x4_2 + 1))) else (none)) = some r := H
                  have A8 := Aside0.mk A80
                  clear A80
                  by_cases c9 : 0 ≤ x4_2
                  · rw [if_pos c9] at H
                    have c9b0 : decide (0 ≤ x4_2) = true := decide_eq_true c9
                    clear c9
                    obtain ⟨y134, hy134⟩ : ∃ y_ : List ByteArray, y_ = ((rd_L1 x0_2 x3_1).set (x4_2 : Int).toNat t133) := ⟨_, rfl⟩
                    replace H : (abacuslaw20_apart.l1 k2 (x0_2.set (x3_1 : Int).toNat y134) x3_1 (wrap64 (x4_2 + 1))) = some r := by first | (rw [hy134]; with_reducible exact H) | (have H2_ := (Option.bind_some _ _).symm.trans H; rw [hy134]; with_reducible exact H2_) | (have H2_ := (Option.bind_some _ _).symm.trans H; with_reducible exact H2_) | with_reducible exact H | (rw [hy134]; exact H) | exact H
                    have Ny134 := Aside0.mk hy134
                    clear hy134
                    obtain ⟨y136, hy136⟩ : ∃ y_ : List (List ByteArray), y_ = (x0_2.set (x3_1 : Int).toNat y134) := ⟨_, rfl⟩
                    replace H : (abacuslaw20_apart.l1 k2 y136 x3_1 (wrap64 (x4_2 + 1))) = some r := by first | (rw [hy136]; with_reducible exact H) | (have H2_ := (Option.bind_some _ _).symm.trans H; rw [hy136]; with_reducible exact H2_) | (have H2_ := (Option.bind_some _ _).symm.trans H; with_reducible exact H2_) | with_reducible exact H | (rw [hy136]; exact H) | exact H
                    have Ny136 := Aside0.mk hy136
                    clear hy136
                    have H' := Aside0.mk H
                    clear H
                    have p131 : 0 ≤ (x3_1 : Int) := of_decide_eq_true (by first | (with_reducible assumption) | assumption)
                    have q131 : x3_1 < (x0_2.length : Int) := of_decide_eq_true (by first | (with_reducible assumption) | assumption)
                    obtain ⟨ad131, A131_0, c131_0, e131, hx131_0, hl131_0, hi131_0⟩ := at_L1 (Kd.S_reads' HO_0.out).2.2 x3_1 p131 q131
                    cases e131
                    obtain ⟨ce131, hce131, hMe131, hcc131⟩ := Kd.S_get HO_0.out [] x3_1 p131 (by first | exact q131 | exact of_decide_eq_true (by first | (with_reducible assumption) | assumption) | (have e_ := (Kd.S_reads' HO_0.out).1; omega))
                    obtain ⟨ve131_0, rfl, ge131_0⟩ := hMe131
                    have hv131_0 := hcc131 0 _ rfl
                    rw [Nat.add_zero, show ((Kd.slice 9 Kd.string)).sz = 1 from rfl, Nat.mul_one] at hv131_0
                    replace hv131_0 := Option.some.inj (hv131_0.symm.trans hx131_0)
                    rw [hv131_0] at ge131_0
                    have HL131_0 := Aside0.mk (show Kd.R Kd.string 9 _ _ _ _ (rd_L1 x0_2 x3_1) from ge131_0)
                    clear hv131_0 ge131_0
                    have HX131_0 := Aside0.mk hx131_0
                    clear hcc131 hce131
                    have HR131_0 := Aside0.mk hi131_0
                    have HC131_0 := Aside0.mk hl131_0
                    clear hi131_0 hl131_0
                    replace p131 := eq_true p131
                    replace q131 := eq_true q131
                    try go_wp2
                    have n0_ := Aside0.mk (Kd.S_drew HO_0.out)
                    have n1_ := Aside0.mk (Kd.R_drew HL131_0.out)
                    have n2_ := Aside0.mk (Kd.C_drew HR131_0.out)
                    have n3_ := Aside0.mk (below_drew1 HB.out)
                    clear HO_0
                    clear HL131_0
                    clear HR131_0
                    clear HB
                    have HO_0 := n0_
                    have HL131_0 := n1_
                    have HR131_0 := n2_
                    have HB := n3_
                    clear n0_ n1_ n2_ n3_
                    have p132 : 0 ≤ (x3_1 : Int) := of_decide_eq_true (by first | (with_reducible assumption) | assumption)
                    have q132 : x3_1 < (x0_2.length : Int) := of_decide_eq_true (by first | (with_reducible assumption) | assumption)
                    obtain ⟨ad132, A132_0, c132_0, e132, hx132_0, hl132_0, hi132_0⟩ := at_L1 (Kd.S_reads' HO_0.out).2.2 x3_1 p132 q132
                    obtain rfl : ad131 = ad132 := (by injection e132)
                    obtain ⟨ce132, hce132, hMe132, hcc132⟩ := Kd.S_get HO_0.out [] x3_1 p132 (by first | exact q132 | exact of_decide_eq_true (by first | (with_reducible assumption) | assumption) | (have e_ := (Kd.S_reads' HO_0.out).1; omega))
                    obtain ⟨ve132_0, rfl, ge132_0⟩ := hMe132
                    have hv132_0 := hcc132 0 _ rfl
                    rw [Nat.add_zero, show ((Kd.slice 9 Kd.string)).sz = 1 from rfl, Nat.mul_one] at hv132_0
                    replace hv132_0 := Option.some.inj (hv132_0.symm.trans hx132_0)
                    rw [hv132_0] at ge132_0
                    have HL132_0 := Aside0.mk (show Kd.R Kd.string 9 _ _ _ _ (rd_L1 x0_2 x3_1) from ge132_0)
                    clear hv132_0 ge132_0
                    have HX132_0 := Aside0.mk hx132_0
                    clear hcc132 hce132
                    have HR132_0 := Aside0.mk hi132_0
                    have HC132_0 := Aside0.mk hl132_0
                    clear hi132_0 hl132_0
                    replace p132 := eq_true p132
                    replace q132 := eq_true q132
                    refine start_ (n := 10) (S := fun w' => w'.cell? (ad131.add (x3_1).toNat) = some (.slice A132_0 (rd_L1 x0_2 x3_1).length c132_0)) (ds := [9]) #[false, false, false, false, false, false, false, false, false, false] (by kernel_rfl) rfl rfl (hx132_0) (fun hHeld => ?_); refine with_tabW abacuslaw20_apart.tab7 abacuslaw20_apart.bits7 (fun HT_ HW_ => ?_)
                    generalize wr.drew = w11 at HO_0 HL131_0 HR131_0 HB HL132_0 HR132_0 HX132_0 hx132_0 hHeld ⊢
                    refine pure_ (i := 0) (N := some 27) (v := ?_) (a' := ?_) #[true, false, false, false, false, false, false, false, false, false] rfl rfl (any_of HT_.out (by kernel_rfl)) (fun _ _ _ h => h) (Or.inl ⟨by rfl, ?_⟩) ?_ ?_
                    rotate_left
                    · intro w'
                      go_simp
                      with_reducible rfl
                    rotate_left
                    · simp only [Act.put, List.setIfInBounds_toArray, List.set_cons_zero, List.set_cons_succ, i64_w, i32_w]
                      rfl
                    refine pure_ (i := 1) (N := some 28) (v := ?_) (a' := ?_) #[true, true, false, false, false, false, false, false, false, false] rfl rfl (any_of HT_.out (by kernel_rfl)) (fun _ _ _ h => h) (Or.inl ⟨by rfl, ?_⟩) ?_ ?_
                    rotate_left
                    · intro w'
                      go_simp
                      with_reducible rfl
                    rotate_left
                    · simp only [Act.put, List.setIfInBounds_toArray, List.set_cons_zero, List.set_cons_succ, i64_w, i32_w]
                      rfl
                    refine pure_ (i := 2) (N := some 29) (v := ?_) (a' := ?_) #[true, true, true, false, false, false, false, false, false, false] rfl rfl (any_of HT_.out (by kernel_rfl)) (fun _ _ _ h => h) (Or.inl ⟨by rfl, ?_⟩) ?_ ?_
                    rotate_left
                    · intro w'
                      go_simp
                      with_reducible rfl
                    rotate_left
                    · simp only [Act.put, List.setIfInBounds_toArray, List.set_cons_zero, List.set_cons_succ, i64_w, i32_w]
                      rfl
                    refine pure_ (i := 4) (N := some 31) (v := ?_) (a' := ?_) #[true, true, true, false, true, false, false, false, false, false] rfl rfl (any_of HT_.out (by kernel_rfl)) (fun _ _ _ h => h) (Or.inl ⟨by rfl, ?_⟩) ?_ ?_
                    rotate_left
                    · intro w'
                      go_simp
                      with_reducible rfl
                    rotate_left
                    · simp only [Act.put, List.setIfInBounds_toArray, List.set_cons_zero, List.set_cons_succ, i64_w, i32_w]
                      rfl
                    refine pure_ (i := 5) (N := some 32) (v := ?_) (a' := ?_) #[true, true, true, false, true, true, false, false, false, false] rfl rfl (any_of HT_.out (by kernel_rfl)) (fun _ _ _ h => h) (Or.inl ⟨by rfl, ?_⟩) ?_ ?_
                    rotate_left
                    · intro w'
                      go_simp
                      with_reducible rfl
                    rotate_left
                    · simp only [Act.put, List.setIfInBounds_toArray, List.set_cons_zero, List.set_cons_succ, i64_w, i32_w]
                      rfl
                    refine pure_ (i := 6) (N := some 33) (v := ?_) (a' := ?_) #[true, true, true, false, true, true, true, false, false, false] rfl rfl (any_of HT_.out (by kernel_rfl)) (fun _ _ _ h => h) (Or.inl ⟨by rfl, ?_⟩) ?_ ?_
                    rotate_left
                    · intro w'
                      go_simp
                      with_reducible rfl
                    rotate_left
                    · simp only [Act.put, List.setIfInBounds_toArray, List.set_cons_zero, List.set_cons_succ, i64_w, i32_w]
                      rfl
                    refine take_ (i := 3) (N := some 30) (v := ?_) (a' := ?_) #[true, true, true, true, true, true, true, false, false, false] rfl rfl (take_ofW HT_.out HW_.out (by kernel_rfl)) (fun _ _ _ h => h) (Or.inl ⟨by rfl, ?_⟩) hHeld ?_ ?_
                    rotate_left
                    · intro w' s0
                      go_simp
                      with_reducible rfl
                    rotate_left
                    · simp only [Act.put, List.setIfInBounds_toArray, List.set_cons_zero, List.set_cons_succ, i64_w, i32_w]
                      rfl
                    refine one_ (i := 7) (N := some 34) #[true, true, true, true, true, true, true, true, false, false] rfl rfl (one_of HT_.out (by kernel_rfl)) (by decide) (fun K hK => ?_)
                    refine goes_ Tryd.func31 (by kernel_rfl) rfl #[.int .i64 x3_1, .int .i64 x4_2] (by rfl) rfl rfl (by (try simp only [List.map_toArray, List.map_cons, List.map_nil]); first | done | rfl | (simp only [List.length_drop, List.length_take]; rfl)) ?_
                    with_reducible refine (abacuslaw20_mark.calls x3_1 x4_2 t133 _ A8.out).mono ?_
                    rintro e w12 ⟨rfl, hb⟩
                    have HS0_ := (hb.cell (World.block_lt_of_cell? _ _ (hHeld))).trans (hHeld)
                    refine ⟨_, rfl, ?_⟩
                    have n0_ := Aside0.mk (Kd.S_below (by (with_reducible repeat (first | apply Kd.S_alloc | apply Kd.S_drewN | apply Kd.S_drew)); exact HO_0.out) hb)
                    have n1_ := Aside0.mk (Kd.R_below (by (with_reducible repeat (first | apply Kd.R_alloc | apply Kd.R_drewN | apply Kd.R_drew)); exact HL131_0.out) hb)
                    have n2_ := Aside0.mk (Kd.R_below (by (with_reducible repeat (first | apply Kd.R_alloc | apply Kd.R_drewN | apply Kd.R_drew)); exact HL132_0.out) hb)
                    have n3_ := Aside0.mk (Kd.C_below (by repeat (first | (with_reducible exact HR131_0.out) | (with_reducible refine Kd.C_alloc ?_ _) | (with_reducible refine Kd.C_drewN ?_ _) | (with_reducible refine Kd.C_drew ?_) | exact HR131_0.out)) hb)
                    have n4_ := Aside0.mk (Kd.C_below (by repeat (first | (with_reducible exact HR132_0.out) | (with_reducible refine Kd.C_alloc ?_ _) | (with_reducible refine Kd.C_drewN ?_ _) | (with_reducible refine Kd.C_drew ?_) | exact HR132_0.out)) hb)
                    have n5_ := Aside0.mk (pw_cell_below hb HX132_0.out)
                    have n6_ := Aside0.mk (below_step (by repeat (first | (with_reducible first | exact HB.out | apply below_alloc | apply pw_below_drewN | apply below_drew1) | exact HB.out)) hb)
                    clear HO_0
                    clear HL131_0
                    clear HL132_0
                    clear HR131_0
                    clear HR132_0
                    clear HX132_0
                    clear HB
                    have HO_0 := n0_
                    have HL131_0 := n1_
                    have HL132_0 := n2_
                    have HR131_0 := n3_
                    have HR132_0 := n4_
                    have HX132_0 := n5_
                    have HB := n6_
                    clear n0_ n1_ n2_ n3_ n4_ n5_ n6_
                    (try clear hb)
                    (try clear hb2)
                    (try clear hk)
                    (try clear hi)
                    have p10 : 0 ≤ (x4_2 : Int) := of_decide_eq_true (by first | (with_reducible assumption) | assumption)
                    have q10 : (x4_2 : Int) < (((rd_L1 x0_2 x3_1).length : Int) : Int) := of_decide_eq_true (by first | (with_reducible assumption) | assumption)
                    obtain ⟨go10, co10, eo10, gb10, gl10, cl10, HG10⟩ := Kd.R_form HL132_0.out (by omega)
                    (first | cases eo10 | (injection eo10 with ea_ en_ ec_; (first | subst ea_ | (injection ea_ with ea_; subst ea_)); subst ec_; clear en_))
                    have GB10 := Aside0.mk gb10
                    have GG10 := Aside0.mk HG10
                    clear gb10 gl10 HG10
                    obtain ⟨hx10_0, hf10_0⟩ := Kd.R_celln (⟨#[]⟩ : ByteArray) HL132_0.out (x4_2 : Int) p10 q10
                    replace p10 := eq_true p10
                    replace q10 := eq_true q10
                    have hq13 : (x3_1 : Int) < (x0_2.length : Int) := (by have h_ : (x3_1 : Int) < ((x0_2.length : Int) : Int) := of_decide_eq_true (by first | (with_reducible assumption) | assumption); first | exact h_ | (have e_ := (Kd.S_reads' HO_0.out).1; omega) | simpa only [List.length_set, List.length_set] using h_)
                    obtain ⟨oki13, ce13, hcl13, hM13, hcc13, hok13, hbk13⟩ := Kd.S_borrow HO_0.out [] (x3_1 : Int) (of_decide_eq_true (by first | (with_reducible assumption) | assumption)) hq13
                    obtain ⟨ve13_0, rfl, ge13_0⟩ := hM13
                    have hv13 := hcc13 0 _ rfl
                    rw [Nat.add_zero, show ((Kd.slice 9 Kd.string)).sz = 1 from rfl, Nat.mul_one] at hv13
                    replace hv13 := Option.some.inj (hv13.symm.trans HX132_0.out)
                    subst hv13
                    clear hcc13 hcl13
                    replace ge13_0 := (show Kd.R Kd.string 9 _ _ _ _ (rd_L1 x0_2 x3_1) from ge13_0)
                    have HP13 := Kd.R_putg ge13_0 (x4_2 : Int) t133
                    rw [← Ny134.out] at HP13
                    have HS13 := hbk13 HP13.2 (fun k_ e_ => by injection e_ with e_; subst e_; exact ge13_0.1 _ rfl) (x' := y134) (Kd.M_row HP13.1)
                    rw [← Ny136.out] at HS13
                    have HQ13 := Aside0.mk HS13
                    clear HP13 HS13 hbk13 hok13
                    refine hK.out _ _ (HS0_) (fun hHeld => ?_)
                    clear hK K
                    refine norm_ (a' := ?_) ?_ ?_
                    rotate_left
                    · show Act.put _ (some 34) _ = _
                      simp only [Act.put, List.setIfInBounds_toArray, List.set_cons_zero, List.set_cons_succ, i64_w, i32_w]
                      rfl
                    refine pure_ (i := 8) (N := some 35) (v := ?_) (a' := ?_) #[true, true, true, true, true, true, true, true, true, false] rfl rfl (any_of HT_.out (by kernel_rfl)) (fun _ _ _ h => h) (Or.inl ⟨by rfl, ?_⟩) ?_ ?_
                    rotate_left
                    · intro w'
                      go_simp
                      with_reducible rfl
                    rotate_left
                    · simp only [Act.put, List.setIfInBounds_toArray, List.set_cons_zero, List.set_cons_succ, i64_w, i32_w]
                      rfl
                    refine last_ (i := 9) (N := none) #[true, true, true, true, true, true, true, true, true, true] rfl rfl (one_of HT_.out (by kernel_rfl)) (by decide) (fun K hK => ?_)
                    refine skip_ (w1 := ?_) (by rfl) rfl ?_ ?_
                    rotate_left
                    · go_simp
                      rfl
                    refine hK.out _ _ ?_
                    clear hK K
                    refine done_ (done_of HT_.out (by kernel_rfl)) ?_
                    try go_wp2
                    (try simp only [← hl0_2])
                    go_roundg k2
                    case measure => have := HK1.out; have := HK2.out; omega
                    case rel => exact ⟨(y136), (wrap64 (x4_2 + 1)), (by first | rfl | (simp; done) | (simp [*]; done)), H', ⟨by have := HK1.out; have := HK2.out; omega⟩, ⟨by (try simp only [hl0_2]); (with_reducible repeat (first | apply Kd.S_alloc | apply Kd.S_drewN | apply Kd.S_drew)); exact HQ13.out⟩, ⟨by repeat (first | (with_reducible first | exact HB.out | apply below_alloc | apply pw_below_drewN | apply below_drew1 | refine below_set ?_ GB10.out) | exact HB.out)⟩⟩
                  · rw [if_neg c9] at H
                    exact absurd H (by simp)
                · rw [if_neg c7] at H
                  have c7b0 : decide (x4_2 < ((rd_L1 x0_2 x3_1).length : Int)) = false := decide_eq_false c7
                  clear c7
                  have H' := Aside0.mk H
                  clear H
                  have p131 : 0 ≤ (x3_1 : Int) := of_decide_eq_true (by first | (with_reducible assumption) | assumption)
                  have q131 : x3_1 < (x0_2.length : Int) := of_decide_eq_true (by first | (with_reducible assumption) | assumption)
                  obtain ⟨ad131, A131_0, c131_0, e131, hx131_0, hl131_0, hi131_0⟩ := at_L1 (Kd.S_reads' HO_0.out).2.2 x3_1 p131 q131
                  cases e131
                  obtain ⟨ce131, hce131, hMe131, hcc131⟩ := Kd.S_get HO_0.out [] x3_1 p131 (by first | exact q131 | exact of_decide_eq_true (by first | (with_reducible assumption) | assumption) | (have e_ := (Kd.S_reads' HO_0.out).1; omega))
                  obtain ⟨ve131_0, rfl, ge131_0⟩ := hMe131
                  have hv131_0 := hcc131 0 _ rfl
                  rw [Nat.add_zero, show ((Kd.slice 9 Kd.string)).sz = 1 from rfl, Nat.mul_one] at hv131_0
                  replace hv131_0 := Option.some.inj (hv131_0.symm.trans hx131_0)
                  rw [hv131_0] at ge131_0
                  have HL131_0 := Aside0.mk (show Kd.R Kd.string 9 _ _ _ _ (rd_L1 x0_2 x3_1) from ge131_0)
                  clear hv131_0 ge131_0
                  have HX131_0 := Aside0.mk hx131_0
                  clear hcc131 hce131
                  have HR131_0 := Aside0.mk hi131_0
                  have HC131_0 := Aside0.mk hl131_0
                  clear hi131_0 hl131_0
                  replace p131 := eq_true p131
                  replace q131 := eq_true q131
                  go_wp2
                  (try simp only [← hl0_2])
                  go_roundg k2
                  case measure => have := HK1.out; have := HK2.out; omega
                  case rel => exact ⟨(x0_2), (wrap64 (x3_1 + 1)), (by first | rfl | (simp; done) | (simp [*]; done)), H', ⟨by have := HK1.out; have := HK2.out; omega⟩, ⟨by (try simp only [hl0_2]); (with_reducible repeat (first | apply Kd.S_alloc | apply Kd.S_drewN | apply Kd.S_drew)); exact HO_0.out⟩, ⟨by repeat (first | (with_reducible first | exact HB.out | apply below_alloc | apply pw_below_drewN | apply below_drew1) | exact HB.out)⟩⟩
              · rw [if_neg c6] at H
                exact absurd H (by simp)
            · rw [if_neg c5] at H
              exact absurd H (by simp)
      · rw [if_neg c3] at H
        have c3b0 : decide (x3_1 < (x0_1.length : Int)) = false := decide_eq_false c3
        clear c3
        have H' := Aside0.mk H
        clear H
        obtain ⟨Ao15, co15, eo15⟩ := Kd.S_slice HO_0.out
        subst eo15
        go_wp2
        go_loopg [5, 6] k1 (fun kq v5 v6 w' => ∃ (x5_2 : List (List ByteArray)) (x6_2 : Int), v6 = .int .i64 x6_2 ∧ Aside0 (abacuslaw20_apart.l2 kq x0_1 x5_2 x6_2 = some r) ∧ Aside0 (kq ≤ k1) ∧ Aside0 (AL w' w.heap.size (.slice Ao15 x0_1.length co15) v5 x0_1 x5_2) ∧ Aside0 (x6_2 = (x5_2.length : Int)) ∧ Aside0 (Below w.heap.size w w'))
        case atStart => exact ⟨(([] : List (List ByteArray))), (0), (by first | rfl | (simp; done) | (simp [*]; done)), H', ⟨Nat.le_refl _⟩, ⟨AL_start (by (with_reducible repeat (first | apply Kd.S_alloc | apply Kd.S_drewN | apply Kd.S_drew)); exact HO_0.out)⟩, ⟨rfl⟩, ⟨by repeat (first | (with_reducible first | exact HB.out | apply below_alloc | apply pw_below_drewN | apply below_drew1) | exact HB.out)⟩⟩
        case round =>
          clear H'
          try clear c1
          try clear p1
          try clear q1
          try clear hx1
          try clear hf1
          try clear p2
          try clear c3
          try clear c3b0
          try clear c5
          try clear c5b0
          try clear c6
          try clear c6b0
          try clear p6
          try clear c7
          try clear c7b0
          try clear c9
          try clear c9b0
          try clear p10
          try clear q10
          try clear hx10
          try clear hf10
          try clear c13
          try clear p13
          try clear q13
          try clear hx13
          try clear c15
          try clear hx10_0
          try clear hx131_0
          try clear hx132_0
          try clear p131
          try clear p132
          try clear q131
          try clear q132
          obtain ⟨x5_2, x6_2, rfl, HA, HK2, HAL, HIX, HB⟩ := hrel
          cases gk with
          | zero => exact absurd HA.out (by simp [abacuslaw20_apart.l2])
          | succ k2 =>
            have H := HA.out
            clear HA
            simp only [abacuslaw20_apart.l2] at H
            by_cases c16 : x6_2 < (x0_1.length : Int)
            · rw [if_pos c16] at H
              have c16b0 : decide (x6_2 < (x0_1.length : Int)) = true := decide_eq_true c16
              by_cases c17 : 0 ≤ x6_2
              · rw [if_pos c17] at H
                have c17b0 : decide (0 ≤ x6_2) = true := decide_eq_true c17
                have H' := Aside0.mk H
                clear H
                obtain ⟨ad137, A137_0, c137_0, e137, hx137_0, hl137_0, hi137_0⟩ := at_L1 (Kd.S_reads' (AL_S HAL.out).1).2.2 x6_2 c17 c16
                cases e137
                obtain ⟨A138, c138, hc138, HM⟩ := AL_get HAL.out x6_2 c17 c16 HIX.out
                have e138 := Option.some.inj (hc138.symm.trans hx137_0)
                clear hc138
                rw [e138] at HM
                clear e138
                have HAM := Aside0.mk HM
                clear HM HAL hl137_0 hi137_0
                have p137 : (0 ≤ (x6_2 : Int)) = True := eq_true c17
                have q137 : (x6_2 < (x0_1.length : Int)) = True := eq_true c16
                clear c16 c17
                go_wp2
                go_loopg [7, 8] k2 (fun kq v7 v8 w' => ∃ (x7_3 : List ByteArray) (x8_3 : Int), v8 = .int .i64 x8_3 ∧ Aside0 (abacuslaw20_apart.l3 kq x0_1 x5_2 x6_2 x7_3 x8_3 = some r) ∧ Aside0 (kq ≤ k2) ∧ Aside0 (AM w' w.heap.size (.slice (some ad137) x0_1.length co15) u5 x0_1 x5_2 v7 x7_3) ∧ Aside0 (Below w.heap.size w w'))
                case atStart => exact ⟨(rd_L1 x0_1 x6_2), (0), (by first | rfl | (simp; done) | (simp [*]; done)), H', ⟨Nat.le_refl _⟩, ⟨by (with_reducible repeat (first | apply AM_alloc | apply AM_drewN | apply AM_drew)); exact HAM.out⟩, ⟨by repeat (first | (with_reducible first | exact HB.out | apply below_alloc | apply pw_below_drewN | apply below_drew1) | exact HB.out)⟩⟩
                case round =>
                  clear H'
                  try clear c1
                  try clear p1
                  try clear q1
                  try clear hx1
                  try clear hf1
                  try clear p2
                  try clear c3
                  try clear c3b0
                  try clear c5
                  try clear c5b0
                  try clear c6
                  try clear c6b0
                  try clear p6
                  try clear c7
                  try clear c7b0
                  try clear c9
                  try clear c9b0
                  try clear p10
                  try clear q10
                  try clear hx10
                  try clear hf10
                  try clear c13
                  try clear p13
                  try clear q13
                  try clear hx13
                  try clear c15
                  try clear hx10_0
                  try clear hx131_0
                  try clear hx132_0
                  try clear p131
                  try clear p132
                  try clear q131
                  try clear q132
                  try clear c16
                  try clear c16b0
                  try clear c17
                  try clear c17b0
                  try clear hx137_0
                  try clear p137
                  try clear q137
                  obtain ⟨x7_3, x8_3, rfl, HA, HK3, HAM, HB⟩ := hrel
                  cases gk with
                  | zero => exact absurd HA.out (by simp [abacuslaw20_apart.l3])
                  | succ k3 =>
                    have H := HA.out
                    clear HA
                    simp only [abacuslaw20_apart.l3] at H
                    by_cases c20 : x8_3 < 16
                    · rw [if_pos c20] at H
                      have c20b0 : decide (x8_3 < 16) = true := decide_eq_true c20
                      clear c20
                      replace H := Option.bind_eq_some_iff.mp H
                      obtain ⟨t141, A210, H⟩ := H
                      replace H : (if x7_3.length < 8796093022208 then (abacuslaw20_apart.l3 k3 x0_1 x5_2 x6_2 (x7_3 ++ [t141]) (wrap64 (x8_3 + 1))) else (none)) = some r := H
                      have A21 := Aside0.mk A210
                      clear A210
                      by_cases c22 : x7_3.length < 8796093022208
                      · rw [if_pos c22] at H
                        have LMc22 := Aside0.mk c22
                        clear c22
                        obtain ⟨y142, hy142⟩ : ∃ y_ : List ByteArray, y_ = (x7_3 ++ [t141]) := ⟨_, rfl⟩
                        replace H : (abacuslaw20_apart.l3 k3 x0_1 x5_2 x6_2 y142 (wrap64 (x8_3 + 1))) = some r := by first | (rw [hy142]; with_reducible exact H) | (have H2_ := (Option.bind_some _ _).symm.trans H; rw [hy142]; with_reducible exact H2_) | (have H2_ := (Option.bind_some _ _).symm.trans H; with_reducible exact H2_) | with_reducible exact H | (rw [hy142]; exact H) | exact H
                        have Ny142 := Aside0.mk hy142
                        clear hy142
                        have H' := Aside0.mk H
                        clear H
                        obtain ⟨Ao23, co23, eo23⟩ := AM_slice HAM.out
                        subst eo23
                        go_wp2_with (first | ((with_reducible refine gate_callee (f := 31) rfl ?_); refine goesL_ (some 54) rfl rfl Tryd.func31 (by kernel_rfl) rfl #[.int .i64 x6_2, .int .i64 (x7_3.length : Int)] rfl (by (try simp only [List.map_toArray, List.map_cons, List.map_nil]); first | done | rfl | (simp only [List.length_drop, List.length_take]; rfl)) ?_; (with_reducible refine (abacuslaw20_mark.calls x6_2 (x7_3.length : Int) t141 _ A21.out).mono ?_); rintro e w24 ⟨rfl, hb⟩; refine ⟨_, rfl, ?_⟩; have n0_ := Aside0.mk (AM_below (by (with_reducible repeat (first | apply AM_alloc | apply AM_drewN | apply AM_drew)); exact HAM.out) hb); have n3_ := Aside0.mk (below_step (by repeat (first | (with_reducible first | exact HB.out | apply below_alloc | apply pw_below_drewN | apply below_drew1) | exact HB.out)) hb); clear HAM; clear HB; have HAM := n0_; have HB := n3_; clear n0_ n3_; (try clear hb)) | ((with_reducible refine gate_builtin (b := .append) (xs := #[.tmp 50, .tmp 55]) rfl ?_); at_builtin; refine AM_append (w0 := w) (B := w.heap.size) (bv := .slice (some ad137) x0_1.length co15) (gv := u5) (lv := .slice Ao23 x7_3.length co23) (L := x0_1) (G := x5_2) (l := x7_3) rfl (.tmp 50) (.tmp 55) rfl t141 rfl rfl ?aO ?aB ?aS ?aL ?_; (case aO => exact (by (with_reducible repeat (first | apply AM_alloc | apply AM_drewN | apply AM_drew)); exact HAM.out)); (case aB => exact (by repeat (first | (with_reducible first | exact HB.out | apply below_alloc | apply pw_below_drewN | apply below_drew1) | exact HB.out))); (case aS => exact (below_size (by repeat (first | (with_reducible first | exact HB.out | apply below_alloc | apply pw_below_drewN | apply below_drew1) | exact HB.out)))); (case aL => have := LMc22.out; omega); intro v143 w25 ho hb; rw [← Ny142.out] at ho; have n0_ := Aside0.mk ho; have n2_ := Aside0.mk hb; clear HAM; clear HB; have HAM := n0_; have HB := n2_; clear n0_ n2_; clear ho hb))
                        go_roundg k3
                        case measure => have := HK1.out; have := HK2.out; have := HK3.out; omega
                        case rel => exact ⟨(y142), (wrap64 (x8_3 + 1)), (by first | rfl | (simp; done) | (simp [*]; done)), H', ⟨by have := HK1.out; have := HK2.out; have := HK3.out; omega⟩, ⟨by (with_reducible repeat (first | apply AM_alloc | apply AM_drewN | apply AM_drew)); exact HAM.out⟩, ⟨by repeat (first | (with_reducible first | exact HB.out | apply below_alloc | apply pw_below_drewN | apply below_drew1) | exact HB.out)⟩⟩
                      · rw [if_neg c22] at H
                        exact absurd H (by simp)
                    · rw [if_neg c20] at H
                      have c20b0 : decide (x8_3 < 16) = false := decide_eq_false c20
                      clear c20
                      by_cases c26 : x5_2.length < 5864062014805
                      · rw [if_pos c26] at H
                        have LMc26 := Aside0.mk c26
                        clear c26
                        obtain ⟨y145, hy145⟩ : ∃ y_ : List (List ByteArray), y_ = (x5_2 ++ [x7_3]) := ⟨_, rfl⟩
                        replace H : (abacuslaw20_apart.l2 k3 x0_1 y145 (wrap64 (x6_2 + 1))) = some r := by first | (rw [hy145]; with_reducible exact H) | (have H2_ := (Option.bind_some _ _).symm.trans H; rw [hy145]; with_reducible exact H2_) | (have H2_ := (Option.bind_some _ _).symm.trans H; with_reducible exact H2_) | with_reducible exact H | (rw [hy145]; exact H) | exact H
                        have HIY : Aside0 (wrap64 (x6_2 + 1) = (y145.length : Int)) := ⟨by have e1 := HIX.out; have e2 := LMc26.out; rw [hy145, List.length_append, List.length_singleton]; unfold wrap64; omega⟩
                        have Ny145 := Aside0.mk hy145
                        clear hy145
                        have H' := Aside0.mk H
                        clear H
                        obtain ⟨Ao28, co28, eo28⟩ := AM_slice HAM.out
                        subst eo28
                        go_wp2_with (first | ((with_reducible refine gate_builtin (b := .append) (xs := #[.tmp 57, .tmp 59]) rfl ?_); at_builtin; refine AM_done (w0 := w) (B := w.heap.size) (bv := .slice (some ad137) x0_1.length co15) (gv := u5) (lv := .slice Ao28 x7_3.length co28) (L := x0_1) (G := x5_2) (l := x7_3) rfl (.tmp 57) (.tmp 59) rfl rfl rfl ?aO ?aB ?aS ?aL ?_; (case aO => exact (by (with_reducible repeat (first | apply AM_alloc | apply AM_drewN | apply AM_drew)); exact HAM.out)); (case aB => exact (by repeat (first | (with_reducible first | exact HB.out | apply below_alloc | apply pw_below_drewN | apply below_drew1) | exact HB.out))); (case aS => exact (below_size (by repeat (first | (with_reducible first | exact HB.out | apply below_alloc | apply pw_below_drewN | apply below_drew1) | exact HB.out)))); (case aL => have := LMc26.out; omega); intro v146 w27 ho hb; rw [← Ny145.out] at ho; have n0_ := Aside0.mk ho; have n1_ := Aside0.mk hb; clear HAM; clear HB; have HAL := n0_; have HB := n1_; clear n0_ n1_; clear ho hb))
                        go_roundg k3
                        case measure => have := HK1.out; have := HK2.out; have := HK3.out; omega
                        case rel => exact ⟨(y145), (wrap64 (x6_2 + 1)), (by first | rfl | (simp; done) | (simp [*]; done)), H', ⟨by have := HK1.out; have := HK2.out; have := HK3.out; omega⟩, ⟨by (with_reducible repeat (first | apply AL_alloc | apply AL_drewN | apply AL_drew)); exact HAL.out⟩, HIY, ⟨by repeat (first | (with_reducible first | exact HB.out | apply below_alloc | apply pw_below_drewN | apply below_drew1) | exact HB.out)⟩⟩
                      · rw [if_neg c26] at H
                        exact absurd H (by simp)
              · rw [if_neg c17] at H
                exact absurd H (by simp)
            · rw [if_neg c16] at H
              have c16b0 : decide (x6_2 < (x0_1.length : Int)) = false := decide_eq_false c16
              clear c16
              have H' := Aside0.mk H
              clear H
              have HO_0 := Aside0.mk (AL_S HAL.out).1
              have HO_5 := Aside0.mk (AL_S HAL.out).2
              clear HAL HIX
              go_wp2
              go_loopg [9] k2 (fun kq v9 w' => ∃ (x9_3 : Int), v9 = .int .i64 x9_3 ∧ Aside0 (abacuslaw20_apart.l4 kq x0_1 x5_2 x9_3 = some r) ∧ Aside0 (kq ≤ k2) ∧ Aside0 (Kd.S (Kd.slice 9 Kd.string) 24 w' w.heap.size (fun k_ => some k_ ≠ (u5 : Value).ownBlock) (.slice Ao15 x0_1.length co15) x0_1) ∧ Aside0 (Kd.S (Kd.slice 9 Kd.string) 24 w' w.heap.size (fun k_ => some k_ ≠ ((.slice Ao15 x0_1.length co15) : Value).ownBlock) u5 x5_2) ∧ Aside0 (Below w.heap.size w w'))
              case atStart => exact ⟨(0), (by first | rfl | (simp; done) | (simp [*]; done)), H', ⟨Nat.le_refl _⟩, ⟨by (with_reducible repeat (first | apply Kd.S_alloc | apply Kd.S_drewN | apply Kd.S_drew)); exact HO_0.out⟩, ⟨by (with_reducible repeat (first | apply Kd.S_alloc | apply Kd.S_drewN | apply Kd.S_drew)); exact HO_5.out⟩, ⟨by repeat (first | (with_reducible first | exact HB.out | apply below_alloc | apply pw_below_drewN | apply below_drew1) | exact HB.out)⟩⟩
              case round =>
                clear H'
                try clear c1
                try clear p1
                try clear q1
                try clear hx1
                try clear hf1
                try clear c2
                try clear p2
                try clear c3
                try clear c3b0
                try clear c5
                try clear c5b0
                try clear c6
                try clear c6b0
                try clear p6
                try clear c7
                try clear c7b0
                try clear c9
                try clear c9b0
                try clear p10
                try clear q10
                try clear hx10
                try clear hf10
                try clear c13
                try clear p13
                try clear q13
                try clear hx13
                try clear c15
                try clear c16
                try clear c16b0
                try clear c17
                try clear c17b0
                try clear c20
                try clear c20b0
                try clear c22
                try clear c26
                try clear hx10_0
                try clear hx131_0
                try clear hx132_0
                try clear hx137_0
                try clear p1
                try clear p10
                try clear p13
                try clear p131
                try clear p132
                try clear p137
                try clear p2
                try clear p6
                try clear q1
                try clear q10
                try clear q13
                try clear q131
                try clear q132
                try clear q137
                obtain ⟨x9_3, rfl, HA, HK3, HO_0, HO_5, HB⟩ := hrel
                cases gk with
                | zero => exact absurd HA.out (by simp [abacuslaw20_apart.l4])
                | succ k3 =>
                  have H := HA.out
                  clear HA
                  simp only [abacuslaw20_apart.l4] at H
                  by_cases c29 : x9_3 < (x0_1.length : Int)
                  · rw [if_pos c29] at H
                    have c29b0 : decide (x9_3 < (x0_1.length : Int)) = true := decide_eq_true c29
                    clear c29
                    have H' := Aside0.mk H
                    clear H
                    go_wp2
                    go_loopg [10] k3 (fun kq v10 w' => ∃ (x10_4 : Int), v10 = .int .i64 x10_4 ∧ Aside0 (abacuslaw20_apart.l5 kq x0_1 x5_2 x9_3 x10_4 = some r) ∧ Aside0 (kq ≤ k3) ∧ Aside0 (Kd.S (Kd.slice 9 Kd.string) 24 w' w.heap.size (fun k_ => some k_ ≠ (u5 : Value).ownBlock) (.slice Ao15 x0_1.length co15) x0_1) ∧ Aside0 (Kd.S (Kd.slice 9 Kd.string) 24 w' w.heap.size (fun k_ => some k_ ≠ ((.slice Ao15 x0_1.length co15) : Value).ownBlock) u5 x5_2) ∧ Aside0 (Below w.heap.size w w'))
                    case atStart => exact ⟨(0), (by first | rfl | (simp; done) | (simp [*]; done)), H', ⟨Nat.le_refl _⟩, ⟨by (with_reducible repeat (first | apply Kd.S_alloc | apply Kd.S_drewN | apply Kd.S_drew)); exact HO_0.out⟩, ⟨by (with_reducible repeat (first | apply Kd.S_alloc | apply Kd.S_drewN | apply Kd.S_drew)); exact HO_5.out⟩, ⟨by repeat (first | (with_reducible first | exact HB.out | apply below_alloc | apply pw_below_drewN | apply below_drew1) | exact HB.out)⟩⟩
                    case round =>
                      clear H'
                      try clear c1
                      try clear p1
                      try clear q1
                      try clear hx1
                      try clear hf1
                      try clear c2
                      try clear p2
                      try clear c3
                      try clear c3b0
                      try clear c5
                      try clear c5b0
                      try clear c6
                      try clear c6b0
                      try clear p6
                      try clear c7
                      try clear c7b0
                      try clear c9
                      try clear c9b0
                      try clear p10
                      try clear q10
                      try clear hx10
                      try clear hf10
                      try clear c13
                      try clear p13
                      try clear q13
                      try clear hx13
                      try clear c15
                      try clear c16
                      try clear c16b0
                      try clear c17
                      try clear c17b0
                      try clear c20
                      try clear c20b0
                      try clear c22
                      try clear c26
                      try clear c29
                      try clear c29b0
                      try clear hx10_0
                      try clear hx131_0
                      try clear hx132_0
                      try clear hx137_0
                      try clear p1
                      try clear p10
                      try clear p13
                      try clear p131
                      try clear p132
                      try clear p137
                      try clear p2
                      try clear p6
                      try clear q1
                      try clear q10
                      try clear q13
                      try clear q131
                      try clear q132
                      try clear q137
                      obtain ⟨x10_4, rfl, HA, HK4, HO_0, HO_5, HB⟩ := hrel
                      cases gk with
                      | zero => exact absurd HA.out (by simp [abacuslaw20_apart.l5])
                      | succ k4 =>
                        have H := HA.out
                        clear HA
                        simp only [abacuslaw20_apart.l5] at H
                        by_cases c30 : 0 ≤ x9_3
                        · rw [if_pos c30] at H
                          have c30b0 : decide (0 ≤ x9_3) = true := decide_eq_true c30
                          clear c30
                          by_cases c31 : x9_3 < (x0_1.length : Int)
                          · rw [if_pos c31] at H
                            have c31b0 : decide (x9_3 < (x0_1.length : Int)) = true := decide_eq_true c31
                            clear c31
                            by_cases c32 : x10_4 < ((rd_L1 x0_1 x9_3).length : Int)
                            · rw [if_pos c32] at H
                              have c32b0 : decide (x10_4 < ((rd_L1 x0_1 x9_3).length : Int)) = true := decide_eq_true c32
                              clear c32
                              by_cases c33 : 0 ≤ x10_4
                              · rw [if_pos c33] at H
                                have c33b0 : decide (0 ≤ x10_4) = true := decide_eq_true c33
                                clear c33
                                replace H := Option.bind_eq_some_iff.mp H
                                obtain ⟨t151, A340, H⟩ := H
                                replace H : (if (rdOf ByteArray.empty (rd_L1 x0_1 x9_3) x10_4).toList = t151.toList then (abacuslaw20_apart.l5 k4 x0_1 x5_2 x9_3 (wrap64 (x10_4 + 1))) else (some false)) = some r := H
                                have A34 := Aside0.mk A340
                                clear A340
                                by_cases c35 : (rdOf ByteArray.empty (rd_L1 x0_1 x9_3) x10_4).toList = t151.toList
                                · rw [if_pos c35] at H
                                  have c35b0 : ((rdOf ByteArray.empty (rd_L1 x0_1 x9_3) x10_4).toList == t151.toList) = true := beq_iff_eq.mpr c35
                                  have c35b1 : ((rdOf ByteArray.empty (rd_L1 x0_1 x9_3) x10_4).toList != t151.toList) = false := bne_eq_false_iff_eq.mpr c35
                                  clear c35
                                  have H' := Aside0.mk H
                                  clear H
                                  have p148 : 0 ≤ (x9_3 : Int) := of_decide_eq_true (by first | (with_reducible assumption) | assumption)
                                  have q148 : x9_3 < (x0_1.length : Int) := of_decide_eq_true (by first | (with_reducible assumption) | assumption)
                                  obtain ⟨ad148, A148_0, c148_0, e148, hx148_0, hl148_0, hi148_0⟩ := at_L1 (Kd.S_reads' HO_0.out).2.2 x9_3 p148 q148
                                  cases e148
                                  obtain ⟨ce148, hce148, hMe148, hcc148⟩ := Kd.S_get HO_0.out [] x9_3 p148 (by first | exact q148 | exact of_decide_eq_true (by first | (with_reducible assumption) | assumption) | (have e_ := (Kd.S_reads' HO_0.out).1; omega))
                                  obtain ⟨ve148_0, rfl, ge148_0⟩ := hMe148
                                  have hv148_0 := hcc148 0 _ rfl
                                  rw [Nat.add_zero, show ((Kd.slice 9 Kd.string)).sz = 1 from rfl, Nat.mul_one] at hv148_0
                                  replace hv148_0 := Option.some.inj (hv148_0.symm.trans hx148_0)
                                  rw [hv148_0] at ge148_0
                                  have HL148_0 := Aside0.mk (show Kd.R Kd.string 9 _ _ _ _ (rd_L1 x0_1 x9_3) from ge148_0)
                                  clear hv148_0 ge148_0
                                  have HX148_0 := Aside0.mk hx148_0
                                  clear hcc148 hce148
                                  have HR148_0 := Aside0.mk hi148_0
                                  have HC148_0 := Aside0.mk hl148_0
                                  clear hi148_0 hl148_0
                                  replace p148 := eq_true p148
                                  replace q148 := eq_true q148
                                  try go_wp2
                                  have n0_ := Aside0.mk (Kd.S_drew HO_0.out)
                                  have n1_ := Aside0.mk (Kd.S_drew HO_5.out)
                                  have n2_ := Aside0.mk (Kd.R_drew HL148_0.out)
                                  have n3_ := Aside0.mk (Kd.C_drew HR148_0.out)
                                  have n4_ := Aside0.mk (below_drew1 HB.out)
                                  clear HO_0
                                  clear HO_5
                                  clear HL148_0
                                  clear HR148_0
                                  clear HB
                                  have HO_0 := n0_
                                  have HO_5 := n1_
                                  have HL148_0 := n2_
                                  have HR148_0 := n3_
                                  have HB := n4_
                                  clear n0_ n1_ n2_ n3_ n4_
                                  have p149 : 0 ≤ (x9_3 : Int) := of_decide_eq_true (by first | (with_reducible assumption) | assumption)
                                  have q149 : x9_3 < (x0_1.length : Int) := of_decide_eq_true (by first | (with_reducible assumption) | assumption)
                                  obtain ⟨ad149, A149_0, c149_0, e149, hx149_0, hl149_0, hi149_0⟩ := at_L1 (Kd.S_reads' HO_0.out).2.2 x9_3 p149 q149
                                  obtain rfl : ad148 = ad149 := (by injection e149)
                                  obtain ⟨ce149, hce149, hMe149, hcc149⟩ := Kd.S_get HO_0.out [] x9_3 p149 (by first | exact q149 | exact of_decide_eq_true (by first | (with_reducible assumption) | assumption) | (have e_ := (Kd.S_reads' HO_0.out).1; omega))
                                  obtain ⟨ve149_0, rfl, ge149_0⟩ := hMe149
                                  have hv149_0 := hcc149 0 _ rfl
                                  rw [Nat.add_zero, show ((Kd.slice 9 Kd.string)).sz = 1 from rfl, Nat.mul_one] at hv149_0
                                  replace hv149_0 := Option.some.inj (hv149_0.symm.trans hx149_0)
                                  rw [hv149_0] at ge149_0
                                  have HL149_0 := Aside0.mk (show Kd.R Kd.string 9 _ _ _ _ (rd_L1 x0_1 x9_3) from ge149_0)
                                  clear hv149_0 ge149_0
                                  have HX149_0 := Aside0.mk hx149_0
                                  clear hcc149 hce149
                                  have HR149_0 := Aside0.mk hi149_0
                                  have HC149_0 := Aside0.mk hl149_0
                                  clear hi149_0 hl149_0
                                  replace p149 := eq_true p149
                                  replace q149 := eq_true q149
                                  have p150 : 0 ≤ (x10_4 : Int) := of_decide_eq_true (by first | (with_reducible assumption) | assumption)
                                  have q150 : x10_4 < ((rd_L1 x0_1 x9_3).length : Int) := of_decide_eq_true (by first | (with_reducible assumption) | assumption)
                                  obtain ⟨ad150, e150, hx150_0⟩ := Kd.at_string (by repeat (first | (with_reducible exact HR149_0.out) | (with_reducible refine Kd.C_alloc ?_ _) | (with_reducible refine Kd.C_drewN ?_ _) | (with_reducible refine Kd.C_drew ?_) | exact HR149_0.out)) x10_4 p150 q150
                                  cases e150
                                  replace p150 := eq_true p150
                                  replace q150 := eq_true q150
                                  refine start_ (n := 11) (S := fun w' => w'.cell? (ad148.add (x9_3).toNat) = some (.slice (some ad150) (rd_L1 x0_1 x9_3).length c149_0) ∧ w'.cell? (ad150.add (x10_4).toNat) = some (.string (rdOf ByteArray.empty (rd_L1 x0_1 x9_3) x10_4))) (ds := []) #[false, false, false, false, false, false, false, false, false, false, false] (by kernel_rfl) rfl rfl ⟨hx149_0, hx150_0⟩ (fun hHeld => ?_); refine with_tabW abacuslaw20_apart.tab24 abacuslaw20_apart.bits24 (fun HT_ HW_ => ?_)
                                  generalize wr.drew = w36 at HO_0 HO_5 HL148_0 HR148_0 HB HL149_0 HR149_0 HX149_0 hx149_0 hx150_0 hHeld ⊢
                                  refine pure_ (i := 0) (N := some 76) (v := ?_) (a' := ?_) #[true, false, false, false, false, false, false, false, false, false, false] rfl rfl (any_of HT_.out (by kernel_rfl)) (fun _ _ _ h => h) (Or.inl ⟨by rfl, ?_⟩) ?_ ?_
                                  rotate_left
                                  · intro w'
                                    go_simp
                                    with_reducible rfl
                                  rotate_left
                                  · simp only [Act.put, List.setIfInBounds_toArray, List.set_cons_zero, List.set_cons_succ, i64_w, i32_w]
                                    rfl
                                  refine pure_ (i := 1) (N := some 77) (v := ?_) (a' := ?_) #[true, true, false, false, false, false, false, false, false, false, false] rfl rfl (any_of HT_.out (by kernel_rfl)) (fun _ _ _ h => h) (Or.inl ⟨by rfl, ?_⟩) ?_ ?_
                                  rotate_left
                                  · intro w'
                                    go_simp
                                    with_reducible rfl
                                  rotate_left
                                  · simp only [Act.put, List.setIfInBounds_toArray, List.set_cons_zero, List.set_cons_succ, i64_w, i32_w]
                                    rfl
                                  refine pure_ (i := 2) (N := some 78) (v := ?_) (a' := ?_) #[true, true, true, false, false, false, false, false, false, false, false] rfl rfl (any_of HT_.out (by kernel_rfl)) (fun _ _ _ h => h) (Or.inl ⟨by rfl, ?_⟩) ?_ ?_
                                  rotate_left
                                  · intro w'
                                    go_simp
                                    with_reducible rfl
                                  rotate_left
                                  · simp only [Act.put, List.setIfInBounds_toArray, List.set_cons_zero, List.set_cons_succ, i64_w, i32_w]
                                    rfl
                                  refine pure_ (i := 4) (N := some 80) (v := ?_) (a' := ?_) #[true, true, true, false, true, false, false, false, false, false, false] rfl rfl (any_of HT_.out (by kernel_rfl)) (fun _ _ _ h => h) (Or.inl ⟨by rfl, ?_⟩) ?_ ?_
                                  rotate_left
                                  · intro w'
                                    go_simp
                                    with_reducible rfl
                                  rotate_left
                                  · simp only [Act.put, List.setIfInBounds_toArray, List.set_cons_zero, List.set_cons_succ, i64_w, i32_w]
                                    rfl
                                  refine pure_ (i := 7) (N := some 83) (v := ?_) (a' := ?_) #[true, true, true, false, true, false, false, true, false, false, false] rfl rfl (any_of HT_.out (by kernel_rfl)) (fun _ _ _ h => h) (Or.inl ⟨by rfl, ?_⟩) ?_ ?_
                                  rotate_left
                                  · intro w'
                                    go_simp
                                    with_reducible rfl
                                  rotate_left
                                  · simp only [Act.put, List.setIfInBounds_toArray, List.set_cons_zero, List.set_cons_succ, i64_w, i32_w]
                                    rfl
                                  refine pure_ (i := 8) (N := some 84) (v := ?_) (a' := ?_) #[true, true, true, false, true, false, false, true, true, false, false] rfl rfl (any_of HT_.out (by kernel_rfl)) (fun _ _ _ h => h) (Or.inl ⟨by rfl, ?_⟩) ?_ ?_
                                  rotate_left
                                  · intro w'
                                    go_simp
                                    with_reducible rfl
                                  rotate_left
                                  · simp only [Act.put, List.setIfInBounds_toArray, List.set_cons_zero, List.set_cons_succ, i64_w, i32_w]
                                    rfl
                                  refine take_ (i := 3) (N := some 79) (v := ?_) (a' := ?_) #[true, true, true, true, true, false, false, true, true, false, false] rfl rfl (take_ofW HT_.out HW_.out (by kernel_rfl)) (fun _ _ _ h => h) (Or.inl ⟨by rfl, ?_⟩) hHeld ?_ ?_
                                  rotate_left
                                  · rintro w' ⟨s0, s1⟩
                                    go_simp
                                    with_reducible rfl
                                  rotate_left
                                  · simp only [Act.put, List.setIfInBounds_toArray, List.set_cons_zero, List.set_cons_succ, i64_w, i32_w]
                                    rfl
                                  refine pure_ (i := 5) (N := some 81) (v := ?_) (a' := ?_) #[true, true, true, true, true, true, false, true, true, false, false] rfl rfl (any_of HT_.out (by kernel_rfl)) (fun _ _ _ h => h) (Or.inl ⟨by rfl, ?_⟩) ?_ ?_
                                  rotate_left
                                  · intro w'
                                    go_simp
                                    with_reducible rfl
                                  rotate_left
                                  · simp only [Act.put, List.setIfInBounds_toArray, List.set_cons_zero, List.set_cons_succ, i64_w, i32_w]
                                    rfl
                                  refine take_ (i := 6) (N := some 82) (v := ?_) (a' := ?_) #[true, true, true, true, true, true, true, true, true, false, false] rfl rfl (take_ofW HT_.out HW_.out (by kernel_rfl)) (fun _ _ _ h => h) (Or.inl ⟨by rfl, ?_⟩) hHeld ?_ ?_
                                  rotate_left
                                  · rintro w' ⟨s0, s1⟩
                                    go_simp
                                    with_reducible rfl
                                  rotate_left
                                  · simp only [Act.put, List.setIfInBounds_toArray, List.set_cons_zero, List.set_cons_succ, i64_w, i32_w]
                                    rfl
                                  refine one_ (i := 9) (N := some 85) #[true, true, true, true, true, true, true, true, true, true, false] rfl rfl (one_of HT_.out (by kernel_rfl)) (by decide) (fun K hK => ?_)
                                  refine goes_ Tryd.func31 (by kernel_rfl) rfl #[.int .i64 x9_3, .int .i64 x10_4] (by rfl) rfl rfl (by (try simp only [List.map_toArray, List.map_cons, List.map_nil]); first | done | rfl | (simp only [List.length_drop, List.length_take]; rfl)) ?_
                                  with_reducible refine (abacuslaw20_mark.calls x9_3 x10_4 t151 _ A34.out).mono ?_
                                  rintro e w37 ⟨rfl, hb⟩
                                  have HS0_ := (hb.cell (World.block_lt_of_cell? _ _ (hHeld.1))).trans (hHeld.1)
                                  have HS1_ := (hb.cell (World.block_lt_of_cell? _ _ (hHeld.2))).trans (hHeld.2)
                                  refine ⟨_, rfl, ?_⟩
                                  have n0_ := Aside0.mk (Kd.S_below (by (with_reducible repeat (first | apply Kd.S_alloc | apply Kd.S_drewN | apply Kd.S_drew)); exact HO_0.out) hb)
                                  have n1_ := Aside0.mk (Kd.S_below (by (with_reducible repeat (first | apply Kd.S_alloc | apply Kd.S_drewN | apply Kd.S_drew)); exact HO_5.out) hb)
                                  have n2_ := Aside0.mk (Kd.R_below (by (with_reducible repeat (first | apply Kd.R_alloc | apply Kd.R_drewN | apply Kd.R_drew)); exact HL148_0.out) hb)
                                  have n3_ := Aside0.mk (Kd.R_below (by (with_reducible repeat (first | apply Kd.R_alloc | apply Kd.R_drewN | apply Kd.R_drew)); exact HL149_0.out) hb)
                                  have n4_ := Aside0.mk (Kd.C_below (by repeat (first | (with_reducible exact HR148_0.out) | (with_reducible refine Kd.C_alloc ?_ _) | (with_reducible refine Kd.C_drewN ?_ _) | (with_reducible refine Kd.C_drew ?_) | exact HR148_0.out)) hb)
                                  have n5_ := Aside0.mk (Kd.C_below (by repeat (first | (with_reducible exact HR149_0.out) | (with_reducible refine Kd.C_alloc ?_ _) | (with_reducible refine Kd.C_drewN ?_ _) | (with_reducible refine Kd.C_drew ?_) | exact HR149_0.out)) hb)
                                  have n6_ := Aside0.mk (pw_cell_below hb HX149_0.out)
                                  have n7_ := Aside0.mk (below_step (by repeat (first | (with_reducible first | exact HB.out | apply below_alloc | apply pw_below_drewN | apply below_drew1) | exact HB.out)) hb)
                                  clear HO_0
                                  clear HO_5
                                  clear HL148_0
                                  clear HL149_0
                                  clear HR148_0
                                  clear HR149_0
                                  clear HX149_0
                                  clear HB
                                  have HO_0 := n0_
                                  have HO_5 := n1_
                                  have HL148_0 := n2_
                                  have HL149_0 := n3_
                                  have HR148_0 := n4_
                                  have HR149_0 := n5_
                                  have HX149_0 := n6_
                                  have HB := n7_
                                  clear n0_ n1_ n2_ n3_ n4_ n5_ n6_ n7_
                                  (try clear hb)
                                  (try clear hb2)
                                  (try clear hk)
                                  (try clear hi)
                                  refine hK.out _ _ ⟨HS0_, HS1_⟩ (fun hHeld => ?_)
                                  clear hK K
                                  refine norm_ (a' := ?_) ?_ ?_
                                  rotate_left
                                  · show Act.put _ (some 85) _ = _
                                    simp only [Act.put, List.setIfInBounds_toArray, List.set_cons_zero, List.set_cons_succ, i64_w, i32_w]
                                    rfl
                                  refine pure_ (i := 10) (N := some 86) (v := ?_) (a' := ?_) #[true, true, true, true, true, true, true, true, true, true, true] rfl rfl (any_of HT_.out (by kernel_rfl)) (fun _ _ _ h => h) (Or.inl ⟨by rfl, ?_⟩) ?_ ?_
                                  rotate_left
                                  · intro w'
                                    go_simp
                                    with_reducible rfl
                                  rotate_left
                                  · simp only [Act.put, List.setIfInBounds_toArray, List.set_cons_zero, List.set_cons_succ, i64_w, i32_w]
                                    rfl
                                  refine done_ (done_of HT_.out (by kernel_rfl)) ?_
                                  try go_wp2
                                  go_roundg k4
                                  case measure => have := HK1.out; have := HK2.out; have := HK3.out; have := HK4.out; omega
                                  case rel => exact ⟨(wrap64 (x10_4 + 1)), (by first | rfl | (simp; done) | (simp [*]; done)), H', ⟨by have := HK1.out; have := HK2.out; have := HK3.out; have := HK4.out; omega⟩, ⟨by (with_reducible repeat (first | apply Kd.S_alloc | apply Kd.S_drewN | apply Kd.S_drew)); exact HO_0.out⟩, ⟨by (with_reducible repeat (first | apply Kd.S_alloc | apply Kd.S_drewN | apply Kd.S_drew)); exact HO_5.out⟩, ⟨by repeat (first | (with_reducible first | exact HB.out | apply below_alloc | apply pw_below_drewN | apply below_drew1) | exact HB.out)⟩⟩
                                · rw [if_neg c35] at H
                                  have c35b0 : ((rdOf ByteArray.empty (rd_L1 x0_1 x9_3) x10_4).toList == t151.toList) = false := beq_eq_false_iff_ne.mpr c35
                                  have c35b1 : ((rdOf ByteArray.empty (rd_L1 x0_1 x9_3) x10_4).toList != t151.toList) = true := bne_iff_ne.mpr c35
                                  obtain rfl := Option.some.inj H
                                  have p148 : 0 ≤ (x9_3 : Int) := of_decide_eq_true (by first | (with_reducible assumption) | assumption)
                                  have q148 : x9_3 < (x0_1.length : Int) := of_decide_eq_true (by first | (with_reducible assumption) | assumption)
                                  obtain ⟨ad148, A148_0, c148_0, e148, hx148_0, hl148_0, hi148_0⟩ := at_L1 (Kd.S_reads' HO_0.out).2.2 x9_3 p148 q148
                                  cases e148
                                  obtain ⟨ce148, hce148, hMe148, hcc148⟩ := Kd.S_get HO_0.out [] x9_3 p148 (by first | exact q148 | exact of_decide_eq_true (by first | (with_reducible assumption) | assumption) | (have e_ := (Kd.S_reads' HO_0.out).1; omega))
                                  obtain ⟨ve148_0, rfl, ge148_0⟩ := hMe148
                                  have hv148_0 := hcc148 0 _ rfl
                                  rw [Nat.add_zero, show ((Kd.slice 9 Kd.string)).sz = 1 from rfl, Nat.mul_one] at hv148_0
                                  replace hv148_0 := Option.some.inj (hv148_0.symm.trans hx148_0)
                                  rw [hv148_0] at ge148_0
                                  have HL148_0 := Aside0.mk (show Kd.R Kd.string 9 _ _ _ _ (rd_L1 x0_1 x9_3) from ge148_0)
                                  clear hv148_0 ge148_0
                                  have HX148_0 := Aside0.mk hx148_0
                                  clear hcc148 hce148
                                  have HR148_0 := Aside0.mk hi148_0
                                  have HC148_0 := Aside0.mk hl148_0
                                  clear hi148_0 hl148_0
                                  replace p148 := eq_true p148
                                  replace q148 := eq_true q148
                                  try go_wp2
                                  have n0_ := Aside0.mk (Kd.S_drew HO_0.out)
                                  have n1_ := Aside0.mk (Kd.S_drew HO_5.out)
                                  have n2_ := Aside0.mk (Kd.R_drew HL148_0.out)
                                  have n3_ := Aside0.mk (Kd.C_drew HR148_0.out)
                                  have n4_ := Aside0.mk (below_drew1 HB.out)
                                  clear HO_0
                                  clear HO_5
                                  clear HL148_0
                                  clear HR148_0
                                  clear HB
                                  have HO_0 := n0_
                                  have HO_5 := n1_
                                  have HL148_0 := n2_
                                  have HR148_0 := n3_
                                  have HB := n4_
                                  clear n0_ n1_ n2_ n3_ n4_
                                  have p149 : 0 ≤ (x9_3 : Int) := of_decide_eq_true (by first | (with_reducible assumption) | assumption)
                                  have q149 : x9_3 < (x0_1.length : Int) := of_decide_eq_true (by first | (with_reducible assumption) | assumption)
                                  obtain ⟨ad149, A149_0, c149_0, e149, hx149_0, hl149_0, hi149_0⟩ := at_L1 (Kd.S_reads' HO_0.out).2.2 x9_3 p149 q149
                                  obtain rfl : ad148 = ad149 := (by injection e149)
                                  obtain ⟨ce149, hce149, hMe149, hcc149⟩ := Kd.S_get HO_0.out [] x9_3 p149 (by first | exact q149 | exact of_decide_eq_true (by first | (with_reducible assumption) | assumption) | (have e_ := (Kd.S_reads' HO_0.out).1; omega))
                                  obtain ⟨ve149_0, rfl, ge149_0⟩ := hMe149
                                  have hv149_0 := hcc149 0 _ rfl
                                  rw [Nat.add_zero, show ((Kd.slice 9 Kd.string)).sz = 1 from rfl, Nat.mul_one] at hv149_0
                                  replace hv149_0 := Option.some.inj (hv149_0.symm.trans hx149_0)
                                  rw [hv149_0] at ge149_0
                                  have HL149_0 := Aside0.mk (show Kd.R Kd.string 9 _ _ _ _ (rd_L1 x0_1 x9_3) from ge149_0)
                                  clear hv149_0 ge149_0
                                  have HX149_0 := Aside0.mk hx149_0
                                  clear hcc149 hce149
                                  have HR149_0 := Aside0.mk hi149_0
                                  have HC149_0 := Aside0.mk hl149_0
                                  clear hi149_0 hl149_0
                                  replace p149 := eq_true p149
                                  replace q149 := eq_true q149
                                  have p150 : 0 ≤ (x10_4 : Int) := of_decide_eq_true (by first | (with_reducible assumption) | assumption)
                                  have q150 : x10_4 < ((rd_L1 x0_1 x9_3).length : Int) := of_decide_eq_true (by first | (with_reducible assumption) | assumption)
                                  obtain ⟨ad150, e150, hx150_0⟩ := Kd.at_string (by repeat (first | (with_reducible exact HR149_0.out) | (with_reducible refine Kd.C_alloc ?_ _) | (with_reducible refine Kd.C_drewN ?_ _) | (with_reducible refine Kd.C_drew ?_) | exact HR149_0.out)) x10_4 p150 q150
                                  cases e150
                                  replace p150 := eq_true p150
                                  replace q150 := eq_true q150
                                  refine start_ (n := 11) (S := fun w' => w'.cell? (ad148.add (x9_3).toNat) = some (.slice (some ad150) (rd_L1 x0_1 x9_3).length c149_0) ∧ w'.cell? (ad150.add (x10_4).toNat) = some (.string (rdOf ByteArray.empty (rd_L1 x0_1 x9_3) x10_4))) (ds := []) #[false, false, false, false, false, false, false, false, false, false, false] (by kernel_rfl) rfl rfl ⟨hx149_0, hx150_0⟩ (fun hHeld => ?_); refine with_tabW abacuslaw20_apart.tab24 abacuslaw20_apart.bits24 (fun HT_ HW_ => ?_)
                                  generalize wr.drew = w38 at HO_0 HO_5 HL148_0 HR148_0 HB HL149_0 HR149_0 HX149_0 hx149_0 hx150_0 hHeld ⊢
                                  refine pure_ (i := 0) (N := some 76) (v := ?_) (a' := ?_) #[true, false, false, false, false, false, false, false, false, false, false] rfl rfl (any_of HT_.out (by kernel_rfl)) (fun _ _ _ h => h) (Or.inl ⟨by rfl, ?_⟩) ?_ ?_
                                  rotate_left
                                  · intro w'
                                    go_simp
                                    with_reducible rfl
                                  rotate_left
                                  · simp only [Act.put, List.setIfInBounds_toArray, List.set_cons_zero, List.set_cons_succ, i64_w, i32_w]
                                    rfl
                                  refine pure_ (i := 1) (N := some 77) (v := ?_) (a' := ?_) #[true, true, false, false, false, false, false, false, false, false, false] rfl rfl (any_of HT_.out (by kernel_rfl)) (fun _ _ _ h => h) (Or.inl ⟨by rfl, ?_⟩) ?_ ?_
                                  rotate_left
                                  · intro w'
                                    go_simp
                                    with_reducible rfl
                                  rotate_left
                                  · simp only [Act.put, List.setIfInBounds_toArray, List.set_cons_zero, List.set_cons_succ, i64_w, i32_w]
                                    rfl
                                  refine pure_ (i := 2) (N := some 78) (v := ?_) (a' := ?_) #[true, true, true, false, false, false, false, false, false, false, false] rfl rfl (any_of HT_.out (by kernel_rfl)) (fun _ _ _ h => h) (Or.inl ⟨by rfl, ?_⟩) ?_ ?_
                                  rotate_left
                                  · intro w'
                                    go_simp
                                    with_reducible rfl
                                  rotate_left
                                  · simp only [Act.put, List.setIfInBounds_toArray, List.set_cons_zero, List.set_cons_succ, i64_w, i32_w]
                                    rfl
                                  refine pure_ (i := 4) (N := some 80) (v := ?_) (a' := ?_) #[true, true, true, false, true, false, false, false, false, false, false] rfl rfl (any_of HT_.out (by kernel_rfl)) (fun _ _ _ h => h) (Or.inl ⟨by rfl, ?_⟩) ?_ ?_
                                  rotate_left
                                  · intro w'
                                    go_simp
                                    with_reducible rfl
                                  rotate_left
                                  · simp only [Act.put, List.setIfInBounds_toArray, List.set_cons_zero, List.set_cons_succ, i64_w, i32_w]
                                    rfl
                                  refine pure_ (i := 7) (N := some 83) (v := ?_) (a' := ?_) #[true, true, true, false, true, false, false, true, false, false, false] rfl rfl (any_of HT_.out (by kernel_rfl)) (fun _ _ _ h => h) (Or.inl ⟨by rfl, ?_⟩) ?_ ?_
                                  rotate_left
                                  · intro w'
                                    go_simp
                                    with_reducible rfl
                                  rotate_left
                                  · simp only [Act.put, List.setIfInBounds_toArray, List.set_cons_zero, List.set_cons_succ, i64_w, i32_w]
                                    rfl
                                  refine pure_ (i := 8) (N := some 84) (v := ?_) (a' := ?_) #[true, true, true, false, true, false, false, true, true, false, false] rfl rfl (any_of HT_.out (by kernel_rfl)) (fun _ _ _ h => h) (Or.inl ⟨by rfl, ?_⟩) ?_ ?_
                                  rotate_left
                                  · intro w'
                                    go_simp
                                    with_reducible rfl
                                  rotate_left
                                  · simp only [Act.put, List.setIfInBounds_toArray, List.set_cons_zero, List.set_cons_succ, i64_w, i32_w]
                                    rfl
                                  refine take_ (i := 3) (N := some 79) (v := ?_) (a' := ?_) #[true, true, true, true, true, false, false, true, true, false, false] rfl rfl (take_ofW HT_.out HW_.out (by kernel_rfl)) (fun _ _ _ h => h) (Or.inl ⟨by rfl, ?_⟩) hHeld ?_ ?_
                                  rotate_left
                                  · rintro w' ⟨s0, s1⟩
                                    go_simp
                                    with_reducible rfl
                                  rotate_left
                                  · simp only [Act.put, List.setIfInBounds_toArray, List.set_cons_zero, List.set_cons_succ, i64_w, i32_w]
                                    rfl
                                  refine pure_ (i := 5) (N := some 81) (v := ?_) (a' := ?_) #[true, true, true, true, true, true, false, true, true, false, false] rfl rfl (any_of HT_.out (by kernel_rfl)) (fun _ _ _ h => h) (Or.inl ⟨by rfl, ?_⟩) ?_ ?_
                                  rotate_left
                                  · intro w'
                                    go_simp
                                    with_reducible rfl
                                  rotate_left
                                  · simp only [Act.put, List.setIfInBounds_toArray, List.set_cons_zero, List.set_cons_succ, i64_w, i32_w]
                                    rfl
                                  refine take_ (i := 6) (N := some 82) (v := ?_) (a' := ?_) #[true, true, true, true, true, true, true, true, true, false, false] rfl rfl (take_ofW HT_.out HW_.out (by kernel_rfl)) (fun _ _ _ h => h) (Or.inl ⟨by rfl, ?_⟩) hHeld ?_ ?_
                                  rotate_left
                                  · rintro w' ⟨s0, s1⟩
                                    go_simp
                                    with_reducible rfl
                                  rotate_left
                                  · simp only [Act.put, List.setIfInBounds_toArray, List.set_cons_zero, List.set_cons_succ, i64_w, i32_w]
                                    rfl
                                  refine one_ (i := 9) (N := some 85) #[true, true, true, true, true, true, true, true, true, true, false] rfl rfl (one_of HT_.out (by kernel_rfl)) (by decide) (fun K hK => ?_)
                                  refine goes_ Tryd.func31 (by kernel_rfl) rfl #[.int .i64 x9_3, .int .i64 x10_4] (by rfl) rfl rfl (by (try simp only [List.map_toArray, List.map_cons, List.map_nil]); first | done | rfl | (simp only [List.length_drop, List.length_take]; rfl)) ?_
                                  with_reducible refine (abacuslaw20_mark.calls x9_3 x10_4 t151 _ A34.out).mono ?_
                                  rintro e w39 ⟨rfl, hb⟩
                                  have HS0_ := (hb.cell (World.block_lt_of_cell? _ _ (hHeld.1))).trans (hHeld.1)
                                  have HS1_ := (hb.cell (World.block_lt_of_cell? _ _ (hHeld.2))).trans (hHeld.2)
                                  refine ⟨_, rfl, ?_⟩
                                  have n0_ := Aside0.mk (Kd.S_below (by (with_reducible repeat (first | apply Kd.S_alloc | apply Kd.S_drewN | apply Kd.S_drew)); exact HO_0.out) hb)
                                  have n1_ := Aside0.mk (Kd.S_below (by (with_reducible repeat (first | apply Kd.S_alloc | apply Kd.S_drewN | apply Kd.S_drew)); exact HO_5.out) hb)
                                  have n2_ := Aside0.mk (Kd.R_below (by (with_reducible repeat (first | apply Kd.R_alloc | apply Kd.R_drewN | apply Kd.R_drew)); exact HL148_0.out) hb)
                                  have n3_ := Aside0.mk (Kd.R_below (by (with_reducible repeat (first | apply Kd.R_alloc | apply Kd.R_drewN | apply Kd.R_drew)); exact HL149_0.out) hb)
                                  have n4_ := Aside0.mk (Kd.C_below (by repeat (first | (with_reducible exact HR148_0.out) | (with_reducible refine Kd.C_alloc ?_ _) | (with_reducible refine Kd.C_drewN ?_ _) | (with_reducible refine Kd.C_drew ?_) | exact HR148_0.out)) hb)
                                  have n5_ := Aside0.mk (Kd.C_below (by repeat (first | (with_reducible exact HR149_0.out) | (with_reducible refine Kd.C_alloc ?_ _) | (with_reducible refine Kd.C_drewN ?_ _) | (with_reducible refine Kd.C_drew ?_) | exact HR149_0.out)) hb)
                                  have n6_ := Aside0.mk (pw_cell_below hb HX149_0.out)
                                  have n7_ := Aside0.mk (below_step (by repeat (first | (with_reducible first | exact HB.out | apply below_alloc | apply pw_below_drewN | apply below_drew1) | exact HB.out)) hb)
                                  clear HO_0
                                  clear HO_5
                                  clear HL148_0
                                  clear HL149_0
                                  clear HR148_0
                                  clear HR149_0
                                  clear HX149_0
                                  clear HB
                                  have HO_0 := n0_
                                  have HO_5 := n1_
                                  have HL148_0 := n2_
                                  have HL149_0 := n3_
                                  have HR148_0 := n4_
                                  have HR149_0 := n5_
                                  have HX149_0 := n6_
                                  have HB := n7_
                                  clear n0_ n1_ n2_ n3_ n4_ n5_ n6_ n7_
                                  (try clear hb)
                                  (try clear hb2)
                                  (try clear hk)
                                  (try clear hi)
                                  refine hK.out _ _ ⟨HS0_, HS1_⟩ (fun hHeld => ?_)
                                  clear hK K
                                  refine norm_ (a' := ?_) ?_ ?_
                                  rotate_left
                                  · show Act.put _ (some 85) _ = _
                                    simp only [Act.put, List.setIfInBounds_toArray, List.set_cons_zero, List.set_cons_succ, i64_w, i32_w]
                                    rfl
                                  refine pure_ (i := 10) (N := some 86) (v := ?_) (a' := ?_) #[true, true, true, true, true, true, true, true, true, true, true] rfl rfl (any_of HT_.out (by kernel_rfl)) (fun _ _ _ h => h) (Or.inl ⟨by rfl, ?_⟩) ?_ ?_
                                  rotate_left
                                  · intro w'
                                    go_simp
                                    with_reducible rfl
                                  rotate_left
                                  · simp only [Act.put, List.setIfInBounds_toArray, List.set_cons_zero, List.set_cons_succ, i64_w, i32_w]
                                    rfl
                                  refine done_ (done_of HT_.out (by kernel_rfl)) ?_
                                  try go_wp2
                                  go_ret
                                  exact ⟨by first | rfl | (simp [errW_none, errW_some] <;> rfl) | (simp [*, errW_none, errW_some] <;> rfl), by repeat (first | (with_reducible first | exact HB.out | apply below_alloc | apply pw_below_drewN | apply below_drew1) | exact HB.out)⟩
                              · rw [if_neg c33] at H
                                exact absurd H (by simp)
                            · rw [if_neg c32] at H
                              have c32b0 : decide (x10_4 < ((rd_L1 x0_1 x9_3).length : Int)) = false := decide_eq_false c32
                              clear c32
                              have H' := Aside0.mk H
                              clear H
                              have p148 : 0 ≤ (x9_3 : Int) := of_decide_eq_true (by first | (with_reducible assumption) | assumption)
                              have q148 : x9_3 < (x0_1.length : Int) := of_decide_eq_true (by first | (with_reducible assumption) | assumption)
                              obtain ⟨ad148, A148_0, c148_0, e148, hx148_0, hl148_0, hi148_0⟩ := at_L1 (Kd.S_reads' HO_0.out).2.2 x9_3 p148 q148
                              cases e148
                              obtain ⟨ce148, hce148, hMe148, hcc148⟩ := Kd.S_get HO_0.out [] x9_3 p148 (by first | exact q148 | exact of_decide_eq_true (by first | (with_reducible assumption) | assumption) | (have e_ := (Kd.S_reads' HO_0.out).1; omega))
                              obtain ⟨ve148_0, rfl, ge148_0⟩ := hMe148
                              have hv148_0 := hcc148 0 _ rfl
                              rw [Nat.add_zero, show ((Kd.slice 9 Kd.string)).sz = 1 from rfl, Nat.mul_one] at hv148_0
                              replace hv148_0 := Option.some.inj (hv148_0.symm.trans hx148_0)
                              rw [hv148_0] at ge148_0
                              have HL148_0 := Aside0.mk (show Kd.R Kd.string 9 _ _ _ _ (rd_L1 x0_1 x9_3) from ge148_0)
                              clear hv148_0 ge148_0
                              have HX148_0 := Aside0.mk hx148_0
                              clear hcc148 hce148
                              have HR148_0 := Aside0.mk hi148_0
                              have HC148_0 := Aside0.mk hl148_0
                              clear hi148_0 hl148_0
                              replace p148 := eq_true p148
                              replace q148 := eq_true q148
                              go_wp2
                              go_loopg [11] k4 (fun kq v11 w' => ∃ (x11_5 : Int), v11 = .int .i64 x11_5 ∧ Aside0 (abacuslaw20_apart.l6 kq x0_1 x5_2 x9_3 x11_5 = some r) ∧ Aside0 (kq ≤ k4) ∧ Aside0 (Kd.S (Kd.slice 9 Kd.string) 24 w' w.heap.size (fun k_ => some k_ ≠ (u5 : Value).ownBlock) (.slice (some ad148) x0_1.length co15) x0_1) ∧ Aside0 (Kd.S (Kd.slice 9 Kd.string) 24 w' w.heap.size (fun k_ => some k_ ≠ ((.slice (some ad148) x0_1.length co15) : Value).ownBlock) u5 x5_2) ∧ Aside0 (Kd.C Kd.string w' A148_0 (rd_L1 x0_1 x9_3).length (rd_L1 x0_1 x9_3)) ∧ Aside0 (Below w.heap.size w w'))
                              case atStart => exact ⟨(0), (by first | rfl | (simp; done) | (simp [*]; done)), H', ⟨Nat.le_refl _⟩, ⟨by (with_reducible repeat (first | apply Kd.S_alloc | apply Kd.S_drewN | apply Kd.S_drew)); exact HO_0.out⟩, ⟨by (with_reducible repeat (first | apply Kd.S_alloc | apply Kd.S_drewN | apply Kd.S_drew)); exact HO_5.out⟩, ⟨by repeat (first | (with_reducible exact HR148_0.out) | (with_reducible refine Kd.C_alloc ?_ _) | (with_reducible refine Kd.C_drewN ?_ _) | (with_reducible refine Kd.C_drew ?_) | exact HR148_0.out)⟩, ⟨by repeat (first | (with_reducible first | exact HB.out | apply below_alloc | apply pw_below_drewN | apply below_drew1) | exact HB.out)⟩⟩
                              case round =>
                                clear H'
                                try clear c1
                                try clear p1
                                try clear q1
                                try clear hx1
                                try clear hf1
                                try clear c2
                                try clear p2
                                try clear c3
                                try clear c3b0
                                try clear c5
                                try clear c5b0
                                try clear c6
                                try clear c6b0
                                try clear p6
                                try clear c7
                                try clear c7b0
                                try clear c9
                                try clear c9b0
                                try clear p10
                                try clear q10
                                try clear hx10
                                try clear hf10
                                try clear c13
                                try clear p13
                                try clear q13
                                try clear hx13
                                try clear c14
                                try clear p14
                                try clear q14
                                try clear hx14
                                try clear c15
                                try clear p15
                                try clear q15
                                try clear hx15
                                try clear c16
                                try clear c16b0
                                try clear c17
                                try clear c17b0
                                try clear c20
                                try clear c20b0
                                try clear c22
                                try clear c26
                                try clear c29
                                try clear c29b0
                                try clear c30
                                try clear c30b0
                                try clear c31
                                try clear c31b0
                                try clear c32
                                try clear c32b0
                                try clear c33
                                try clear c33b0
                                try clear c35
                                try clear c35b0
                                try clear c35b1
                                try clear hx10_0
                                try clear hx131_0
                                try clear hx132_0
                                try clear hx137_0
                                try clear hx148_0
                                try clear hx149_0
                                try clear hx150_0
                                try clear p1
                                try clear p10
                                try clear p13
                                try clear p131
                                try clear p132
                                try clear p137
                                try clear p148
                                try clear p149
                                try clear p150
                                try clear p2
                                try clear p6
                                try clear q1
                                try clear q10
                                try clear q13
                                try clear q131
                                try clear q132
                                try clear q137
                                try clear q148
                                try clear q149
                                try clear q150
                                obtain ⟨x11_5, rfl, HA, HK5, HO_0, HO_5, HR148_0, HB⟩ := hrel
                                cases gk with
                                | zero => exact absurd HA.out (by simp [abacuslaw20_apart.l6])
                                | succ k5 =>
                                  have H := HA.out
                                  clear HA
                                  simp only [abacuslaw20_apart.l6] at H
                                  by_cases c40 : 0 ≤ x9_3
                                  · rw [if_pos c40] at H
                                    have c40b0 : decide (0 ≤ x9_3) = true := decide_eq_true c40
                                    clear c40
                                    by_cases c41 : x9_3 < (x5_2.length : Int)
                                    · rw [if_pos c41] at H
                                      have c41b0 : decide (x9_3 < (x5_2.length : Int)) = true := decide_eq_true c41
                                      clear c41
                                      by_cases c42 : x11_5 < ((rd_L1 x5_2 x9_3).length : Int)
                                      · rw [if_pos c42] at H
                                        have c42b0 : decide (x11_5 < ((rd_L1 x5_2 x9_3).length : Int)) = true := decide_eq_true c42
                                        clear c42
                                        by_cases c43 : 0 ≤ x11_5
                                        · rw [if_pos c43] at H
                                          have c43b0 : decide (0 ≤ x11_5) = true := decide_eq_true c43
                                          clear c43
                                          replace H := Option.bind_eq_some_iff.mp H
                                          obtain ⟨t155, A440, H⟩ := H
                                          replace H : (if (rdOf ByteArray.empty (rd_L1 x5_2 x9_3) x11_5).toList = t155.toList then (abacuslaw20_apart.l6 k5 x0_1 x5_2 x9_3 (wrap64 (x11_5 + 1))) else (some false)) = some r := H
                                          have A44 := Aside0.mk A440
                                          clear A440
                                          by_cases c45 : (rdOf ByteArray.empty (rd_L1 x5_2 x9_3) x11_5).toList = t155.toList
                                          · rw [if_pos c45] at H
                                            have c45b0 : ((rdOf ByteArray.empty (rd_L1 x5_2 x9_3) x11_5).toList == t155.toList) = true := beq_iff_eq.mpr c45
                                            have c45b1 : ((rdOf ByteArray.empty (rd_L1 x5_2 x9_3) x11_5).toList != t155.toList) = false := bne_eq_false_iff_eq.mpr c45
                                            clear c45
                                            have H' := Aside0.mk H
                                            clear H
                                            obtain ⟨Ao46, co46, eo46⟩ := Kd.S_slice HO_5.out
                                            subst eo46
                                            have p152 : 0 ≤ (x9_3 : Int) := of_decide_eq_true (by first | (with_reducible assumption) | assumption)
                                            have q152 : x9_3 < (x5_2.length : Int) := of_decide_eq_true (by first | (with_reducible assumption) | assumption)
                                            obtain ⟨ad152, A152_0, c152_0, e152, hx152_0, hl152_0, hi152_0⟩ := at_L1 (Kd.S_reads' HO_5.out).2.2 x9_3 p152 q152
                                            cases e152
                                            obtain ⟨ce152, hce152, hMe152, hcc152⟩ := Kd.S_get HO_5.out [] x9_3 p152 (by first | exact q152 | exact of_decide_eq_true (by first | (with_reducible assumption) | assumption) | (have e_ := (Kd.S_reads' HO_5.out).1; omega))
                                            obtain ⟨ve152_0, rfl, ge152_0⟩ := hMe152
                                            have hv152_0 := hcc152 0 _ rfl
                                            rw [Nat.add_zero, show ((Kd.slice 9 Kd.string)).sz = 1 from rfl, Nat.mul_one] at hv152_0
                                            replace hv152_0 := Option.some.inj (hv152_0.symm.trans hx152_0)
                                            rw [hv152_0] at ge152_0
                                            have HL152_0 := Aside0.mk (show Kd.R Kd.string 9 _ _ _ _ (rd_L1 x5_2 x9_3) from ge152_0)
                                            clear hv152_0 ge152_0
                                            have HX152_0 := Aside0.mk hx152_0
                                            clear hcc152 hce152
                                            have HR152_0 := Aside0.mk hi152_0
                                            have HC152_0 := Aside0.mk hl152_0
                                            clear hi152_0 hl152_0
                                            replace p152 := eq_true p152
                                            replace q152 := eq_true q152
                                            try go_wp2
                                            have n0_ := Aside0.mk (Kd.S_drew HO_0.out)
                                            have n1_ := Aside0.mk (Kd.S_drew HO_5.out)
                                            have n2_ := Aside0.mk (Kd.R_drew HL152_0.out)
                                            have n3_ := Aside0.mk (Kd.C_drew HR148_0.out)
                                            have n4_ := Aside0.mk (Kd.C_drew HR152_0.out)
                                            have n5_ := Aside0.mk (below_drew1 HB.out)
                                            clear HO_0
                                            clear HO_5
                                            clear HL152_0
                                            clear HR148_0
                                            clear HR152_0
                                            clear HB
                                            have HO_0 := n0_
                                            have HO_5 := n1_
                                            have HL152_0 := n2_
                                            have HR148_0 := n3_
                                            have HR152_0 := n4_
                                            have HB := n5_
                                            clear n0_ n1_ n2_ n3_ n4_ n5_
                                            have p153 : 0 ≤ (x9_3 : Int) := of_decide_eq_true (by first | (with_reducible assumption) | assumption)
                                            have q153 : x9_3 < (x5_2.length : Int) := of_decide_eq_true (by first | (with_reducible assumption) | assumption)
                                            obtain ⟨ad153, A153_0, c153_0, e153, hx153_0, hl153_0, hi153_0⟩ := at_L1 (Kd.S_reads' HO_5.out).2.2 x9_3 p153 q153
                                            obtain rfl : ad152 = ad153 := (by injection e153)
                                            obtain ⟨ce153, hce153, hMe153, hcc153⟩ := Kd.S_get HO_5.out [] x9_3 p153 (by first | exact q153 | exact of_decide_eq_true (by first | (with_reducible assumption) | assumption) | (have e_ := (Kd.S_reads' HO_5.out).1; omega))
                                            obtain ⟨ve153_0, rfl, ge153_0⟩ := hMe153
                                            have hv153_0 := hcc153 0 _ rfl
                                            rw [Nat.add_zero, show ((Kd.slice 9 Kd.string)).sz = 1 from rfl, Nat.mul_one] at hv153_0
                                            replace hv153_0 := Option.some.inj (hv153_0.symm.trans hx153_0)
                                            rw [hv153_0] at ge153_0
                                            have HL153_0 := Aside0.mk (show Kd.R Kd.string 9 _ _ _ _ (rd_L1 x5_2 x9_3) from ge153_0)
                                            clear hv153_0 ge153_0
                                            have HX153_0 := Aside0.mk hx153_0
                                            clear hcc153 hce153
                                            have HR153_0 := Aside0.mk hi153_0
                                            have HC153_0 := Aside0.mk hl153_0
                                            clear hi153_0 hl153_0
                                            replace p153 := eq_true p153
                                            replace q153 := eq_true q153
                                            have p154 : 0 ≤ (x11_5 : Int) := of_decide_eq_true (by first | (with_reducible assumption) | assumption)
                                            have q154 : x11_5 < ((rd_L1 x5_2 x9_3).length : Int) := of_decide_eq_true (by first | (with_reducible assumption) | assumption)
                                            obtain ⟨ad154, e154, hx154_0⟩ := Kd.at_string (by repeat (first | (with_reducible exact HR153_0.out) | (with_reducible refine Kd.C_alloc ?_ _) | (with_reducible refine Kd.C_drewN ?_ _) | (with_reducible refine Kd.C_drew ?_) | exact HR153_0.out)) x11_5 p154 q154
                                            cases e154
                                            replace p154 := eq_true p154
                                            replace q154 := eq_true q154
                                            refine start_ (n := 11) (S := fun w' => w'.cell? (ad152.add (x9_3).toNat) = some (.slice (some ad154) (rd_L1 x5_2 x9_3).length c153_0) ∧ w'.cell? (ad154.add (x11_5).toNat) = some (.string (rdOf ByteArray.empty (rd_L1 x5_2 x9_3) x11_5))) (ds := []) #[false, false, false, false, false, false, false, false, false, false, false] (by kernel_rfl) rfl rfl ⟨hx153_0, hx154_0⟩ (fun hHeld => ?_); refine with_tabW abacuslaw20_apart.tab29 abacuslaw20_apart.bits29 (fun HT_ HW_ => ?_)
                                            generalize wr.drew = w47 at HO_0 HO_5 HL152_0 HR148_0 HR152_0 HB HL153_0 HR153_0 HX153_0 hx153_0 hx154_0 hHeld ⊢
                                            refine pure_ (i := 0) (N := some 96) (v := ?_) (a' := ?_) #[true, false, false, false, false, false, false, false, false, false, false] rfl rfl (any_of HT_.out (by kernel_rfl)) (fun _ _ _ h => h) (Or.inl ⟨by rfl, ?_⟩) ?_ ?_
                                            rotate_left
                                            · intro w'
                                              go_simp
                                              with_reducible rfl
                                            rotate_left
                                            · simp only [Act.put, List.setIfInBounds_toArray, List.set_cons_zero, List.set_cons_succ, i64_w, i32_w]
                                              rfl
                                            refine pure_ (i := 1) (N := some 97) (v := ?_) (a' := ?_) #[true, true, false, false, false, false, false, false, false, false, false] rfl rfl (any_of HT_.out (by kernel_rfl)) (fun _ _ _ h => h) (Or.inl ⟨by rfl, ?_⟩) ?_ ?_
                                            rotate_left
                                            · intro w'
                                              go_simp
                                              with_reducible rfl
                                            rotate_left
                                            · simp only [Act.put, List.setIfInBounds_toArray, List.set_cons_zero, List.set_cons_succ, i64_w, i32_w]
                                              rfl
                                            refine pure_ (i := 2) (N := some 98) (v := ?_) (a' := ?_) #[true, true, true, false, false, false, false, false, false, false, false] rfl rfl (any_of HT_.out (by kernel_rfl)) (fun _ _ _ h => h) (Or.inl ⟨by rfl, ?_⟩) ?_ ?_
                                            rotate_left
                                            · intro w'
                                              go_simp
                                              with_reducible rfl
                                            rotate_left
                                            · simp only [Act.put, List.setIfInBounds_toArray, List.set_cons_zero, List.set_cons_succ, i64_w, i32_w]
                                              rfl
                                            refine pure_ (i := 4) (N := some 100) (v := ?_) (a' := ?_) #[true, true, true, false, true, false, false, false, false, false, false] rfl rfl (any_of HT_.out (by kernel_rfl)) (fun _ _ _ h => h) (Or.inl ⟨by rfl, ?_⟩) ?_ ?_
                                            rotate_left
                                            · intro w'
                                              go_simp
                                              with_reducible rfl
                                            rotate_left
                                            · simp only [Act.put, List.setIfInBounds_toArray, List.set_cons_zero, List.set_cons_succ, i64_w, i32_w]
                                              rfl
                                            refine pure_ (i := 7) (N := some 103) (v := ?_) (a' := ?_) #[true, true, true, false, true, false, false, true, false, false, false] rfl rfl (any_of HT_.out (by kernel_rfl)) (fun _ _ _ h => h) (Or.inl ⟨by rfl, ?_⟩) ?_ ?_
                                            rotate_left
                                            · intro w'
                                              go_simp
                                              with_reducible rfl
                                            rotate_left
                                            · simp only [Act.put, List.setIfInBounds_toArray, List.set_cons_zero, List.set_cons_succ, i64_w, i32_w]
                                              rfl
                                            refine pure_ (i := 8) (N := some 104) (v := ?_) (a' := ?_) #[true, true, true, false, true, false, false, true, true, false, false] rfl rfl (any_of HT_.out (by kernel_rfl)) (fun _ _ _ h => h) (Or.inl ⟨by rfl, ?_⟩) ?_ ?_
                                            rotate_left
                                            · intro w'
                                              go_simp
                                              with_reducible rfl
                                            rotate_left
                                            · simp only [Act.put, List.setIfInBounds_toArray, List.set_cons_zero, List.set_cons_succ, i64_w, i32_w]
                                              rfl
                                            refine take_ (i := 3) (N := some 99) (v := ?_) (a' := ?_) #[true, true, true, true, true, false, false, true, true, false, false] rfl rfl (take_ofW HT_.out HW_.out (by kernel_rfl)) (fun _ _ _ h => h) (Or.inl ⟨by rfl, ?_⟩) hHeld ?_ ?_
                                            rotate_left
                                            · rintro w' ⟨s0, s1⟩
                                              go_simp
                                              with_reducible rfl
                                            rotate_left
                                            · simp only [Act.put, List.setIfInBounds_toArray, List.set_cons_zero, List.set_cons_succ, i64_w, i32_w]
                                              rfl
                                            refine pure_ (i := 5) (N := some 101) (v := ?_) (a' := ?_) #[true, true, true, true, true, true, false, true, true, false, false] rfl rfl (any_of HT_.out (by kernel_rfl)) (fun _ _ _ h => h) (Or.inl ⟨by rfl, ?_⟩) ?_ ?_
                                            rotate_left
                                            · intro w'
                                              go_simp
                                              with_reducible rfl
                                            rotate_left
                                            · simp only [Act.put, List.setIfInBounds_toArray, List.set_cons_zero, List.set_cons_succ, i64_w, i32_w]
                                              rfl
                                            refine take_ (i := 6) (N := some 102) (v := ?_) (a' := ?_) #[true, true, true, true, true, true, true, true, true, false, false] rfl rfl (take_ofW HT_.out HW_.out (by kernel_rfl)) (fun _ _ _ h => h) (Or.inl ⟨by rfl, ?_⟩) hHeld ?_ ?_
                                            rotate_left
                                            · rintro w' ⟨s0, s1⟩
                                              go_simp
                                              with_reducible rfl
                                            rotate_left
                                            · simp only [Act.put, List.setIfInBounds_toArray, List.set_cons_zero, List.set_cons_succ, i64_w, i32_w]
                                              rfl
                                            refine one_ (i := 9) (N := some 105) #[true, true, true, true, true, true, true, true, true, true, false] rfl rfl (one_of HT_.out (by kernel_rfl)) (by decide) (fun K hK => ?_)
                                            refine goes_ Tryd.func31 (by kernel_rfl) rfl #[.int .i64 x9_3, .int .i64 x11_5] (by rfl) rfl rfl (by (try simp only [List.map_toArray, List.map_cons, List.map_nil]); first | done | rfl | (simp only [List.length_drop, List.length_take]; rfl)) ?_
                                            with_reducible refine (abacuslaw20_mark.calls x9_3 x11_5 t155 _ A44.out).mono ?_
                                            rintro e w48 ⟨rfl, hb⟩
                                            have HS0_ := (hb.cell (World.block_lt_of_cell? _ _ (hHeld.1))).trans (hHeld.1)
                                            have HS1_ := (hb.cell (World.block_lt_of_cell? _ _ (hHeld.2))).trans (hHeld.2)
                                            refine ⟨_, rfl, ?_⟩
                                            have n0_ := Aside0.mk (Kd.S_below (by (with_reducible repeat (first | apply Kd.S_alloc | apply Kd.S_drewN | apply Kd.S_drew)); exact HO_0.out) hb)
                                            have n1_ := Aside0.mk (Kd.S_below (by (with_reducible repeat (first | apply Kd.S_alloc | apply Kd.S_drewN | apply Kd.S_drew)); exact HO_5.out) hb)
                                            have n2_ := Aside0.mk (Kd.R_below (by (with_reducible repeat (first | apply Kd.R_alloc | apply Kd.R_drewN | apply Kd.R_drew)); exact HL152_0.out) hb)
                                            have n3_ := Aside0.mk (Kd.R_below (by (with_reducible repeat (first | apply Kd.R_alloc | apply Kd.R_drewN | apply Kd.R_drew)); exact HL153_0.out) hb)
                                            have n4_ := Aside0.mk (Kd.C_below (by repeat (first | (with_reducible exact HR148_0.out) | (with_reducible refine Kd.C_alloc ?_ _) | (with_reducible refine Kd.C_drewN ?_ _) | (with_reducible refine Kd.C_drew ?_) | exact HR148_0.out)) hb)
                                            have n5_ := Aside0.mk (Kd.C_below (by repeat (first | (with_reducible exact HR152_0.out) | (with_reducible refine Kd.C_alloc ?_ _) | (with_reducible refine Kd.C_drewN ?_ _) | (with_reducible refine Kd.C_drew ?_) | exact HR152_0.out)) hb)
                                            have n6_ := Aside0.mk (Kd.C_below (by repeat (first | (with_reducible exact HR153_0.out) | (with_reducible refine Kd.C_alloc ?_ _) | (with_reducible refine Kd.C_drewN ?_ _) | (with_reducible refine Kd.C_drew ?_) | exact HR153_0.out)) hb)
                                            have n7_ := Aside0.mk (pw_cell_below hb HX153_0.out)
                                            have n8_ := Aside0.mk (below_step (by repeat (first | (with_reducible first | exact HB.out | apply below_alloc | apply pw_below_drewN | apply below_drew1) | exact HB.out)) hb)
                                            clear HO_0
                                            clear HO_5
                                            clear HL152_0
                                            clear HL153_0
                                            clear HR148_0
                                            clear HR152_0
                                            clear HR153_0
                                            clear HX153_0
                                            clear HB
                                            have HO_0 := n0_
                                            have HO_5 := n1_
                                            have HL152_0 := n2_
                                            have HL153_0 := n3_
                                            have HR148_0 := n4_
                                            have HR152_0 := n5_
                                            have HR153_0 := n6_
                                            have HX153_0 := n7_
                                            have HB := n8_
                                            clear n0_ n1_ n2_ n3_ n4_ n5_ n6_ n7_ n8_
                                            (try clear hb)
                                            (try clear hb2)
                                            (try clear hk)
                                            (try clear hi)
                                            refine hK.out _ _ ⟨HS0_, HS1_⟩ (fun hHeld => ?_)
                                            clear hK K
                                            refine norm_ (a' := ?_) ?_ ?_
                                            rotate_left
                                            · show Act.put _ (some 105) _ = _
                                              simp only [Act.put, List.setIfInBounds_toArray, List.set_cons_zero, List.set_cons_succ, i64_w, i32_w]
                                              rfl
                                            refine pure_ (i := 10) (N := some 106) (v := ?_) (a' := ?_) #[true, true, true, true, true, true, true, true, true, true, true] rfl rfl (any_of HT_.out (by kernel_rfl)) (fun _ _ _ h => h) (Or.inl ⟨by rfl, ?_⟩) ?_ ?_
                                            rotate_left
                                            · intro w'
                                              go_simp
                                              with_reducible rfl
                                            rotate_left
                                            · simp only [Act.put, List.setIfInBounds_toArray, List.set_cons_zero, List.set_cons_succ, i64_w, i32_w]
                                              rfl
                                            refine done_ (done_of HT_.out (by kernel_rfl)) ?_
                                            try go_wp2
                                            go_roundg k5
                                            case measure => have := HK1.out; have := HK2.out; have := HK3.out; have := HK4.out; have := HK5.out; omega
                                            case rel => exact ⟨(wrap64 (x11_5 + 1)), (by first | rfl | (simp; done) | (simp [*]; done)), H', ⟨by have := HK1.out; have := HK2.out; have := HK3.out; have := HK4.out; have := HK5.out; omega⟩, ⟨by (with_reducible repeat (first | apply Kd.S_alloc | apply Kd.S_drewN | apply Kd.S_drew)); exact HO_0.out⟩, ⟨by (with_reducible repeat (first | apply Kd.S_alloc | apply Kd.S_drewN | apply Kd.S_drew)); exact HO_5.out⟩, ⟨by repeat (first | (with_reducible exact HR148_0.out) | (with_reducible refine Kd.C_alloc ?_ _) | (with_reducible refine Kd.C_drewN ?_ _) | (with_reducible refine Kd.C_drew ?_) | exact HR148_0.out)⟩, ⟨by repeat (first | (with_reducible first | exact HB.out | apply below_alloc | apply pw_below_drewN | apply below_drew1) | exact HB.out)⟩⟩
                                          · rw [if_neg c45] at H
                                            have c45b0 : ((rdOf ByteArray.empty (rd_L1 x5_2 x9_3) x11_5).toList == t155.toList) = false := beq_eq_false_iff_ne.mpr c45
                                            have c45b1 : ((rdOf ByteArray.empty (rd_L1 x5_2 x9_3) x11_5).toList != t155.toList) = true := bne_iff_ne.mpr c45
                                            obtain rfl := Option.some.inj H
                                            obtain ⟨Ao49, co49, eo49⟩ := Kd.S_slice HO_5.out
                                            subst eo49
                                            have p152 : 0 ≤ (x9_3 : Int) := of_decide_eq_true (by first | (with_reducible assumption) | assumption)
                                            have q152 : x9_3 < (x5_2.length : Int) := of_decide_eq_true (by first | (with_reducible assumption) | assumption)
                                            obtain ⟨ad152, A152_0, c152_0, e152, hx152_0, hl152_0, hi152_0⟩ := at_L1 (Kd.S_reads' HO_5.out).2.2 x9_3 p152 q152
                                            cases e152
                                            obtain ⟨ce152, hce152, hMe152, hcc152⟩ := Kd.S_get HO_5.out [] x9_3 p152 (by first | exact q152 | exact of_decide_eq_true (by first | (with_reducible assumption) | assumption) | (have e_ := (Kd.S_reads' HO_5.out).1; omega))
                                            obtain ⟨ve152_0, rfl, ge152_0⟩ := hMe152
                                            have hv152_0 := hcc152 0 _ rfl
                                            rw [Nat.add_zero, show ((Kd.slice 9 Kd.string)).sz = 1 from rfl, Nat.mul_one] at hv152_0
                                            replace hv152_0 := Option.some.inj (hv152_0.symm.trans hx152_0)
                                            rw [hv152_0] at ge152_0
                                            have HL152_0 := Aside0.mk (show Kd.R Kd.string 9 _ _ _ _ (rd_L1 x5_2 x9_3) from ge152_0)
                                            clear hv152_0 ge152_0
                                            have HX152_0 := Aside0.mk hx152_0
                                            clear hcc152 hce152
                                            have HR152_0 := Aside0.mk hi152_0
                                            have HC152_0 := Aside0.mk hl152_0
                                            clear hi152_0 hl152_0
                                            replace p152 := eq_true p152
                                            replace q152 := eq_true q152
                                            try go_wp2
                                            have n0_ := Aside0.mk (Kd.S_drew HO_0.out)
                                            have n1_ := Aside0.mk (Kd.S_drew HO_5.out)
                                            have n2_ := Aside0.mk (Kd.R_drew HL152_0.out)
                                            have n3_ := Aside0.mk (Kd.C_drew HR148_0.out)
                                            have n4_ := Aside0.mk (Kd.C_drew HR152_0.out)
                                            have n5_ := Aside0.mk (below_drew1 HB.out)
                                            clear HO_0
                                            clear HO_5
                                            clear HL152_0
                                            clear HR148_0
                                            clear HR152_0
                                            clear HB
                                            have HO_0 := n0_
                                            have HO_5 := n1_
                                            have HL152_0 := n2_
                                            have HR148_0 := n3_
                                            have HR152_0 := n4_
                                            have HB := n5_
                                            clear n0_ n1_ n2_ n3_ n4_ n5_
                                            have p153 : 0 ≤ (x9_3 : Int) := of_decide_eq_true (by first | (with_reducible assumption) | assumption)
                                            have q153 : x9_3 < (x5_2.length : Int) := of_decide_eq_true (by first | (with_reducible assumption) | assumption)
                                            obtain ⟨ad153, A153_0, c153_0, e153, hx153_0, hl153_0, hi153_0⟩ := at_L1 (Kd.S_reads' HO_5.out).2.2 x9_3 p153 q153
                                            obtain rfl : ad152 = ad153 := (by injection e153)
                                            obtain ⟨ce153, hce153, hMe153, hcc153⟩ := Kd.S_get HO_5.out [] x9_3 p153 (by first | exact q153 | exact of_decide_eq_true (by first | (with_reducible assumption) | assumption) | (have e_ := (Kd.S_reads' HO_5.out).1; omega))
                                            obtain ⟨ve153_0, rfl, ge153_0⟩ := hMe153
                                            have hv153_0 := hcc153 0 _ rfl
                                            rw [Nat.add_zero, show ((Kd.slice 9 Kd.string)).sz = 1 from rfl, Nat.mul_one] at hv153_0
                                            replace hv153_0 := Option.some.inj (hv153_0.symm.trans hx153_0)
                                            rw [hv153_0] at ge153_0
                                            have HL153_0 := Aside0.mk (show Kd.R Kd.string 9 _ _ _ _ (rd_L1 x5_2 x9_3) from ge153_0)
                                            clear hv153_0 ge153_0
                                            have HX153_0 := Aside0.mk hx153_0
                                            clear hcc153 hce153
                                            have HR153_0 := Aside0.mk hi153_0
                                            have HC153_0 := Aside0.mk hl153_0
                                            clear hi153_0 hl153_0
                                            replace p153 := eq_true p153
                                            replace q153 := eq_true q153
                                            have p154 : 0 ≤ (x11_5 : Int) := of_decide_eq_true (by first | (with_reducible assumption) | assumption)
                                            have q154 : x11_5 < ((rd_L1 x5_2 x9_3).length : Int) := of_decide_eq_true (by first | (with_reducible assumption) | assumption)
                                            obtain ⟨ad154, e154, hx154_0⟩ := Kd.at_string (by repeat (first | (with_reducible exact HR153_0.out) | (with_reducible refine Kd.C_alloc ?_ _) | (with_reducible refine Kd.C_drewN ?_ _) | (with_reducible refine Kd.C_drew ?_) | exact HR153_0.out)) x11_5 p154 q154
                                            cases e154
                                            replace p154 := eq_true p154
                                            replace q154 := eq_true q154
                                            refine start_ (n := 11) (S := fun w' => w'.cell? (ad152.add (x9_3).toNat) = some (.slice (some ad154) (rd_L1 x5_2 x9_3).length c153_0) ∧ w'.cell? (ad154.add (x11_5).toNat) = some (.string (rdOf ByteArray.empty (rd_L1 x5_2 x9_3) x11_5))) (ds := []) #[false, false, false, false, false, false, false, false, false, false, false] (by kernel_rfl) rfl rfl ⟨hx153_0, hx154_0⟩ (fun hHeld => ?_); refine with_tabW abacuslaw20_apart.tab29 abacuslaw20_apart.bits29 (fun HT_ HW_ => ?_)
                                            generalize wr.drew = w50 at HO_0 HO_5 HL152_0 HR148_0 HR152_0 HB HL153_0 HR153_0 HX153_0 hx153_0 hx154_0 hHeld ⊢
                                            refine pure_ (i := 0) (N := some 96) (v := ?_) (a' := ?_) #[true, false, false, false, false, false, false, false, false, false, false] rfl rfl (any_of HT_.out (by kernel_rfl)) (fun _ _ _ h => h) (Or.inl ⟨by rfl, ?_⟩) ?_ ?_
                                            rotate_left
                                            · intro w'
                                              go_simp
                                              with_reducible rfl
                                            rotate_left
                                            · simp only [Act.put, List.setIfInBounds_toArray, List.set_cons_zero, List.set_cons_succ, i64_w, i32_w]
                                              rfl
                                            refine pure_ (i := 1) (N := some 97) (v := ?_) (a' := ?_) #[true, true, false, false, false, false, false, false, false, false, false] rfl rfl (any_of HT_.out (by kernel_rfl)) (fun _ _ _ h => h) (Or.inl ⟨by rfl, ?_⟩) ?_ ?_
                                            rotate_left
                                            · intro w'
                                              go_simp
                                              with_reducible rfl
                                            rotate_left
                                            · simp only [Act.put, List.setIfInBounds_toArray, List.set_cons_zero, List.set_cons_succ, i64_w, i32_w]
                                              rfl
                                            refine pure_ (i := 2) (N := some 98) (v := ?_) (a' := ?_) #[true, true, true, false, false, false, false, false, false, false, false] rfl rfl (any_of HT_.out (by kernel_rfl)) (fun _ _ _ h => h) (Or.inl ⟨by rfl, ?_⟩) ?_ ?_
                                            rotate_left
                                            · intro w'
                                              go_simp
                                              with_reducible rfl
                                            rotate_left
                                            · simp only [Act.put, List.setIfInBounds_toArray, List.set_cons_zero, List.set_cons_succ, i64_w, i32_w]
                                              rfl
                                            refine pure_ (i := 4) (N := some 100) (v := ?_) (a' := ?_) #[true, true, true, false, true, false, false, false, false, false, false] rfl rfl (any_of HT_.out (by kernel_rfl)) (fun _ _ _ h => h) (Or.inl ⟨by rfl, ?_⟩) ?_ ?_
                                            rotate_left
                                            · intro w'
                                              go_simp
                                              with_reducible rfl
                                            rotate_left
                                            · simp only [Act.put, List.setIfInBounds_toArray, List.set_cons_zero, List.set_cons_succ, i64_w, i32_w]
                                              rfl
                                            refine pure_ (i := 7) (N := some 103) (v := ?_) (a' := ?_) #[true, true, true, false, true, false, false, true, false, false, false] rfl rfl (any_of HT_.out (by kernel_rfl)) (fun _ _ _ h => h) (Or.inl ⟨by rfl, ?_⟩) ?_ ?_
                                            rotate_left
                                            · intro w'
                                              go_simp
                                              with_reducible rfl
                                            rotate_left
                                            · simp only [Act.put, List.setIfInBounds_toArray, List.set_cons_zero, List.set_cons_succ, i64_w, i32_w]
                                              rfl
                                            refine pure_ (i := 8) (N := some 104) (v := ?_) (a' := ?_) #[true, true, true, false, true, false, false, true, true, false, false] rfl rfl (any_of HT_.out (by kernel_rfl)) (fun _ _ _ h => h) (Or.inl ⟨by rfl, ?_⟩) ?_ ?_
                                            rotate_left
                                            · intro w'
                                              go_simp
                                              with_reducible rfl
                                            rotate_left
                                            · simp only [Act.put, List.setIfInBounds_toArray, List.set_cons_zero, List.set_cons_succ, i64_w, i32_w]
                                              rfl
                                            refine take_ (i := 3) (N := some 99) (v := ?_) (a' := ?_) #[true, true, true, true, true, false, false, true, true, false, false] rfl rfl (take_ofW HT_.out HW_.out (by kernel_rfl)) (fun _ _ _ h => h) (Or.inl ⟨by rfl, ?_⟩) hHeld ?_ ?_
                                            rotate_left
                                            · rintro w' ⟨s0, s1⟩
                                              go_simp
                                              with_reducible rfl
                                            rotate_left
                                            · simp only [Act.put, List.setIfInBounds_toArray, List.set_cons_zero, List.set_cons_succ, i64_w, i32_w]
                                              rfl
                                            refine pure_ (i := 5) (N := some 101) (v := ?_) (a' := ?_) #[true, true, true, true, true, true, false, true, true, false, false] rfl rfl (any_of HT_.out (by kernel_rfl)) (fun _ _ _ h => h) (Or.inl ⟨by rfl, ?_⟩) ?_ ?_
                                            rotate_left
                                            · intro w'
                                              go_simp
                                              with_reducible rfl
                                            rotate_left
                                            · simp only [Act.put, List.setIfInBounds_toArray, List.set_cons_zero, List.set_cons_succ, i64_w, i32_w]
                                              rfl
                                            refine take_ (i := 6) (N := some 102) (v := ?_) (a' := ?_) #[true, true, true, true, true, true, true, true, true, false, false] rfl rfl (take_ofW HT_.out HW_.out (by kernel_rfl)) (fun _ _ _ h => h) (Or.inl ⟨by rfl, ?_⟩) hHeld ?_ ?_
                                            rotate_left
                                            · rintro w' ⟨s0, s1⟩
                                              go_simp
                                              with_reducible rfl
                                            rotate_left
                                            · simp only [Act.put, List.setIfInBounds_toArray, List.set_cons_zero, List.set_cons_succ, i64_w, i32_w]
                                              rfl
                                            refine one_ (i := 9) (N := some 105) #[true, true, true, true, true, true, true, true, true, true, false] rfl rfl (one_of HT_.out (by kernel_rfl)) (by decide) (fun K hK => ?_)
                                            refine goes_ Tryd.func31 (by kernel_rfl) rfl #[.int .i64 x9_3, .int .i64 x11_5] (by rfl) rfl rfl (by (try simp only [List.map_toArray, List.map_cons, List.map_nil]); first | done | rfl | (simp only [List.length_drop, List.length_take]; rfl)) ?_
                                            with_reducible refine (abacuslaw20_mark.calls x9_3 x11_5 t155 _ A44.out).mono ?_
                                            rintro e w51 ⟨rfl, hb⟩
                                            have HS0_ := (hb.cell (World.block_lt_of_cell? _ _ (hHeld.1))).trans (hHeld.1)
                                            have HS1_ := (hb.cell (World.block_lt_of_cell? _ _ (hHeld.2))).trans (hHeld.2)
                                            refine ⟨_, rfl, ?_⟩
                                            have n0_ := Aside0.mk (Kd.S_below (by (with_reducible repeat (first | apply Kd.S_alloc | apply Kd.S_drewN | apply Kd.S_drew)); exact HO_0.out) hb)
                                            have n1_ := Aside0.mk (Kd.S_below (by (with_reducible repeat (first | apply Kd.S_alloc | apply Kd.S_drewN | apply Kd.S_drew)); exact HO_5.out) hb)
                                            have n2_ := Aside0.mk (Kd.R_below (by (with_reducible repeat (first | apply Kd.R_alloc | apply Kd.R_drewN | apply Kd.R_drew)); exact HL152_0.out) hb)
                                            have n3_ := Aside0.mk (Kd.R_below (by (with_reducible repeat (first | apply Kd.R_alloc | apply Kd.R_drewN | apply Kd.R_drew)); exact HL153_0.out) hb)
                                            have n4_ := Aside0.mk (Kd.C_below (by repeat (first | (with_reducible exact HR148_0.out) | (with_reducible refine Kd.C_alloc ?_ _) | (with_reducible refine Kd.C_drewN ?_ _) | (with_reducible refine Kd.C_drew ?_) | exact HR148_0.out)) hb)
                                            have n5_ := Aside0.mk (Kd.C_below (by repeat (first | (with_reducible exact HR152_0.out) | (with_reducible refine Kd.C_alloc ?_ _) | (with_reducible refine Kd.C_drewN ?_ _) | (with_reducible refine Kd.C_drew ?_) | exact HR152_0.out)) hb)
                                            have n6_ := Aside0.mk (Kd.C_below (by repeat (first | (with_reducible exact HR153_0.out) | (with_reducible refine Kd.C_alloc ?_ _) | (with_reducible refine Kd.C_drewN ?_ _) | (with_reducible refine Kd.C_drew ?_) | exact HR153_0.out)) hb)
                                            have n7_ := Aside0.mk (pw_cell_below hb HX153_0.out)
                                            have n8_ := Aside0.mk (below_step (by repeat (first | (with_reducible first | exact HB.out | apply below_alloc | apply pw_below_drewN | apply below_drew1) | exact HB.out)) hb)
                                            clear HO_0
                                            clear HO_5
                                            clear HL152_0
                                            clear HL153_0
                                            clear HR148_0
                                            clear HR152_0
                                            clear HR153_0
                                            clear HX153_0
                                            clear HB
                                            have HO_0 := n0_
                                            have HO_5 := n1_
                                            have HL152_0 := n2_
                                            have HL153_0 := n3_
                                            have HR148_0 := n4_
                                            have HR152_0 := n5_
                                            have HR153_0 := n6_
                                            have HX153_0 := n7_
                                            have HB := n8_
                                            clear n0_ n1_ n2_ n3_ n4_ n5_ n6_ n7_ n8_
                                            (try clear hb)
                                            (try clear hb2)
                                            (try clear hk)
                                            (try clear hi)
                                            refine hK.out _ _ ⟨HS0_, HS1_⟩ (fun hHeld => ?_)
                                            clear hK K
                                            refine norm_ (a' := ?_) ?_ ?_
                                            rotate_left
                                            · show Act.put _ (some 105) _ = _
                                              simp only [Act.put, List.setIfInBounds_toArray, List.set_cons_zero, List.set_cons_succ, i64_w, i32_w]
                                              rfl
                                            refine pure_ (i := 10) (N := some 106) (v := ?_) (a' := ?_) #[true, true, true, true, true, true, true, true, true, true, true] rfl rfl (any_of HT_.out (by kernel_rfl)) (fun _ _ _ h => h) (Or.inl ⟨by rfl, ?_⟩) ?_ ?_
                                            rotate_left
                                            · intro w'
                                              go_simp
                                              with_reducible rfl
                                            rotate_left
                                            · simp only [Act.put, List.setIfInBounds_toArray, List.set_cons_zero, List.set_cons_succ, i64_w, i32_w]
                                              rfl
                                            refine done_ (done_of HT_.out (by kernel_rfl)) ?_
                                            try go_wp2
                                            go_ret
                                            exact ⟨by first | rfl | (simp [errW_none, errW_some] <;> rfl) | (simp [*, errW_none, errW_some] <;> rfl), by repeat (first | (with_reducible first | exact HB.out | apply below_alloc | apply pw_below_drewN | apply below_drew1) | exact HB.out)⟩
                                        · rw [if_neg c43] at H
                                          exact absurd H (by simp)
                                      · rw [if_neg c42] at H
                                        have c42b0 : decide (x11_5 < ((rd_L1 x5_2 x9_3).length : Int)) = false := decide_eq_false c42
                                        clear c42
                                        have H' := Aside0.mk H
                                        clear H
                                        obtain ⟨Ao52, co52, eo52⟩ := Kd.S_slice HO_5.out
                                        subst eo52
                                        have p152 : 0 ≤ (x9_3 : Int) := of_decide_eq_true (by first | (with_reducible assumption) | assumption)
                                        have q152 : x9_3 < (x5_2.length : Int) := of_decide_eq_true (by first | (with_reducible assumption) | assumption)
                                        obtain ⟨ad152, A152_0, c152_0, e152, hx152_0, hl152_0, hi152_0⟩ := at_L1 (Kd.S_reads' HO_5.out).2.2 x9_3 p152 q152
                                        cases e152
                                        obtain ⟨ce152, hce152, hMe152, hcc152⟩ := Kd.S_get HO_5.out [] x9_3 p152 (by first | exact q152 | exact of_decide_eq_true (by first | (with_reducible assumption) | assumption) | (have e_ := (Kd.S_reads' HO_5.out).1; omega))
                                        obtain ⟨ve152_0, rfl, ge152_0⟩ := hMe152
                                        have hv152_0 := hcc152 0 _ rfl
                                        rw [Nat.add_zero, show ((Kd.slice 9 Kd.string)).sz = 1 from rfl, Nat.mul_one] at hv152_0
                                        replace hv152_0 := Option.some.inj (hv152_0.symm.trans hx152_0)
                                        rw [hv152_0] at ge152_0
                                        have HL152_0 := Aside0.mk (show Kd.R Kd.string 9 _ _ _ _ (rd_L1 x5_2 x9_3) from ge152_0)
                                        clear hv152_0 ge152_0
                                        have HX152_0 := Aside0.mk hx152_0
                                        clear hcc152 hce152
                                        have HR152_0 := Aside0.mk hi152_0
                                        have HC152_0 := Aside0.mk hl152_0
                                        clear hi152_0 hl152_0
                                        replace p152 := eq_true p152
                                        replace q152 := eq_true q152
                                        go_wp2
                                        go_roundg k5
                                        case measure => have := HK1.out; have := HK2.out; have := HK3.out; have := HK4.out; have := HK5.out; omega
                                        case rel => exact ⟨(wrap64 (x9_3 + 1)), (by first | rfl | (simp; done) | (simp [*]; done)), H', ⟨by have := HK1.out; have := HK2.out; have := HK3.out; have := HK4.out; have := HK5.out; omega⟩, ⟨by (with_reducible repeat (first | apply Kd.S_alloc | apply Kd.S_drewN | apply Kd.S_drew)); exact HO_0.out⟩, ⟨by (with_reducible repeat (first | apply Kd.S_alloc | apply Kd.S_drewN | apply Kd.S_drew)); exact HO_5.out⟩, ⟨by repeat (first | (with_reducible first | exact HB.out | apply below_alloc | apply pw_below_drewN | apply below_drew1) | exact HB.out)⟩⟩
                                    · rw [if_neg c41] at H
                                      exact absurd H (by simp)
                                  · rw [if_neg c40] at H
                                    exact absurd H (by simp)
                          · rw [if_neg c31] at H
                            exact absurd H (by simp)
                        · rw [if_neg c30] at H
                          exact absurd H (by simp)
                  · rw [if_neg c29] at H
                    have c29b0 : decide (x9_3 < (x0_1.length : Int)) = false := decide_eq_false c29
                    clear c29
                    obtain rfl := Option.some.inj H
                    go_wp2
                    go_ret
                    exact ⟨by first | rfl | (simp [errW_none, errW_some] <;> rfl) | (simp [*, errW_none, errW_some] <;> rfl), by repeat (first | (with_reducible first | exact HB.out | apply below_alloc | apply pw_below_drewN | apply below_drew1) | exact HB.out)⟩
end Go.Proofs.YtdeannaaafffbaaDoor.ECd
