/-
  A text of this session's own.
-/
import Derived.Test.YtdeannaaafffbaaDoorSwECdx0
import Derived.Test.YtdeannaaafffbaaDoorSwECdx21
import Derived.Test.YtdeannaaafffbaaDoorSwX
import Derived.Test.YtdeannaaafffbaaDoorSwXBld
namespace Go.Proofs.YtdeannaaafffbaaDoor.ECd
open Go.RowKit Go.Proofs.YtdeannaaafffbaaDoorW.PrintWords Go.Proofs.YtdeannaaafffbaaDoorW.PrintLast Go.Proofs.YtdeannaaafffbaaDoorW.PrintMore
attribute [local go_sem] max2_int min2_int max_two min_two max_three min_three max_four min_four   -- for this text's walks alone
set_option linter.unusedVariables false
set_option linter.unusedSimpArgs false
open Go.Proofs.YtdeannaaafffbaaDoor.X
mutual
def chars_Replace.j0 : Nat → ByteArray → ByteArray → ByteArray → Int → Option (ByteArray × Int × Int)
  | 0, _, _, _, _ => none
  | k + 1, x0, x1, x2, x11 => if (wrap64 ((x0.size : Int) - (wrap64 (x11 * (x1.size : Int))))) > 16777216 then (chars_Replace.j1 k x0 x1 x2 x11 true) else (if x11 > 0 then (if x11 = 0 then (none) else (chars_Replace.j1 k x0 x1 x2 x11 (decide ((x2.size : Int) > (wrap64 (Int.tdiv (wrap64 (16777216 - (wrap64 ((x0.size : Int) - (wrap64 (x11 * (x1.size : Int))))))) x11)))))) else (chars_Replace.j1 k x0 x1 x2 x11 false))
def chars_Replace.j1 : Nat → ByteArray → ByteArray → ByteArray → Int → Bool → Option (ByteArray × Int × Int)
  | 0, _, _, _, _, _ => none
  | k + 1, x0, x1, x2, x11, x50 => if x50 = true then (some ((⟨#[]⟩ : ByteArray), 0, 3)) else (chars_Replace.l0 k x1 x2 x11 (⟨#[]⟩ : ByteArray) x0 x11 0)
def chars_Replace.l0 : Nat → ByteArray → ByteArray → Int → ByteArray → ByteArray → Int → Int → Option (ByteArray × Int × Int)
  | 0, _, _, _, _, _, _, _ => none
  | k + 1, x1, x2, x11, x12, x13, x52, x53 => if x53 < x52 then (if x1.toList = ([] : List UInt8) then (if x53 > 0 then (if 0 ≤ 1 then (if 1 ≤ (x13.size : Int) then (if x12.size + (x13.extract 0 1).size ≤ 140737488355328 then (if (x12 ++ (x13.extract 0 1)).size + x2.size ≤ 140737488355328 then (if 0 ≤ (wrap64 (1 + (x1.size : Int))) then (if (wrap64 (1 + (x1.size : Int))) ≤ (x13.size : Int) then (chars_Replace.l0 k x1 x2 x11 ((x12 ++ (x13.extract 0 1)) ++ x2) (x13.extract ((wrap64 (1 + (x1.size : Int))) : Int).toNat x13.size) x52 (wrap64 (x53 + 1))) else (none)) else (none)) else (none)) else (none)) else (none)) else (none)) else (if 0 ≤ 0 then (if 0 ≤ (x13.size : Int) then (if x12.size + (x13.extract 0 0).size ≤ 140737488355328 then (if (x12 ++ (x13.extract 0 0)).size + x2.size ≤ 140737488355328 then (if 0 ≤ (wrap64 (0 + (x1.size : Int))) then (if (wrap64 (0 + (x1.size : Int))) ≤ (x13.size : Int) then (chars_Replace.l0 k x1 x2 x11 ((x12 ++ (x13.extract 0 0)) ++ x2) (x13.extract ((wrap64 (0 + (x1.size : Int))) : Int).toNat x13.size) x52 (wrap64 (x53 + 1))) else (none)) else (none)) else (none)) else (none)) else (none)) else (none))) else ((xIndex.f x13 x1).bind fun t306 => (if 0 ≤ t306 then (if t306 ≤ (x13.size : Int) then (if x12.size + (x13.extract 0 (t306 : Int).toNat).size ≤ 140737488355328 then (if (x12 ++ (x13.extract 0 (t306 : Int).toNat)).size + x2.size ≤ 140737488355328 then (if 0 ≤ (wrap64 (t306 + (x1.size : Int))) then (if (wrap64 (t306 + (x1.size : Int))) ≤ (x13.size : Int) then (chars_Replace.l0 k x1 x2 x11 ((x12 ++ (x13.extract 0 (t306 : Int).toNat)) ++ x2) (x13.extract ((wrap64 (t306 + (x1.size : Int))) : Int).toNat x13.size) x52 (wrap64 (x53 + 1))) else (none)) else (none)) else (none)) else (none)) else (none)) else (none)))) else (if x12.size + x13.size ≤ 140737488355328 then (some (x12 ++ x13, x11, 0)) else (none))
end
def chars_Replace.f (k : Nat) (a0 : ByteArray) (a1 : ByteArray) (a2 : ByteArray) (a3 : Int) : Option (ByteArray × Int × Int) := (chars_count.f a0 a1).bind fun t305 => (if a3 ≥ 0 then (chars_Replace.j0 k a0 a1 a2 (mn t305 a3)) else (chars_Replace.j0 k a0 a1 a2 t305))
theorem below_trans_ {B : Nat} {u v x : World} (h : Below B u v) (k : Below B v x) : Below B u x := h.trans k
theorem ext00_ (x : ByteArray) : x.extract 0 0 = ByteArray.empty := by
  apply ByteArray.ext
  rw [ByteArray.data_extract]
  simp
set_option maxHeartbeats 8000000 in
set_option maxRecDepth 100000 in
theorem chars_Replace.calls (k : Nat) (a0 : ByteArray) (a1 : ByteArray) (a2 : ByteArray) (a3 : Int) (r1 : ByteArray) (r2 : Int) (r3 : Int) (w : World) (hG : GW w) (h : chars_Replace.f k a0 a1 a2 a3 = some (r1, r2, r3)) :
    Calls Tryd.prog 18 #[.string a0, .string a1, .string a2, .int .i64 a3] w fun e w' => e = .returned (.tuple #[.string r1, .int .i64 r2, .int .i64 r3]) ∧ Below w.heap.size w w' := by
  have HB := Aside0.mk (Below.refl w.heap.size w)
  have HG := Aside0.mk hG
  clear hG
  have H : ((chars_count.f a0 a1).bind fun t305 => (if a3 ≥ 0 then (chars_Replace.j0 k a0 a1 a2 (mn t305 a3)) else (chars_Replace.j0 k a0 a1 a2 t305))) = some (r1, r2, r3) := h
  clear h
  replace H := Option.bind_eq_some_iff.mp H
  obtain ⟨t305, A50, H⟩ := H
  replace H : (if a3 ≥ 0 then (chars_Replace.j0 k a0 a1 a2 (mn t305 a3)) else (chars_Replace.j0 k a0 a1 a2 t305)) = some (r1, r2, r3) := H
  have A5 := Aside0.mk A50
  clear A50
  have HC6 := Aside0.mk H
  clear H
  go_enter Tryd.func18, Tryd.ntmps18
  go_upto_if 20 with (first | ((with_reducible refine gate_callee (f := 33) rfl ?_); refine goesL_ (some 18) rfl rfl Tryd.func33 (by kernel_rfl) rfl #[.string a0, .string a1] rfl (by (try simp only [List.map_toArray, List.map_cons, List.map_nil]); first | done | rfl | (simp only [List.length_drop, List.length_take]; rfl)) ?_; (with_reducible refine (chars_count.calls a0 a1 t305 _ ?side1 A5.out).mono ?_); (case side1 => exact GW.below HG.out (by repeat (first | (with_reducible first | exact HB.out | apply below_alloc | apply pw_below_drewN | apply below_drew1) | exact HB.out))); rintro e w7 ⟨rfl, hb⟩; refine ⟨_, rfl, ?_⟩; have n0_ := Aside0.mk (below_step (by repeat (first | (with_reducible first | exact HB.out | apply below_alloc | apply pw_below_drewN | apply below_drew1) | exact HB.out)) hb); clear HB; have HB := n0_; clear n0_; (try clear hb); (try clear hb2); (try clear hk); (try clear hi)))
  (try simp only [Act.put, List.setIfInBounds_toArray, List.set_cons_zero, List.set_cons_succ])
  go_cut [11] (fun v11 wc => ∃ (kq : Nat) (x11_5 : Int), v11 = .int .i64 x11_5 ∧ Aside0 (chars_Replace.j0 kq a0 a1 a2 x11_5 = some (r1, r2, r3)) ∧ Aside0 (kq ≤ k) ∧ Aside0 (Below w.heap.size w wc))
  case first =>
    have H := HC6.out
    clear HC6
    by_cases c8 : a3 ≥ 0
    · rw [if_pos c8] at H
      have c8b0 : decide (0 ≤ a3) = true := decide_eq_true c8
      clear c8
      (first | rw [c8b0] | (simp only [i64_w, i32_w]; rw [c8b0]) | skip)
      obtain ⟨ji9, hji9⟩ : ∃ j_ : Int, (mn t305 a3) = j_ := ⟨_, rfl⟩
      replace H : (chars_Replace.j0 k a0 a1 a2 ji9) = some (r1, r2, r3) := by first | (rw [hji9] at H; exact H) | (simp only [hji9] at H ⊢; exact H)
      have hji9_ : (if a3 < t305 then a3 else t305) = ji9 := hji9
      have H' := Aside0.mk H
      clear H
      go_wp2
      go_meet
      case rel => exact ⟨_, (ji9), (by first | rfl | (simp; done) | (simp only [← hji9] <;> (first | rfl | simp)) | (simp [*]; done)), H', ⟨by first | omega | exact Nat.le_refl _⟩, ⟨by repeat (first | (with_reducible first | exact HB.out | apply below_alloc | apply pw_below_drewN | apply below_drew1) | exact HB.out)⟩⟩
    · rw [if_neg c8] at H
      have c8b0 : decide (0 ≤ a3) = false := decide_eq_false c8
      clear c8
      (first | rw [c8b0] | (simp only [i64_w, i32_w]; rw [c8b0]) | skip)
      have H' := Aside0.mk H
      clear H
      go_wp2
      go_meet
      case rel => exact ⟨_, (t305), (by first | rfl | (simp; done) | (simp [*]; done)), H', ⟨by first | omega | exact Nat.le_refl _⟩, ⟨by repeat (first | (with_reducible first | exact HB.out | apply below_alloc | apply pw_below_drewN | apply below_drew1) | exact HB.out)⟩⟩
  case rest =>
    clear HC6
    try clear c1
    try clear p2
    try clear c3
    try clear c8
    try clear c8b0
    obtain ⟨kq, x11_5, rfl, HA, HJ5, HB⟩ := hcut
    cases kq with
    | zero => exact absurd HA.out (by simp [chars_Replace.j0])
    | succ kj5 =>
      have H := HA.out
      clear HA
      simp only [chars_Replace.j0] at H
      have HC10 := Aside0.mk H
      clear H
      go_upto_region 4 with (fail)
      go_cut [50] (fun v50 wc => ∃ (kq : Nat) (x50_9 : Bool), v50 = .bool x50_9 ∧ Aside0 (chars_Replace.j1 kq a0 a1 a2 x11_5 x50_9 = some (r1, r2, r3)) ∧ Aside0 (kq ≤ kj5) ∧ Aside0 (Below w.heap.size w wc))
      case first =>
        have H := HC10.out
        clear HC10
        by_cases c11 : (wrap64 ((a0.size : Int) - (wrap64 (x11_5 * (a1.size : Int))))) > 16777216
        · rw [if_pos c11] at H
          have c11b0 : decide (16777216 < (wrap64 ((a0.size : Int) - (wrap64 (x11_5 * (a1.size : Int)))))) = true := decide_eq_true c11
          clear c11
          (first | rw [c11b0] | (simp only [i64_w, i32_w]; rw [c11b0]) | skip)
          have H' := Aside0.mk H
          clear H
          go_wp2
          go_meet
          case rel => exact ⟨_, (true), (by first | rfl | (simp; done) | (simp [*]; done)), H', ⟨by have := HJ5.out; first | omega | exact Nat.le_refl _⟩, ⟨by repeat (first | (with_reducible first | exact HB.out | apply below_alloc | apply pw_below_drewN | apply below_drew1) | exact HB.out)⟩⟩
        · rw [if_neg c11] at H
          have c11b0 : decide (16777216 < (wrap64 ((a0.size : Int) - (wrap64 (x11_5 * (a1.size : Int)))))) = false := decide_eq_false c11
          clear c11
          (first | rw [c11b0] | (simp only [i64_w, i32_w]; rw [c11b0]) | skip)
          by_cases c12 : x11_5 > 0
          · rw [if_pos c12] at H
            have c12b0 : decide (0 < x11_5) = true := decide_eq_true c12
            clear c12
            by_cases c13 : x11_5 = 0
            · rw [if_pos c13] at H
              exact absurd H (by simp)
            · rw [if_neg c13] at H
              have c13b0 : (x11_5 == 0) = false := beq_eq_false_iff_ne.mpr c13
              have c13b1 : (x11_5 != 0) = true := bne_iff_ne.mpr c13
              have H' := Aside0.mk H
              clear H
              go_wp2
              go_meet
              case rel => exact ⟨_, (decide ((a2.size : Int) > (wrap64 (Int.tdiv (wrap64 (16777216 - (wrap64 ((a0.size : Int) - (wrap64 (x11_5 * (a1.size : Int))))))) x11_5)))), (by first | rfl | (simp; done) | (simp [*]; done)), H', ⟨by have := HJ5.out; first | omega | exact Nat.le_refl _⟩, ⟨by repeat (first | (with_reducible first | exact HB.out | apply below_alloc | apply pw_below_drewN | apply below_drew1) | exact HB.out)⟩⟩
          · rw [if_neg c12] at H
            have c12b0 : decide (0 < x11_5) = false := decide_eq_false c12
            clear c12
            have H' := Aside0.mk H
            clear H
            go_wp2
            go_meet
            case rel => exact ⟨_, (false), (by first | rfl | (simp; done) | (simp [*]; done)), H', ⟨by have := HJ5.out; first | omega | exact Nat.le_refl _⟩, ⟨by repeat (first | (with_reducible first | exact HB.out | apply below_alloc | apply pw_below_drewN | apply below_drew1) | exact HB.out)⟩⟩
      case rest =>
        clear HC10
        try clear c1
        try clear p2
        try clear c3
        try clear p6
        try clear c8
        try clear c8b0
        try clear c11
        try clear c11b0
        try clear c12
        try clear c12b0
        try clear c13
        try clear c13b0
        try clear c13b1
        try clear p2
        obtain ⟨kq, x50_9, rfl, HA, HJ9, HB⟩ := hcut
        cases kq with
        | zero => exact absurd HA.out (by simp [chars_Replace.j1])
        | succ kj9 =>
          have H := HA.out
          clear HA
          simp only [chars_Replace.j1] at H
          by_cases c14 : x50_9 = true
          · subst c14
            have H1 : (some ((⟨#[]⟩ : ByteArray), 0, 3)) = some (r1, r2, r3) := by rw [if_pos rfl] at H; exact H
            clear H
            have H := H1
            clear H1
            simp only [Option.some.injEq, Prod.mk.injEq] at H
            obtain ⟨rfl, rfl, rfl⟩ := H
            go_wp2
            go_ret3
            exact ⟨by first | rfl | (simp [errW_none, errW_some] <;> rfl) | (simp [*, errW_none, errW_some] <;> rfl), by repeat (first | (with_reducible first | exact HB.out | apply below_alloc | apply pw_below_drewN | apply below_drew1) | exact HB.out)⟩
          · replace c14 := Bool.eq_false_iff.mpr c14
            subst c14
            have H1 : (chars_Replace.l0 kj9 a1 a2 x11_5 (⟨#[]⟩ : ByteArray) a0 x11_5 0) = some (r1, r2, r3) := by rw [if_neg (show ¬ (false = true) by decide)] at H; exact H
            clear H
            have H := H1
            clear H1
            have H' := Aside0.mk H
            clear H
            go_wp2_with (first | ((with_reducible refine gate_dst (N := 12) rfl ?_); refine BF.new w.heap.size rfl (N := 12) rfl rfl (Below.refl _ _) (below_size (by repeat (first | (with_reducible first | exact HB.out | apply below_alloc | apply pw_below_drewN | apply below_drew1) | exact HB.out))) ?_; intro gbb wb hbf hb; have n0_ := Aside0.mk (below_trans_ (by repeat (first | (with_reducible first | exact HB.out | apply below_alloc | apply pw_below_drewN | apply below_drew1) | exact HB.out)) hb); clear HB; have HB := n0_; have HF := Aside0.mk hbf; clear n0_ hb hbf))
            go_loopg [13, 53] kj9 (fun kq v13 v53 w' => ∃ (x12_3 : ByteArray) (x13_3 : ByteArray) (x53_3 : Int), v13 = .string x13_3 ∧ v53 = .int .i64 x53_3 ∧ Aside0 (chars_Replace.l0 kq a1 a2 x11_5 x12_3 x13_3 x11_5 x53_3 = some (r1, r2, r3)) ∧ Aside0 (kq ≤ kj9) ∧ Aside0 (BF w' w.heap.size gbb x12_3) ∧ Aside0 (Below w.heap.size w w'))
            case atStart => exact ⟨((⟨#[]⟩ : ByteArray)), (a0), (0), (by first | rfl | (simp; done) | (simp [*]; done)), (by first | rfl | (simp; done) | (simp [*]; done)), H', ⟨Nat.le_refl _⟩, ⟨(by (with_reducible repeat (first | apply BF.alloc | apply BF.drewN | apply BF.drew)); exact HF.out)⟩, ⟨by repeat (first | (with_reducible first | exact HB.out | apply below_alloc | apply pw_below_drewN | apply below_drew1) | exact HB.out)⟩⟩
            case round =>
              clear H'
              try clear c1
              try clear p2
              try clear c3
              try clear p6
              try clear c8
              try clear c8b0
              try clear c11
              try clear c11b0
              try clear c12
              try clear c12b0
              try clear c13
              try clear c13b0
              try clear c13b1
              try clear c14
              try clear p2
              try clear p6
              obtain ⟨x12_3, x13_3, x53_3, rfl, rfl, HA, HK3, HF, HB⟩ := hrel
              cases gk with
              | zero => exact absurd HA.out (by simp [chars_Replace.l0])
              | succ k3 =>
                have H := HA.out
                clear HA
                simp only [chars_Replace.l0] at H
                by_cases c15 : x53_3 < x11_5
                · rw [if_pos c15] at H
                  have c15b0 : decide (x53_3 < x11_5) = true := decide_eq_true c15
                  clear c15
                  by_cases c16 : a1.toList = ([] : List UInt8)
                  · rw [if_pos c16] at H
                    have c16b0 : (a1.toList == ([] : List UInt8)) = true := beq_iff_eq.mpr c16
                    have c16b1 : (a1.toList != ([] : List UInt8)) = false := bne_eq_false_iff_eq.mpr c16
                    clear c16
                    by_cases c17 : x53_3 > 0
                    · rw [if_pos c17] at H
                      have c17b0 : decide (0 < x53_3) = true := decide_eq_true c17
                      clear c17
                      by_cases c18 : 0 ≤ 1
                      · rw [if_pos c18] at H
                        have c18b0 := eq_true c18
                        have c18b1 : decide (0 ≤ 1) = true := decide_eq_true c18
                        clear c18
                        by_cases c19 : 1 ≤ (x13_3.size : Int)
                        · rw [if_pos c19] at H
                          have c19b0 := eq_true c19
                          have c19b1 : decide (1 ≤ (x13_3.size : Int)) = true := decide_eq_true c19
                          clear c19
                          by_cases c20 : x12_3.size + (x13_3.extract 0 1).size ≤ 140737488355328
                          · rw [if_pos c20] at H
                            have c20b0 := eq_true c20
                            have c20b1 : decide (x12_3.size + (x13_3.extract 0 1).size ≤ 140737488355328) = true := decide_eq_true c20
                            try have c20b2 : (140737488355328 < x12_3.size + (x13_3.extract 0 1).size) = False := eq_false (Nat.not_lt.2 c20)
                            by_cases c21 : (x12_3 ++ (x13_3.extract 0 1)).size + a2.size ≤ 140737488355328
                            · rw [if_pos c21] at H
                              have c21b0 := eq_true c21
                              have c21b1 : decide ((x12_3 ++ (x13_3.extract 0 1)).size + a2.size ≤ 140737488355328) = true := decide_eq_true c21
                              try have c21b2 : (140737488355328 < (x12_3 ++ (x13_3.extract 0 1)).size + a2.size) = False := eq_false (Nat.not_lt.2 c21)
                              (try (have c21b3 : (140737488355328 < x12_3.size + (x13_3.extract 0 1).size + a2.size) = False := by have h_ := c21b2; simp only [ByteArray.size_append] at h_; exact h_))
                              obtain ⟨ji22, hji22⟩ : ∃ j_ : Int, (wrap64 (1 + (a1.size : Int))) = j_ := ⟨_, rfl⟩
                              replace H : (if 0 ≤ (ji22) then (if (ji22) ≤ (x13_3.size : Int) then (chars_Replace.l0 k3 a1 a2 x11_5 ((x12_3 ++ (x13_3.extract 0 1)) ++ a2) (x13_3.extract ((ji22) : Int).toNat x13_3.size) x11_5 (wrap64 (x53_3 + 1))) else (none)) else (none)) = some (r1, r2, r3) := by first | (rw [hji22] at H; exact H) | (simp only [hji22] at H ⊢; exact H)
                              have hji22w : (IntKind.i64.wrap (1 + (a1.size : Int))) = ji22 := (i64_w _).trans hji22
                              by_cases c23 : 0 ≤ (ji22)
                              · rw [if_pos c23] at H
                                have c23b0 := eq_true c23
                                have c23b1 : decide (0 ≤ (ji22)) = true := decide_eq_true c23
                                clear c23
                                by_cases c24 : (ji22) ≤ (x13_3.size : Int)
                                · rw [if_pos c24] at H
                                  have c24b0 := eq_true c24
                                  have c24b1 : decide ((ji22) ≤ (x13_3.size : Int)) = true := decide_eq_true c24
                                  clear c24
                                  have H' := Aside0.mk H
                                  clear H
                                  go_wp2_with (first | ((with_reducible refine gate_callee (f := 34) rfl ?_); refine goesL_ (some 66) rfl rfl Tryd.func34 (by kernel_rfl) rfl #[.pointer (some ⟨gbb, 0, none⟩), .string (x13_3.extract 0 1)] rfl (by (try simp only [List.map_toArray, List.map_cons, List.map_nil]); first | done | rfl | (simp only [List.length_drop, List.length_take]; rfl)) ?_; refine (BF.write (by (with_reducible repeat (first | apply BF.alloc | apply BF.drewN | apply BF.drew)); exact HF.out) (x13_3.extract 0 1) (of_decide_eq_true (by first | (with_reducible assumption) | assumption)) (below_size (by repeat (first | (with_reducible first | exact HB.out | apply below_alloc | apply pw_below_drewN | apply below_drew1) | exact HB.out)))).mono ?_; rintro e wv66 ⟨rfl, hbf, hb⟩; refine ⟨_, rfl, ?_⟩; have n0_ := Aside0.mk (below_trans_ (by repeat (first | (with_reducible first | exact HB.out | apply below_alloc | apply pw_below_drewN | apply below_drew1) | exact HB.out)) hb); clear HB HF; have HB := n0_; have HF := Aside0.mk hbf; clear n0_ hb hbf) | ((with_reducible refine gate_callee (f := 34) rfl ?_); refine goesL_ (some 68) rfl rfl Tryd.func34 (by kernel_rfl) rfl #[.pointer (some ⟨gbb, 0, none⟩), .string a2] rfl (by (try simp only [List.map_toArray, List.map_cons, List.map_nil]); first | done | rfl | (simp only [List.length_drop, List.length_take]; rfl)) ?_; refine (BF.write (by (with_reducible repeat (first | apply BF.alloc | apply BF.drewN | apply BF.drew)); exact HF.out) a2 (of_decide_eq_true (by first | (with_reducible assumption) | assumption)) (below_size (by repeat (first | (with_reducible first | exact HB.out | apply below_alloc | apply pw_below_drewN | apply below_drew1) | exact HB.out)))).mono ?_; rintro e wv68 ⟨rfl, hbf, hb⟩; refine ⟨_, rfl, ?_⟩; have n0_ := Aside0.mk (below_trans_ (by repeat (first | (with_reducible first | exact HB.out | apply below_alloc | apply pw_below_drewN | apply below_drew1) | exact HB.out)) hb); clear HB HF; have HB := n0_; have HF := Aside0.mk hbf; clear n0_ hb hbf))
                                  go_roundg k3
                                  case measure => have := HJ5.out; have := HJ9.out; have := HK3.out; omega
                                  case rel => exact ⟨((x12_3 ++ (x13_3.extract 0 1)) ++ a2), (x13_3.extract ((ji22) : Int).toNat x13_3.size), (wrap64 (x53_3 + 1)), (by first | rfl | (simp; done) | (simp only [← hji22] <;> (first | rfl | simp)) | (simp [*]; done)), (by first | rfl | (simp; done) | (simp [*]; done)), H', ⟨by have := HJ5.out; have := HJ9.out; have := HK3.out; omega⟩, ⟨(by (with_reducible repeat (first | apply BF.alloc | apply BF.drewN | apply BF.drew)); exact HF.out)⟩, ⟨by repeat (first | (with_reducible first | exact HB.out | apply below_alloc | apply pw_below_drewN | apply below_drew1) | exact HB.out)⟩⟩
                                · rw [if_neg c24] at H
                                  exact absurd H (by simp)
                              · rw [if_neg c23] at H
                                exact absurd H (by simp)
                            · rw [if_neg c21] at H
                              exact absurd H (by simp)
                          · rw [if_neg c20] at H
                            exact absurd H (by simp)
                        · rw [if_neg c19] at H
                          exact absurd H (by simp)
                      · rw [if_neg c18] at H
                        exact absurd H (by simp)
                    · rw [if_neg c17] at H
                      have c17b0 : decide (0 < x53_3) = false := decide_eq_false c17
                      clear c17
                      by_cases c25 : 0 ≤ 0
                      · rw [if_pos c25] at H
                        have c25b0 := eq_true c25
                        have c25b1 : decide (0 ≤ 0) = true := decide_eq_true c25
                        clear c25
                        by_cases c26 : 0 ≤ (x13_3.size : Int)
                        · rw [if_pos c26] at H
                          have c26b0 := eq_true c26
                          have c26b1 : decide (0 ≤ (x13_3.size : Int)) = true := decide_eq_true c26
                          clear c26
                          by_cases c27 : x12_3.size + (x13_3.extract 0 0).size ≤ 140737488355328
                          · rw [if_pos c27] at H
                            have c27b0 := eq_true c27
                            have c27b1 : decide (x12_3.size + (x13_3.extract 0 0).size ≤ 140737488355328) = true := decide_eq_true c27
                            try have c27b2 : (140737488355328 < x12_3.size + (x13_3.extract 0 0).size) = False := eq_false (Nat.not_lt.2 c27)
                            by_cases c28 : (x12_3 ++ (x13_3.extract 0 0)).size + a2.size ≤ 140737488355328
                            · rw [if_pos c28] at H
                              have c28b0 := eq_true c28
                              have c28b1 : decide ((x12_3 ++ (x13_3.extract 0 0)).size + a2.size ≤ 140737488355328) = true := decide_eq_true c28
                              try have c28b2 : (140737488355328 < (x12_3 ++ (x13_3.extract 0 0)).size + a2.size) = False := eq_false (Nat.not_lt.2 c28)
                              (try (have c28b3 : (140737488355328 < x12_3.size + (x13_3.extract 0 0).size + a2.size) = False := by have h_ := c28b2; simp only [ByteArray.size_append] at h_; exact h_))
                              obtain ⟨ji29, hji29⟩ : ∃ j_ : Int, (wrap64 (0 + (a1.size : Int))) = j_ := ⟨_, rfl⟩
                              replace H : (if 0 ≤ (ji29) then (if (ji29) ≤ (x13_3.size : Int) then (chars_Replace.l0 k3 a1 a2 x11_5 ((x12_3 ++ (x13_3.extract 0 0)) ++ a2) (x13_3.extract ((ji29) : Int).toNat x13_3.size) x11_5 (wrap64 (x53_3 + 1))) else (none)) else (none)) = some (r1, r2, r3) := by first | (rw [hji29] at H; exact H) | (simp only [hji29] at H ⊢; exact H)
                              have hji29w : (IntKind.i64.wrap (0 + (a1.size : Int))) = ji29 := (i64_w _).trans hji29
                              by_cases c30 : 0 ≤ (ji29)
                              · rw [if_pos c30] at H
                                have c30b0 := eq_true c30
                                have c30b1 : decide (0 ≤ (ji29)) = true := decide_eq_true c30
                                clear c30
                                by_cases c31 : (ji29) ≤ (x13_3.size : Int)
                                · rw [if_pos c31] at H
                                  have c31b0 := eq_true c31
                                  have c31b1 : decide ((ji29) ≤ (x13_3.size : Int)) = true := decide_eq_true c31
                                  clear c31
                                  have H' := Aside0.mk H
                                  clear H
                                  have hz_ : wrap64 (a1.size : Int) = ji29 := (by rw [← hji29, Int.zero_add])
                                  have hzw_ : (IntKind.i64.wrap (a1.size : Int)) = ji29 := (i64_w _).trans hz_
                                  go_wp2_with (first | ((with_reducible refine gate_callee (f := 34) rfl ?_); refine goesL_ (some 66) rfl rfl Tryd.func34 (by kernel_rfl) rfl #[.pointer (some ⟨gbb, 0, none⟩), .string ByteArray.empty] rfl (by (try simp only [List.map_toArray, List.map_cons, List.map_nil]); first | done | rfl | (simp only [List.length_drop, List.length_take]; rfl)) ?_; refine (BF.write (by (with_reducible repeat (first | apply BF.alloc | apply BF.drewN | apply BF.drew)); exact HF.out) ByteArray.empty (by have h_ : x12_3.size + (x13_3.extract 0 0).size ≤ 140737488355328 := (of_decide_eq_true (by first | (with_reducible assumption) | assumption)); rw [ext00_] at h_; exact h_) (below_size (by repeat (first | (with_reducible first | exact HB.out | apply below_alloc | apply pw_below_drewN | apply below_drew1) | exact HB.out)))).mono ?_; rintro e wv66 ⟨rfl, hbf, hb⟩; refine ⟨_, rfl, ?_⟩; rw [← ext00_ x13_3] at hbf; have n0_ := Aside0.mk (below_trans_ (by repeat (first | (with_reducible first | exact HB.out | apply below_alloc | apply pw_below_drewN | apply below_drew1) | exact HB.out)) hb); clear HB HF; have HB := n0_; have HF := Aside0.mk hbf; clear n0_ hb hbf) | ((with_reducible refine gate_callee (f := 34) rfl ?_); refine goesL_ (some 68) rfl rfl Tryd.func34 (by kernel_rfl) rfl #[.pointer (some ⟨gbb, 0, none⟩), .string a2] rfl (by (try simp only [List.map_toArray, List.map_cons, List.map_nil]); first | done | rfl | (simp only [List.length_drop, List.length_take]; rfl)) ?_; refine (BF.write (by (with_reducible repeat (first | apply BF.alloc | apply BF.drewN | apply BF.drew)); exact HF.out) a2 (of_decide_eq_true (by first | (with_reducible assumption) | assumption)) (below_size (by repeat (first | (with_reducible first | exact HB.out | apply below_alloc | apply pw_below_drewN | apply below_drew1) | exact HB.out)))).mono ?_; rintro e wv68 ⟨rfl, hbf, hb⟩; refine ⟨_, rfl, ?_⟩; have n0_ := Aside0.mk (below_trans_ (by repeat (first | (with_reducible first | exact HB.out | apply below_alloc | apply pw_below_drewN | apply below_drew1) | exact HB.out)) hb); clear HB HF; have HB := n0_; have HF := Aside0.mk hbf; clear n0_ hb hbf))
                                  go_roundg k3
                                  case measure => have := HJ5.out; have := HJ9.out; have := HK3.out; omega
                                  case rel => exact ⟨((x12_3 ++ (x13_3.extract 0 0)) ++ a2), (x13_3.extract ((ji29) : Int).toNat x13_3.size), (wrap64 (x53_3 + 1)), (by first | rfl | (simp; done) | (simp only [← hji29] <;> (first | rfl | simp)) | (simp [*]; done)), (by first | rfl | (simp; done) | (simp [*]; done)), H', ⟨by have := HJ5.out; have := HJ9.out; have := HK3.out; omega⟩, ⟨(by (with_reducible repeat (first | apply BF.alloc | apply BF.drewN | apply BF.drew)); exact HF.out)⟩, ⟨by repeat (first | (with_reducible first | exact HB.out | apply below_alloc | apply pw_below_drewN | apply below_drew1) | exact HB.out)⟩⟩
                                · rw [if_neg c31] at H
                                  exact absurd H (by simp)
                              · rw [if_neg c30] at H
                                exact absurd H (by simp)
                            · rw [if_neg c28] at H
                              exact absurd H (by simp)
                          · rw [if_neg c27] at H
                            exact absurd H (by simp)
                        · rw [if_neg c26] at H
                          exact absurd H (by simp)
                      · rw [if_neg c25] at H
                        exact absurd H (by simp)
                  · rw [if_neg c16] at H
                    have c16b0 : (a1.toList == ([] : List UInt8)) = false := beq_eq_false_iff_ne.mpr c16
                    have c16b1 : (a1.toList != ([] : List UInt8)) = true := bne_iff_ne.mpr c16
                    replace H := Option.bind_eq_some_iff.mp H
                    obtain ⟨t306, A320, H⟩ := H
                    replace H : (if 0 ≤ t306 then (if t306 ≤ (x13_3.size : Int) then (if x12_3.size + (x13_3.extract 0 (t306 : Int).toNat).size ≤ 140737488355328 then (if (x12_3 ++ (x13_3.extract 0 (t306 : Int).toNat)).size + a2.size ≤ 140737488355328 then (if 0 ≤ (wrap64 (t306 + (a1.size : Int))) then (if (wrap64 (t306 + (a1.size : Int))) ≤ (x13_3.size : Int) then (chars_Replace.l0 k3 a1 a2 x11_5 ((x12_3 ++ (x13_3.extract 0 (t306 : Int).toNat)) ++ a2) (x13_3.extract ((wrap64 (t306 + (a1.size : Int))) : Int).toNat x13_3.size) x11_5 (wrap64 (x53_3 + 1))) else (none)) else (none)) else (none)) else (none)) else (none)) else (none)) = some (r1, r2, r3) := H
                    have A32 := Aside0.mk A320
                    clear A320
                    by_cases c33 : 0 ≤ t306
                    · rw [if_pos c33] at H
                      have c33b0 := eq_true c33
                      have c33b1 : decide (0 ≤ t306) = true := decide_eq_true c33
                      clear c33
                      by_cases c34 : t306 ≤ (x13_3.size : Int)
                      · rw [if_pos c34] at H
                        have c34b0 := eq_true c34
                        have c34b1 : decide (t306 ≤ (x13_3.size : Int)) = true := decide_eq_true c34
                        clear c34
                        by_cases c35 : x12_3.size + (x13_3.extract 0 (t306 : Int).toNat).size ≤ 140737488355328
                        · rw [if_pos c35] at H
                          have c35b0 := eq_true c35
                          have c35b1 : decide (x12_3.size + (x13_3.extract 0 (t306 : Int).toNat).size ≤ 140737488355328) = true := decide_eq_true c35
                          try have c35b2 : (140737488355328 < x12_3.size + (x13_3.extract 0 (t306 : Int).toNat).size) = False := eq_false (Nat.not_lt.2 c35)
                          by_cases c36 : (x12_3 ++ (x13_3.extract 0 (t306 : Int).toNat)).size + a2.size ≤ 140737488355328
                          · rw [if_pos c36] at H
                            have c36b0 := eq_true c36
                            have c36b1 : decide ((x12_3 ++ (x13_3.extract 0 (t306 : Int).toNat)).size + a2.size ≤ 140737488355328) = true := decide_eq_true c36
                            try have c36b2 : (140737488355328 < (x12_3 ++ (x13_3.extract 0 (t306 : Int).toNat)).size + a2.size) = False := eq_false (Nat.not_lt.2 c36)
                            (try (have c36b3 : (140737488355328 < x12_3.size + (x13_3.extract 0 (t306 : Int).toNat).size + a2.size) = False := by have h_ := c36b2; simp only [ByteArray.size_append] at h_; exact h_))
                            obtain ⟨ji37, hji37⟩ : ∃ j_ : Int, (wrap64 (t306 + (a1.size : Int))) = j_ := ⟨_, rfl⟩
                            replace H : (if 0 ≤ (ji37) then (if (ji37) ≤ (x13_3.size : Int) then (chars_Replace.l0 k3 a1 a2 x11_5 ((x12_3 ++ (x13_3.extract 0 (t306 : Int).toNat)) ++ a2) (x13_3.extract ((ji37) : Int).toNat x13_3.size) x11_5 (wrap64 (x53_3 + 1))) else (none)) else (none)) = some (r1, r2, r3) := by first | (rw [hji37] at H; exact H) | (simp only [hji37] at H ⊢; exact H)
                            (try rw [hji37] at A32)
                            have hji37w : (IntKind.i64.wrap (t306 + (a1.size : Int))) = ji37 := (i64_w _).trans hji37
                            by_cases c38 : 0 ≤ (ji37)
                            · rw [if_pos c38] at H
                              have c38b0 := eq_true c38
                              have c38b1 : decide (0 ≤ (ji37)) = true := decide_eq_true c38
                              clear c38
                              by_cases c39 : (ji37) ≤ (x13_3.size : Int)
                              · rw [if_pos c39] at H
                                have c39b0 := eq_true c39
                                have c39b1 : decide ((ji37) ≤ (x13_3.size : Int)) = true := decide_eq_true c39
                                clear c39
                                have H' := Aside0.mk H
                                clear H
                                go_wp2_with (first | ((with_reducible refine gate_callee (f := 34) rfl ?_); refine goesL_ (some 66) rfl rfl Tryd.func34 (by kernel_rfl) rfl #[.pointer (some ⟨gbb, 0, none⟩), .string (x13_3.extract 0 (t306 : Int).toNat)] rfl (by (try simp only [List.map_toArray, List.map_cons, List.map_nil]); first | done | rfl | (simp only [List.length_drop, List.length_take]; rfl)) ?_; refine (BF.write (by (with_reducible repeat (first | apply BF.alloc | apply BF.drewN | apply BF.drew)); exact HF.out) (x13_3.extract 0 (t306 : Int).toNat) (of_decide_eq_true (by first | (with_reducible assumption) | assumption)) (below_size (by repeat (first | (with_reducible first | exact HB.out | apply below_alloc | apply pw_below_drewN | apply below_drew1) | exact HB.out)))).mono ?_; rintro e wv66 ⟨rfl, hbf, hb⟩; refine ⟨_, rfl, ?_⟩; have n0_ := Aside0.mk (below_trans_ (by repeat (first | (with_reducible first | exact HB.out | apply below_alloc | apply pw_below_drewN | apply below_drew1) | exact HB.out)) hb); clear HB HF; have HB := n0_; have HF := Aside0.mk hbf; clear n0_ hb hbf) | ((with_reducible refine gate_callee (f := 34) rfl ?_); refine goesL_ (some 68) rfl rfl Tryd.func34 (by kernel_rfl) rfl #[.pointer (some ⟨gbb, 0, none⟩), .string a2] rfl (by (try simp only [List.map_toArray, List.map_cons, List.map_nil]); first | done | rfl | (simp only [List.length_drop, List.length_take]; rfl)) ?_; refine (BF.write (by (with_reducible repeat (first | apply BF.alloc | apply BF.drewN | apply BF.drew)); exact HF.out) a2 (of_decide_eq_true (by first | (with_reducible assumption) | assumption)) (below_size (by repeat (first | (with_reducible first | exact HB.out | apply below_alloc | apply pw_below_drewN | apply below_drew1) | exact HB.out)))).mono ?_; rintro e wv68 ⟨rfl, hbf, hb⟩; refine ⟨_, rfl, ?_⟩; have n0_ := Aside0.mk (below_trans_ (by repeat (first | (with_reducible first | exact HB.out | apply below_alloc | apply pw_below_drewN | apply below_drew1) | exact HB.out)) hb); clear HB HF; have HB := n0_; have HF := Aside0.mk hbf; clear n0_ hb hbf) | ((with_reducible refine gate_callee (f := 32) rfl ?_); refine goesL_ (some 60) rfl rfl Tryd.func32 (by kernel_rfl) rfl #[.string x13_3, .string a1] rfl (by (try simp only [List.map_toArray, List.map_cons, List.map_nil]); first | done | rfl | (simp only [List.length_drop, List.length_take]; rfl)) ?_; (with_reducible refine (xIndex.calls x13_3 a1 t306 _ ?side1 A32.out).mono ?_); (case side1 => exact GW.below HG.out (by repeat (first | (with_reducible first | exact HB.out | apply below_alloc | apply pw_below_drewN | apply below_drew1) | exact HB.out))); rintro e w40 ⟨rfl, hb⟩; refine ⟨_, rfl, ?_⟩; have n9_ := Aside0.mk (BF.below (by (with_reducible repeat (first | apply BF.alloc | apply BF.drewN | apply BF.drew)); exact HF.out) hb); clear HF; have HF := n9_; clear n9_; have n0_ := Aside0.mk (below_step (by repeat (first | (with_reducible first | exact HB.out | apply below_alloc | apply pw_below_drewN | apply below_drew1) | exact HB.out)) hb); clear HB; have HB := n0_; clear n0_; (try clear hb); (try clear hb2); (try clear hk); (try clear hi)))
                                go_roundg k3
                                case measure => have := HJ5.out; have := HJ9.out; have := HK3.out; omega
                                case rel => exact ⟨((x12_3 ++ (x13_3.extract 0 (t306 : Int).toNat)) ++ a2), (x13_3.extract ((ji37) : Int).toNat x13_3.size), (wrap64 (x53_3 + 1)), (by first | rfl | (simp; done) | (simp only [← hji37] <;> (first | rfl | simp)) | (simp [*]; done)), (by first | rfl | (simp; done) | (simp [*]; done)), H', ⟨by have := HJ5.out; have := HJ9.out; have := HK3.out; omega⟩, ⟨(by (with_reducible repeat (first | apply BF.alloc | apply BF.drewN | apply BF.drew)); exact HF.out)⟩, ⟨by repeat (first | (with_reducible first | exact HB.out | apply below_alloc | apply pw_below_drewN | apply below_drew1) | exact HB.out)⟩⟩
                              · rw [if_neg c39] at H
                                exact absurd H (by simp)
                            · rw [if_neg c38] at H
                              exact absurd H (by simp)
                          · rw [if_neg c36] at H
                            exact absurd H (by simp)
                        · rw [if_neg c35] at H
                          exact absurd H (by simp)
                      · rw [if_neg c34] at H
                        exact absurd H (by simp)
                    · rw [if_neg c33] at H
                      exact absurd H (by simp)
                · rw [if_neg c15] at H
                  have c15b0 : decide (x53_3 < x11_5) = false := decide_eq_false c15
                  clear c15
                  by_cases c41 : x12_3.size + x13_3.size ≤ 140737488355328
                  · rw [if_pos c41] at H
                    have c41b0 := eq_true c41
                    have c41b1 : decide (x12_3.size + x13_3.size ≤ 140737488355328) = true := decide_eq_true c41
                    try have c41b2 : (140737488355328 < x12_3.size + x13_3.size) = False := eq_false (Nat.not_lt.2 c41)
                    simp only [Option.some.injEq, Prod.mk.injEq] at H
                    obtain ⟨rfl, rfl, rfl⟩ := H
                    go_wp2_with (first | ((with_reducible refine gate_callee (f := 34) rfl ?_); refine goesL_ (some 77) rfl rfl Tryd.func34 (by kernel_rfl) rfl #[.pointer (some ⟨gbb, 0, none⟩), .string x13_3] rfl (by (try simp only [List.map_toArray, List.map_cons, List.map_nil]); first | done | rfl | (simp only [List.length_drop, List.length_take]; rfl)) ?_; refine (BF.write (by (with_reducible repeat (first | apply BF.alloc | apply BF.drewN | apply BF.drew)); exact HF.out) x13_3 (of_decide_eq_true (by first | (with_reducible assumption) | assumption)) (below_size (by repeat (first | (with_reducible first | exact HB.out | apply below_alloc | apply pw_below_drewN | apply below_drew1) | exact HB.out)))).mono ?_; rintro e wv77 ⟨rfl, hbf, hb⟩; refine ⟨_, rfl, ?_⟩; have n0_ := Aside0.mk (below_trans_ (by repeat (first | (with_reducible first | exact HB.out | apply below_alloc | apply pw_below_drewN | apply below_drew1) | exact HB.out)) hb); clear HB HF; have HB := n0_; have HF := Aside0.mk hbf; clear n0_ hb hbf) | ((with_reducible refine gate_callee (f := 35) rfl ?_); refine goesL_ (some 78) rfl rfl Tryd.func35 (by kernel_rfl) rfl #[.pointer (some ⟨gbb, 0, none⟩)] rfl (by (try simp only [List.map_toArray, List.map_cons, List.map_nil]); first | done | rfl | (simp only [List.length_drop, List.length_take]; rfl)) ?_; refine (BF.text (by (with_reducible repeat (first | apply BF.alloc | apply BF.drewN | apply BF.drew)); exact HF.out) (below_size (by repeat (first | (with_reducible first | exact HB.out | apply below_alloc | apply pw_below_drewN | apply below_drew1) | exact HB.out)))).mono ?_; rintro e wv78 ⟨rfl, hb⟩; refine ⟨_, rfl, ?_⟩; have n0_ := Aside0.mk (below_trans_ (by repeat (first | (with_reducible first | exact HB.out | apply below_alloc | apply pw_below_drewN | apply below_drew1) | exact HB.out)) hb); clear HB HF; have HB := n0_; clear n0_ hb))
                    go_ret3
                    exact ⟨by first | rfl | (simp [errW_none, errW_some] <;> rfl) | (simp [*, errW_none, errW_some] <;> rfl), by repeat (first | (with_reducible first | exact HB.out | apply below_alloc | apply pw_below_drewN | apply below_drew1) | exact HB.out)⟩
                  · rw [if_neg c41] at H
                    exact absurd H (by simp)
end Go.Proofs.YtdeannaaafffbaaDoor.ECd
