-- Written by eprint.py (a program of this session's, over the kit's print), not by hand.
import Derived.Test.YtdeannaaafffbaaXRow
import Derived.Test.YtdeannaaafffbaaEChx0
namespace Go.Proofs.Ytdeannaaafffbaa.ECh
open Go.Proofs.Ytdeannaaafffbaa.X
open Go.RowKit Go.Proofs.YtdeannaaafffbaaW.PrintWords Go.Proofs.YtdeannaaafffbaaW.PrintLast Go.Proofs.YtdeannaaafffbaaW.PrintMore
attribute [local go_sem] max2_int min2_int max_two min_two max_three min_three max_four min_four   -- for this text's walks alone
set_option linter.unusedVariables false
set_option linter.unusedSimpArgs false

/-! ### chars_turned: function 18 -/
def chars_turned.l0 : Nat → Int → Int → Int → List Int → Int → Int → Option (ByteArray)
  | 0, _, _, _, _, _, _ => none
  | k + 1, x1, x2, x3, x9, x15, x16 => if x16 < x15 then (if 0 ≤ x16 then (if x16 < (x9.length : Int) then (if (rd x9 x16) ≥ x1 then (if (rd x9 x16) ≤ x2 then (chars_turned.l0 k x1 x2 x3 (x9.set (x16 : Int).toNat ((wrap64 ((wrap64 (rd x9 x16)) + x3)) % 256)) x15 (wrap64 (x16 + 1))) else (chars_turned.l0 k x1 x2 x3 x9 x15 (wrap64 (x16 + 1)))) else (chars_turned.l0 k x1 x2 x3 x9 x15 (wrap64 (x16 + 1)))) else (none)) else (none)) else (some (strOfNums x9))
def chars_turned.f (k : Nat) (a0 : ByteArray) (a1 : Int) (a2 : Int) (a3 : Int) : Option (ByteArray) := if a0.size ≤ 281474976710656 then ((some (bytesOf a0 : List Int)).bind fun y102 => (chars_turned.l0 k a1 a2 a3 y102 (y102.length : Int) 0)) else (none)
theorem chars_turned.mono_l : ∀ k, (∀ y0 y1 y2 y3 y4 y5, LeO (chars_turned.l0 k y0 y1 y2 y3 y4 y5) (chars_turned.l0 (k + 1) y0 y1 y2 y3 y4 y5))
  | 0 => fun _ _ _ _ _ _ r h => by simp [chars_turned.l0] at h
  | k + 1 => by
    have ih0 := chars_turned.mono_l k
    · intro y0 y1 y2 y3 y4 y5
      unfold chars_turned.l0
      repeat' first
      | (with_reducible exact ih0 _ _ _ _ _ _)
      | (with_reducible exact LeO.refl _)
      | (with_reducible exact LeO.none _)
      | (with_reducible refine LeO.ite ?_ ?_)
      | (with_reducible refine LeO.bind ?_ (fun _ => ?_))
      | exact ih0 _ _ _ _ _ _
      | exact LeO.none _
      | refine LeO.ite ?_ ?_
      | refine LeO.bind ?_ (fun _ => ?_)
theorem chars_turned.mono : ∀ a0 a1 a2 a3 k, LeO (chars_turned.f k a0 a1 a2 a3) (chars_turned.f (k + 1) a0 a1 a2 a3) := by
  intro a0 a1 a2 a3 k
  have ih0 := chars_turned.mono_l k
  unfold chars_turned.f
  repeat' first
      | (with_reducible exact ih0 _ _ _ _ _ _)
      | (with_reducible exact LeO.refl _)
      | (with_reducible exact LeO.none _)
      | (with_reducible refine LeO.ite ?_ ?_)
      | (with_reducible refine LeO.bind ?_ (fun _ => ?_))
      | exact ih0 _ _ _ _ _ _
      | exact LeO.none _
      | refine LeO.ite ?_ ?_
      | refine LeO.bind ?_ (fun _ => ?_)
set_option maxHeartbeats 8000000 in
set_option maxRecDepth 100000 in
theorem chars_turned.calls (k : Nat) (a0 : ByteArray) (a1 : Int) (a2 : Int) (a3 : Int) (r : ByteArray) (w : World) (h : chars_turned.f k a0 a1 a2 a3 = some r) :
    Calls Try.prog 18 #[.string a0, .int .u8 a1, .int .u8 a2, .int .i64 a3] w fun e w' => e = .returned (.string r) ∧ Below w.heap.size w w' := by
  have HB := Aside0.mk (Below.refl w.heap.size w)
  have H : (if a0.size ≤ 281474976710656 then ((some (bytesOf a0 : List Int)).bind fun y102 => (chars_turned.l0 k a1 a2 a3 y102 (y102.length : Int) 0)) else (none)) = some r := h
  clear h
  by_cases c5 : a0.size ≤ 281474976710656
  · rw [if_pos c5] at H
    have c5b0 := eq_true c5
    have c5b1 : decide (a0.size ≤ 281474976710656) = true := decide_eq_true c5
    clear c5
    obtain ⟨y102, hy102⟩ : ∃ y_ : List Int, y_ = (bytesOf a0) := ⟨_, rfl⟩
    replace H : (chars_turned.l0 k a1 a2 a3 y102 (y102.length : Int) 0) = some r := by first | (rw [hy102]; with_reducible exact H) | (have H2_ := (Option.bind_some _ _).symm.trans H; rw [hy102]; with_reducible exact H2_) | (have H2_ := (Option.bind_some _ _).symm.trans H; with_reducible exact H2_) | with_reducible exact H | (rw [hy102]; exact H) | exact H
    have Ny102 := Aside0.mk hy102
    clear hy102
    have H' := Aside0.mk H
    clear H
    go_enter Try.func18, Try.ntmps18
    go_wp2_with (first | ((with_reducible refine gate_dst (N := 13) rfl ?_); refine RF.conv _ rfl (N := 13) rfl 9 41 _ rfl a0 rfl Try.underlying9 Try.underlying41 Try.underlying5 (of_decide_eq_true (by first | (with_reducible assumption) | assumption)) (Below.refl _ _) (Nat.le_refl _) ?_; intro v103 w6 ho7 hb hg_ hnew_; clear hg_ hnew_; (first | rw [← Ny102.out] at ho7 | (simp only [Int.reduceToNat] at ho7; rw [← Ny102.out] at ho7)); have n0_ := Aside0.mk (RF.lower ho7 (below_size (by repeat (first | (with_reducible first | exact HB.out | apply below_alloc | apply pw_below_drewN | apply below_drew1) | exact HB.out)))); have n1_ := Aside0.mk (below_step (by repeat (first | (with_reducible first | exact HB.out | apply below_alloc | apply pw_below_drewN | apply below_drew1) | exact HB.out)) hb); clear HB; have HO104 := n0_; have HB := n1_; clear n0_ n1_; clear hb ho7; obtain ⟨Ao8, co8, eo8⟩ := RF.slice HO104.out; subst eo8))
    go_loopg [16] k (fun kq v16 w' => ∃ (x9_1 : List Int) (x16_1 : Int), v16 = .int .i64 x16_1 ∧ Aside0 (chars_turned.l0 kq a1 a2 a3 x9_1 (y102.length : Int) x16_1 = some r) ∧ Aside0 (kq ≤ k) ∧ Aside0 (RF w' w.heap.size (fun _ => True) (.slice Ao8 y102.length co8) x9_1) ∧ Aside0 (Below w.heap.size w w'))
    case atStart => exact ⟨(y102), (0), (by first | rfl | (simp; done) | (simp [*]; done)), H', ⟨Nat.le_refl _⟩, ⟨by (with_reducible repeat (first | apply RF.alloc | apply RF.drewN | apply RF.drew)); exact HO104.out⟩, ⟨by repeat (first | (with_reducible first | exact HB.out | apply below_alloc | apply pw_below_drewN | apply below_drew1) | exact HB.out)⟩⟩
    case round =>
      clear H'
      try clear c1
      try clear p2
      try clear c5
      try clear c5b0
      try clear c5b1
      obtain ⟨x9_1, x16_1, rfl, HA, HK1, HO_9, HB⟩ := hrel
      have hl9_1 := (RF.reads' HO_9.out).1
      rw [hl9_1] at HO_9
      (try simp only [hl9_1])
      cases gk with
      | zero => exact absurd HA.out (by simp [chars_turned.l0])
      | succ k1 =>
        have H := HA.out
        clear HA
        simp only [chars_turned.l0] at H
        by_cases c9 : x16_1 < (y102.length : Int)
        · rw [if_pos c9] at H
          have c9b0 : decide (x16_1 < (y102.length : Int)) = true := decide_eq_true c9
          clear c9
          by_cases c10 : 0 ≤ x16_1
          · rw [if_pos c10] at H
            have c10b0 : decide (0 ≤ x16_1) = true := decide_eq_true c10
            clear c10
            by_cases c11 : x16_1 < (x9_1.length : Int)
            · rw [if_pos c11] at H
              have c11b0 : decide (x16_1 < (x9_1.length : Int)) = true := decide_eq_true c11
              clear c11
              by_cases c12 : (rd x9_1 x16_1) ≥ a1
              · rw [if_pos c12] at H
                have c12b0 : decide (a1 ≤ (rd x9_1 x16_1)) = true := decide_eq_true c12
                clear c12
                by_cases c13 : (rd x9_1 x16_1) ≤ a2
                · rw [if_pos c13] at H
                  have c13b0 : decide ((rd x9_1 x16_1) ≤ a2) = true := decide_eq_true c13
                  clear c13
                  obtain ⟨y106, hy106⟩ : ∃ y_ : List Int, y_ = (x9_1.set (x16_1 : Int).toNat ((wrap64 ((wrap64 (rd x9_1 x16_1)) + a3)) % 256)) := ⟨_, rfl⟩
                  replace H : (chars_turned.l0 k1 a1 a2 a3 y106 (y102.length : Int) (wrap64 (x16_1 + 1))) = some r := by first | (rw [hy106]; with_reducible exact H) | (have H2_ := (Option.bind_some _ _).symm.trans H; rw [hy106]; with_reducible exact H2_) | (have H2_ := (Option.bind_some _ _).symm.trans H; with_reducible exact H2_) | with_reducible exact H | (rw [hy106]; exact H) | exact H
                  have Ny106 := Aside0.mk hy106
                  clear hy106
                  have H' := Aside0.mk H
                  clear H
                  have p105 : 0 ≤ (x16_1 : Int) := of_decide_eq_true (by first | (with_reducible assumption) | assumption)
                  have q105 : x16_1 < (x9_1.length : Int) := of_decide_eq_true (by first | (with_reducible assumption) | assumption)
                  obtain ⟨ad105, e105, hx105_0⟩ := Kd.at_int (RF.reads' HO_9.out).2.2 x16_1 p105 q105
                  cases e105
                  replace p105 := eq_true p105
                  replace q105 := eq_true q105
                  have p14 : 0 ≤ (x16_1 : Int) := of_decide_eq_true (by first | (with_reducible assumption) | assumption)
                  have q14 : (x16_1 : Int) < ((x9_1.length : Int) : Int) := of_decide_eq_true (by first | (with_reducible assumption) | assumption)
                  obtain ⟨go14, co14, eo14, gb14, gl14, cl14, HG14⟩ := RF.form HO_9.out (by omega)
                  (first | cases eo14 | (injection eo14 with ea_ en_ ec_; (first | subst ea_ | (injection ea_ with ea_; subst ea_)); subst ec_; clear en_))
                  have GB14 := Aside0.mk gb14
                  have GG14 := Aside0.mk HG14
                  clear gb14 gl14 HG14
                  (first | simp only [add_plain] at hx105_0 | skip)
                  obtain ⟨hx14_0, hf14_0⟩ := RF.celln 0 HO_9.out (x16_1 : Int) p14 q14
                  replace p14 := eq_true p14
                  replace q14 := eq_true q14
                  have HP15 := RF.putg HO_9.out (x16_1 : Int) ((wrap64 ((wrap64 (rd x9_1 x16_1)) + a3)) % 256)
                  go_wp2_with (first | ((with_reducible refine gate_store (t := 5) (p := 36) rfl ?_); refine store_event (t := 5) (p := 36) (v := ?vo_w16) (w1 := (wr.setCell ⟨go14, (x16_1 : Int).toNat, none⟩ (.int .u8 ((wrap64 ((wrap64 (rd x9_1 x16_1)) + a3)) % 256)))) ?hg ?ho ?hn ?hr ?_; (case ho => rfl); (case hg => rfl); (case hn => rfl); (case hr => first | (go_simp; done) | (go_simp; rfl)); intro w16 hw; have hg : wr.grownBy w16 (some go14) := (by rw [hw]; exact HP15.2); have hp_ : RF w16 w.heap.size (fun _ => True) (.slice (some ⟨go14, 0, none⟩) x9_1.length co8) y106 := (by rw [hw, Ny106.out]; exact HP15.1); clear HP15; have n0_ := Aside0.mk (hp_); have n1_ := Aside0.mk ((by rw [hw]; exact below_set (HB.out) GB14.out : Below w.heap.size w w16)); clear HO_9; clear HB; have HO_9 := n0_; have HB := n1_; clear n0_ n1_; clear hg hw hp_))
                  (try simp only [← hl9_1])
                  go_roundg k1
                  case measure => have := HK1.out; omega
                  case rel => exact ⟨(y106), (wrap64 (x16_1 + 1)), (by first | rfl | (simp; done) | (simp [*]; done)), H', ⟨by have := HK1.out; omega⟩, ⟨by (try simp only [hl9_1]); (with_reducible repeat (first | apply RF.alloc | apply RF.drewN | apply RF.drew)); exact HO_9.out⟩, ⟨by repeat (first | (with_reducible first | exact HB.out | apply below_alloc | apply pw_below_drewN | apply below_drew1) | exact HB.out)⟩⟩
                · rw [if_neg c13] at H
                  have c13b0 : decide ((rd x9_1 x16_1) ≤ a2) = false := decide_eq_false c13
                  clear c13
                  have H' := Aside0.mk H
                  clear H
                  have p105 : 0 ≤ (x16_1 : Int) := of_decide_eq_true (by first | (with_reducible assumption) | assumption)
                  have q105 : x16_1 < (x9_1.length : Int) := of_decide_eq_true (by first | (with_reducible assumption) | assumption)
                  obtain ⟨ad105, e105, hx105_0⟩ := Kd.at_int (RF.reads' HO_9.out).2.2 x16_1 p105 q105
                  cases e105
                  replace p105 := eq_true p105
                  replace q105 := eq_true q105
                  go_wp2
                  (try simp only [← hl9_1])
                  go_roundg k1
                  case measure => have := HK1.out; omega
                  case rel => exact ⟨(x9_1), (wrap64 (x16_1 + 1)), (by first | rfl | (simp; done) | (simp [*]; done)), H', ⟨by have := HK1.out; omega⟩, ⟨by (try simp only [hl9_1]); (with_reducible repeat (first | apply RF.alloc | apply RF.drewN | apply RF.drew)); exact HO_9.out⟩, ⟨by repeat (first | (with_reducible first | exact HB.out | apply below_alloc | apply pw_below_drewN | apply below_drew1) | exact HB.out)⟩⟩
              · rw [if_neg c12] at H
                have c12b0 : decide (a1 ≤ (rd x9_1 x16_1)) = false := decide_eq_false c12
                clear c12
                have H' := Aside0.mk H
                clear H
                have p105 : 0 ≤ (x16_1 : Int) := of_decide_eq_true (by first | (with_reducible assumption) | assumption)
                have q105 : x16_1 < (x9_1.length : Int) := of_decide_eq_true (by first | (with_reducible assumption) | assumption)
                obtain ⟨ad105, e105, hx105_0⟩ := Kd.at_int (RF.reads' HO_9.out).2.2 x16_1 p105 q105
                cases e105
                replace p105 := eq_true p105
                replace q105 := eq_true q105
                go_wp2
                (try simp only [← hl9_1])
                go_roundg k1
                case measure => have := HK1.out; omega
                case rel => exact ⟨(x9_1), (wrap64 (x16_1 + 1)), (by first | rfl | (simp; done) | (simp [*]; done)), H', ⟨by have := HK1.out; omega⟩, ⟨by (try simp only [hl9_1]); (with_reducible repeat (first | apply RF.alloc | apply RF.drewN | apply RF.drew)); exact HO_9.out⟩, ⟨by repeat (first | (with_reducible first | exact HB.out | apply below_alloc | apply pw_below_drewN | apply below_drew1) | exact HB.out)⟩⟩
            · rw [if_neg c11] at H
              exact absurd H (by simp)
          · rw [if_neg c10] at H
            exact absurd H (by simp)
        · rw [if_neg c9] at H
          have c9b0 : decide (x16_1 < (y102.length : Int)) = false := decide_eq_false c9
          (try rw [hl9_1] at c9b0)
          clear c9
          obtain rfl := Option.some.inj H
          have hcv17 := RF.text (P := Try.prog) Try.underlying41 Try.underlying5 Try.underlying9 HO_9.out
          go_wp2
          go_ret
          exact ⟨by first | rfl | (simp [errW_none, errW_some] <;> rfl) | (simp [*, errW_none, errW_some] <;> rfl), by repeat (first | (with_reducible first | exact HB.out | apply below_alloc | apply pw_below_drewN | apply below_drew1) | exact HB.out)⟩
  · rw [if_neg c5] at H
    exact absurd H (by simp)

end Go.Proofs.Ytdeannaaafffbaa.ECh
