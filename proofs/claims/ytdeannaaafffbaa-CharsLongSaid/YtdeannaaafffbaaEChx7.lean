-- Written by eprint.py (a program of this session's, over the kit's print), not by hand.
import Derived.Test.YtdeannaaafffbaaXRow
import Derived.Test.YtdeannaaafffbaaEChx0
namespace Go.Proofs.Ytdeannaaafffbaa.ECh
open Go.Proofs.Ytdeannaaafffbaa.X
open Go.RowKit Go.Proofs.YtdeannaaafffbaaW.PrintWords Go.Proofs.YtdeannaaafffbaaW.PrintLast Go.Proofs.YtdeannaaafffbaaW.PrintMore
attribute [local go_sem] max2_int min2_int max_two min_two max_three min_three max_four min_four   -- for this text's walks alone
set_option linter.unusedVariables false
set_option linter.unusedSimpArgs false

/-! ### abacusref20_changed: function 20 -/
def abacusref20_changed.l0 : Nat → Int → Int → Int → List Int → Int → Option (ByteArray)
  | 0, _, _, _, _, _ => none
  | k + 1, x1, x2, x3, x9, x10 => if x10 < (x9.length : Int) then (if 0 ≤ x10 then (if (rd x9 x10) ≥ x1 then (if (rd x9 x10) ≤ x2 then (abacusref20_changed.l0 k x1 x2 x3 (x9.set (x10 : Int).toNat ((wrap64 ((wrap64 (rd x9 x10)) + x3)) % 256)) (wrap64 (x10 + 1))) else (abacusref20_changed.l0 k x1 x2 x3 x9 (wrap64 (x10 + 1)))) else (abacusref20_changed.l0 k x1 x2 x3 x9 (wrap64 (x10 + 1)))) else (none)) else (some (strOfNums x9))
def abacusref20_changed.f (k : Nat) (a0 : ByteArray) (a1 : Int) (a2 : Int) (a3 : Int) : Option (ByteArray) := if a0.size ≤ 281474976710656 then (abacusref20_changed.l0 k a1 a2 a3 (bytesOf a0) 0) else (none)
theorem abacusref20_changed.mono_l : ∀ k, (∀ y0 y1 y2 y3 y4, LeO (abacusref20_changed.l0 k y0 y1 y2 y3 y4) (abacusref20_changed.l0 (k + 1) y0 y1 y2 y3 y4))
  | 0 => fun _ _ _ _ _ r h => by simp [abacusref20_changed.l0] at h
  | k + 1 => by
    have ih0 := abacusref20_changed.mono_l k
    · intro y0 y1 y2 y3 y4
      unfold abacusref20_changed.l0
      repeat' first
      | (with_reducible exact ih0 _ _ _ _ _)
      | (with_reducible exact LeO.refl _)
      | (with_reducible exact LeO.none _)
      | (with_reducible refine LeO.ite ?_ ?_)
      | (with_reducible refine LeO.bind ?_ (fun _ => ?_))
      | exact ih0 _ _ _ _ _
      | exact LeO.none _
      | refine LeO.ite ?_ ?_
      | refine LeO.bind ?_ (fun _ => ?_)
theorem abacusref20_changed.mono : ∀ a0 a1 a2 a3 k, LeO (abacusref20_changed.f k a0 a1 a2 a3) (abacusref20_changed.f (k + 1) a0 a1 a2 a3) := by
  intro a0 a1 a2 a3 k
  have ih0 := abacusref20_changed.mono_l k
  unfold abacusref20_changed.f
  repeat' first
      | (with_reducible exact ih0 _ _ _ _ _)
      | (with_reducible exact LeO.refl _)
      | (with_reducible exact LeO.none _)
      | (with_reducible refine LeO.ite ?_ ?_)
      | (with_reducible refine LeO.bind ?_ (fun _ => ?_))
      | exact ih0 _ _ _ _ _
      | exact LeO.none _
      | refine LeO.ite ?_ ?_
      | refine LeO.bind ?_ (fun _ => ?_)
set_option maxHeartbeats 8000000 in
set_option maxRecDepth 100000 in
theorem abacusref20_changed.calls (k : Nat) (a0 : ByteArray) (a1 : Int) (a2 : Int) (a3 : Int) (r : ByteArray) (w : World) (h : abacusref20_changed.f k a0 a1 a2 a3 = some r) :
    Calls Try.prog 20 #[.string a0, .int .u8 a1, .int .u8 a2, .int .i64 a3] w fun e w' => e = .returned (.string r) ∧ Below w.heap.size w w' := by
  have HB := Aside0.mk (Below.refl w.heap.size w)
  have H : (if a0.size ≤ 281474976710656 then (abacusref20_changed.l0 k a1 a2 a3 (bytesOf a0) 0) else (none)) = some r := h
  clear h
  by_cases c5 : a0.size ≤ 281474976710656
  · rw [if_pos c5] at H
    have c5b0 := eq_true c5
    have c5b1 : decide (a0.size ≤ 281474976710656) = true := decide_eq_true c5
    clear c5
    obtain ⟨y110, hy110⟩ : ∃ y_ : List Int, y_ = (bytesOf a0) := ⟨_, rfl⟩
    replace H : (abacusref20_changed.l0 k a1 a2 a3 y110 0) = some r := by first | (rw [hy110]; with_reducible exact H) | (have H2_ := (Option.bind_some _ _).symm.trans H; rw [hy110]; with_reducible exact H2_) | (have H2_ := (Option.bind_some _ _).symm.trans H; with_reducible exact H2_) | with_reducible exact H | (rw [hy110]; exact H) | exact H
    have Ny110 := Aside0.mk hy110
    clear hy110
    have H' := Aside0.mk H
    clear H
    go_enter Try.func20, Try.ntmps20
    go_wp2_with (first | ((with_reducible refine gate_dst (N := 12) rfl ?_); refine RF.conv _ rfl (N := 12) rfl 9 41 _ rfl a0 rfl Try.underlying9 Try.underlying41 Try.underlying5 (of_decide_eq_true (by first | (with_reducible assumption) | assumption)) (Below.refl _ _) (Nat.le_refl _) ?_; intro v111 w6 ho7 hb hg_ hnew_; clear hg_ hnew_; (first | rw [← Ny110.out] at ho7 | (simp only [Int.reduceToNat] at ho7; rw [← Ny110.out] at ho7)); have n0_ := Aside0.mk (RF.lower ho7 (below_size (by repeat (first | (with_reducible first | exact HB.out | apply below_alloc | apply pw_below_drewN | apply below_drew1) | exact HB.out)))); have n1_ := Aside0.mk (below_step (by repeat (first | (with_reducible first | exact HB.out | apply below_alloc | apply pw_below_drewN | apply below_drew1) | exact HB.out)) hb); clear HB; have HO112 := n0_; have HB := n1_; clear n0_ n1_; clear hb ho7))
    go_loopg [10] k (fun kq v10 w' => ∃ (x9_1 : List Int) (x10_1 : Int), v10 = .int .i64 x10_1 ∧ Aside0 (abacusref20_changed.l0 kq a1 a2 a3 x9_1 x10_1 = some r) ∧ Aside0 (kq ≤ k) ∧ Aside0 (RF w' w.heap.size (fun _ => True) v111 x9_1) ∧ Aside0 (Below w.heap.size w w'))
    case atStart => exact ⟨(y110), (0), (by first | rfl | (simp; done) | (simp [*]; done)), H', ⟨Nat.le_refl _⟩, ⟨by (with_reducible repeat (first | apply RF.alloc | apply RF.drewN | apply RF.drew)); exact HO112.out⟩, ⟨by repeat (first | (with_reducible first | exact HB.out | apply below_alloc | apply pw_below_drewN | apply below_drew1) | exact HB.out)⟩⟩
    case round =>
      clear H'
      try clear c2
      try clear p2
      try clear c5
      try clear c5b0
      try clear c5b1
      obtain ⟨x9_1, x10_1, rfl, HA, HK1, HO_9, HB⟩ := hrel
      cases gk with
      | zero => exact absurd HA.out (by simp [abacusref20_changed.l0])
      | succ k1 =>
        have H := HA.out
        clear HA
        simp only [abacusref20_changed.l0] at H
        by_cases c8 : x10_1 < (x9_1.length : Int)
        · rw [if_pos c8] at H
          have c8b0 : decide (x10_1 < (x9_1.length : Int)) = true := decide_eq_true c8
          clear c8
          by_cases c9 : 0 ≤ x10_1
          · rw [if_pos c9] at H
            have c9b0 : decide (0 ≤ x10_1) = true := decide_eq_true c9
            clear c9
            by_cases c10 : (rd x9_1 x10_1) ≥ a1
            · rw [if_pos c10] at H
              have c10b0 : decide (a1 ≤ (rd x9_1 x10_1)) = true := decide_eq_true c10
              clear c10
              by_cases c11 : (rd x9_1 x10_1) ≤ a2
              · rw [if_pos c11] at H
                have c11b0 : decide ((rd x9_1 x10_1) ≤ a2) = true := decide_eq_true c11
                clear c11
                obtain ⟨y116, hy116⟩ : ∃ y_ : List Int, y_ = (x9_1.set (x10_1 : Int).toNat ((wrap64 ((wrap64 (rd x9_1 x10_1)) + a3)) % 256)) := ⟨_, rfl⟩
                replace H : (abacusref20_changed.l0 k1 a1 a2 a3 y116 (wrap64 (x10_1 + 1))) = some r := by first | (rw [hy116]; with_reducible exact H) | (have H2_ := (Option.bind_some _ _).symm.trans H; rw [hy116]; with_reducible exact H2_) | (have H2_ := (Option.bind_some _ _).symm.trans H; with_reducible exact H2_) | with_reducible exact H | (rw [hy116]; exact H) | exact H
                have Ny116 := Aside0.mk hy116
                clear hy116
                have H' := Aside0.mk H
                clear H
                obtain ⟨Ao13, co13, eo13⟩ := RF.slice HO_9.out
                subst eo13
                have p113 : 0 ≤ (x10_1 : Int) := of_decide_eq_true (by first | (with_reducible assumption) | assumption)
                have q113 : x10_1 < (x9_1.length : Int) := of_decide_eq_true (by first | (with_reducible assumption) | assumption)
                obtain ⟨ad113, e113, hx113_0⟩ := Kd.at_int (RF.reads' HO_9.out).2.2 x10_1 p113 q113
                cases e113
                replace p113 := eq_true p113
                replace q113 := eq_true q113
                have p114 : 0 ≤ (x10_1 : Int) := of_decide_eq_true (by first | (with_reducible assumption) | assumption)
                have q114 : x10_1 < (x9_1.length : Int) := of_decide_eq_true (by first | (with_reducible assumption) | assumption)
                obtain ⟨ad114, e114, hx114_0⟩ := Kd.at_int (RF.reads' HO_9.out).2.2 x10_1 p114 q114
                obtain rfl : ad113 = ad114 := (by injection e114)
                replace p114 := eq_true p114
                replace q114 := eq_true q114
                have p115 : 0 ≤ (x10_1 : Int) := of_decide_eq_true (by first | (with_reducible assumption) | assumption)
                have q115 : x10_1 < (x9_1.length : Int) := of_decide_eq_true (by first | (with_reducible assumption) | assumption)
                obtain ⟨ad115, e115, hx115_0⟩ := Kd.at_int (RF.reads' HO_9.out).2.2 x10_1 p115 q115
                obtain rfl : ad113 = ad115 := (by injection e115)
                replace p115 := eq_true p115
                replace q115 := eq_true q115
                have p12 : 0 ≤ (x10_1 : Int) := of_decide_eq_true (by first | (with_reducible assumption) | assumption)
                have q12 : (x10_1 : Int) < ((x9_1.length : Int) : Int) := of_decide_eq_true (by first | (with_reducible assumption) | assumption)
                obtain ⟨go12, co12, eo12, gb12, gl12, cl12, HG12⟩ := RF.form HO_9.out (by omega)
                (first | cases eo12 | (injection eo12 with ea_ en_ ec_; (first | subst ea_ | (injection ea_ with ea_; subst ea_)); subst ec_; clear en_))
                have GB12 := Aside0.mk gb12
                have GG12 := Aside0.mk HG12
                clear gb12 gl12 HG12
                (first | simp only [add_plain] at hx113_0 | skip)
                (first | simp only [add_plain] at hx114_0 | skip)
                (first | simp only [add_plain] at hx115_0 | skip)
                obtain ⟨hx12_0, hf12_0⟩ := RF.celln 0 HO_9.out (x10_1 : Int) p12 q12
                replace p12 := eq_true p12
                replace q12 := eq_true q12
                have HP14 := RF.putg HO_9.out (x10_1 : Int) ((wrap64 ((wrap64 (rd x9_1 x10_1)) + a3)) % 256)
                go_wp2_with (first | ((with_reducible refine gate_store (t := 5) (p := 43) rfl ?_); refine store_event (t := 5) (p := 43) (v := ?vo_w15) (w1 := (wr.setCell ⟨go12, (x10_1 : Int).toNat, none⟩ (.int .u8 ((wrap64 ((wrap64 (rd x9_1 x10_1)) + a3)) % 256)))) ?hg ?ho ?hn ?hr ?_; (case ho => rfl); (case hg => rfl); (case hn => rfl); (case hr => first | (go_simp; done) | (go_simp; rfl)); intro w15 hw; have hg : wr.grownBy w15 (some go12) := (by rw [hw]; exact HP14.2); have hp_ : RF w15 w.heap.size (fun _ => True) (.slice (some ⟨go12, 0, none⟩) x9_1.length co13) y116 := (by rw [hw, Ny116.out]; exact HP14.1); clear HP14; have n0_ := Aside0.mk (hp_); have n1_ := Aside0.mk ((by rw [hw]; exact below_set (HB.out) GB12.out : Below w.heap.size w w15)); clear HO_9; clear HB; have HO_9 := n0_; have HB := n1_; clear n0_ n1_; clear hg hw hp_))
                go_roundg k1
                case measure => have := HK1.out; omega
                case rel => exact ⟨(y116), (wrap64 (x10_1 + 1)), (by first | rfl | (simp; done) | (simp [*]; done)), H', ⟨by have := HK1.out; omega⟩, ⟨by (with_reducible repeat (first | apply RF.alloc | apply RF.drewN | apply RF.drew)); exact HO_9.out⟩, ⟨by repeat (first | (with_reducible first | exact HB.out | apply below_alloc | apply pw_below_drewN | apply below_drew1) | exact HB.out)⟩⟩
              · rw [if_neg c11] at H
                have c11b0 : decide ((rd x9_1 x10_1) ≤ a2) = false := decide_eq_false c11
                clear c11
                have H' := Aside0.mk H
                clear H
                obtain ⟨Ao16, co16, eo16⟩ := RF.slice HO_9.out
                subst eo16
                have p113 : 0 ≤ (x10_1 : Int) := of_decide_eq_true (by first | (with_reducible assumption) | assumption)
                have q113 : x10_1 < (x9_1.length : Int) := of_decide_eq_true (by first | (with_reducible assumption) | assumption)
                obtain ⟨ad113, e113, hx113_0⟩ := Kd.at_int (RF.reads' HO_9.out).2.2 x10_1 p113 q113
                cases e113
                replace p113 := eq_true p113
                replace q113 := eq_true q113
                have p114 : 0 ≤ (x10_1 : Int) := of_decide_eq_true (by first | (with_reducible assumption) | assumption)
                have q114 : x10_1 < (x9_1.length : Int) := of_decide_eq_true (by first | (with_reducible assumption) | assumption)
                obtain ⟨ad114, e114, hx114_0⟩ := Kd.at_int (RF.reads' HO_9.out).2.2 x10_1 p114 q114
                obtain rfl : ad113 = ad114 := (by injection e114)
                replace p114 := eq_true p114
                replace q114 := eq_true q114
                go_wp2
                go_roundg k1
                case measure => have := HK1.out; omega
                case rel => exact ⟨(x9_1), (wrap64 (x10_1 + 1)), (by first | rfl | (simp; done) | (simp [*]; done)), H', ⟨by have := HK1.out; omega⟩, ⟨by (with_reducible repeat (first | apply RF.alloc | apply RF.drewN | apply RF.drew)); exact HO_9.out⟩, ⟨by repeat (first | (with_reducible first | exact HB.out | apply below_alloc | apply pw_below_drewN | apply below_drew1) | exact HB.out)⟩⟩
            · rw [if_neg c10] at H
              have c10b0 : decide (a1 ≤ (rd x9_1 x10_1)) = false := decide_eq_false c10
              clear c10
              have H' := Aside0.mk H
              clear H
              obtain ⟨Ao17, co17, eo17⟩ := RF.slice HO_9.out
              subst eo17
              have p113 : 0 ≤ (x10_1 : Int) := of_decide_eq_true (by first | (with_reducible assumption) | assumption)
              have q113 : x10_1 < (x9_1.length : Int) := of_decide_eq_true (by first | (with_reducible assumption) | assumption)
              obtain ⟨ad113, e113, hx113_0⟩ := Kd.at_int (RF.reads' HO_9.out).2.2 x10_1 p113 q113
              cases e113
              replace p113 := eq_true p113
              replace q113 := eq_true q113
              go_wp2
              go_roundg k1
              case measure => have := HK1.out; omega
              case rel => exact ⟨(x9_1), (wrap64 (x10_1 + 1)), (by first | rfl | (simp; done) | (simp [*]; done)), H', ⟨by have := HK1.out; omega⟩, ⟨by (with_reducible repeat (first | apply RF.alloc | apply RF.drewN | apply RF.drew)); exact HO_9.out⟩, ⟨by repeat (first | (with_reducible first | exact HB.out | apply below_alloc | apply pw_below_drewN | apply below_drew1) | exact HB.out)⟩⟩
          · rw [if_neg c9] at H
            exact absurd H (by simp)
        · rw [if_neg c8] at H
          have c8b0 : decide (x10_1 < (x9_1.length : Int)) = false := decide_eq_false c8
          clear c8
          obtain rfl := Option.some.inj H
          obtain ⟨Ao18, co18, eo18⟩ := RF.slice HO_9.out
          subst eo18
          have hcv19 := RF.text (P := Try.prog) Try.underlying41 Try.underlying5 Try.underlying9 HO_9.out
          go_wp2
          go_ret
          exact ⟨by first | rfl | (simp [errW_none, errW_some] <;> rfl) | (simp [*, errW_none, errW_some] <;> rfl), by repeat (first | (with_reducible first | exact HB.out | apply below_alloc | apply pw_below_drewN | apply below_drew1) | exact HB.out)⟩
  · rw [if_neg c5] at H
    exact absurd H (by simp)

end Go.Proofs.Ytdeannaaafffbaa.ECh
