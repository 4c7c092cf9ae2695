-- Written by eprint.py (a program of this session's, over the kit's print), not by hand.
import Derived.Test.YtdeannaaafffbaaEChx0
import Derived.Test.YtdeannaaafffbaaEChx18
import Derived.Test.YtdeannaaafffbaaX
namespace Go.Proofs.Ytdeannaaafffbaa.ECh
open Go.RowKit Go.Proofs.YtdeannaaafffbaaW.PrintWords Go.Proofs.YtdeannaaafffbaaW.PrintLast Go.Proofs.YtdeannaaafffbaaW.PrintMore
attribute [local go_sem] max2_int min2_int max_two min_two max_three min_three max_four min_four   -- for this text's walks alone
set_option linter.unusedVariables false
set_option linter.unusedSimpArgs false

open Go.Proofs.Ytdeannaaafffbaa.X
/-! ### abacuslaw20_CharsReplaces: function 4 -/
def abacuslaw20_CharsReplaces.l0 : Nat → List (S28) → Int → Option (Bool)
  | 0, _, _ => none
  | k + 1, x0, x3 => if x3 < (x0.length : Int) then (if 0 ≤ x3 then (if (((rd_T28 x0 x3).f0).size : Int) > 16777216 then (abacuslaw20_CharsReplaces.l0 k x0 (wrap64 (x3 + 1))) else ((abacuslaw20_replaces.f k ((rd_T28 x0 x3).f0) ((rd_T28 x0 x3).f1) ((rd_T28 x0 x3).f2) ((rd_T28 x0 x3).f6)).bind fun t159 => (if t159 = true then ((abacuslaw20_replaces.f k ((rd_T28 x0 x3).f0) ((rd_T28 x0 x3).f1) ((rd_T28 x0 x3).f2) (-1)).bind fun t160 => (if t160 = true then ((abacuslaw20_replaces.f k ((rd_T28 x0 x3).f0) (⟨#[]⟩ : ByteArray) ((rd_T28 x0 x3).f2) ((rd_T28 x0 x3).f6)).bind fun t161 => (if t161 = true then (abacuslaw20_CharsReplaces.l0 k x0 (wrap64 (x3 + 1))) else (some false))) else (some false))) else (some false)))) else (none)) else (some true)
def abacuslaw20_CharsReplaces.f (k : Nat) (l0 : List (S28)) : Option (Bool) := (abacuslaw20_replaces.f k (⟨#[98, 97, 110, 97, 110, 97]⟩ : ByteArray) (⟨#[97, 110]⟩ : ByteArray) (⟨#[60, 62]⟩ : ByteArray) (-1)).bind fun t156 => (if t156 = true then (abacuslaw20_CharsReplaces.l0 k l0 0) else (some false))
theorem abacuslaw20_CharsReplaces.mono_l : ∀ k, (∀ y0 y1, LeO (abacuslaw20_CharsReplaces.l0 k y0 y1) (abacuslaw20_CharsReplaces.l0 (k + 1) y0 y1))
  | 0 => fun _ _ r h => by simp [abacuslaw20_CharsReplaces.l0] at h
  | k + 1 => by
    have ih0 := abacuslaw20_CharsReplaces.mono_l k
    · intro y0 y1
      unfold abacuslaw20_CharsReplaces.l0
      repeat' first
      | (with_reducible exact ih0 _ _)
      | (with_reducible exact abacuslaw20_replaces.mono _ _ _ _ _)
      | (with_reducible exact LeO.refl _)
      | (with_reducible exact LeO.none _)
      | (with_reducible refine LeO.ite ?_ ?_)
      | (with_reducible refine LeO.bind ?_ (fun _ => ?_))
      | exact ih0 _ _
      | exact abacuslaw20_replaces.mono _ _ _ _ _
      | exact LeO.none _
      | refine LeO.ite ?_ ?_
      | refine LeO.bind ?_ (fun _ => ?_)
theorem abacuslaw20_CharsReplaces.mono : ∀ a0 k, LeO (abacuslaw20_CharsReplaces.f k a0) (abacuslaw20_CharsReplaces.f (k + 1) a0) := by
  intro a0 k
  have ih0 := abacuslaw20_CharsReplaces.mono_l k
  unfold abacuslaw20_CharsReplaces.f
  repeat' first
      | (with_reducible exact ih0 _ _)
      | (with_reducible exact abacuslaw20_replaces.mono _ _ _ _ _)
      | (with_reducible exact LeO.refl _)
      | (with_reducible exact LeO.none _)
      | (with_reducible refine LeO.ite ?_ ?_)
      | (with_reducible refine LeO.bind ?_ (fun _ => ?_))
      | exact ih0 _ _
      | exact abacuslaw20_replaces.mono _ _ _ _ _
      | exact LeO.none _
      | refine LeO.ite ?_ ?_
      | refine LeO.bind ?_ (fun _ => ?_)
set_option maxHeartbeats 8000000 in
set_option maxRecDepth 100000 in
theorem abacuslaw20_CharsReplaces.calls (k : Nat) (A0 : Option Addr) (c0 : Nat) (l0 : List (S28)) (w : World) (hr0 : Kd.C k28 w A0 l0.length l0) (hc0 : l0.length ≤ c0) (hG : GW w) (h : abacuslaw20_CharsReplaces.f k l0 = some true) :
    Calls Try.prog 4 #[.slice A0 l0.length c0] w fun e w' => e = .returned (.bool true) ∧ Below w.heap.size w w' := by
  have hu28 := Try.underlying28
  have HR0 := Aside0.mk hr0
  have HC0 := Aside0.mk hc0
  clear hr0 hc0
  have HB := Aside0.mk (Below.refl w.heap.size w)
  have HG := Aside0.mk hG
  clear hG
  have H : ((abacuslaw20_replaces.f k (⟨#[98, 97, 110, 97, 110, 97]⟩ : ByteArray) (⟨#[97, 110]⟩ : ByteArray) (⟨#[60, 62]⟩ : ByteArray) (-1)).bind fun t156 => (if t156 = true then (abacuslaw20_CharsReplaces.l0 k l0 0) else (some false))) = some true := h
  clear h
  replace H := Option.bind_eq_some_iff.mp H
  obtain ⟨t156, A20, H⟩ := H
  replace H : (if t156 = true then (abacuslaw20_CharsReplaces.l0 k l0 0) else (some false)) = some true := H
  have A2 := Aside0.mk A20
  clear A20
  by_cases c3 : t156 = true
  · subst c3
    have H1 : (abacuslaw20_CharsReplaces.l0 k l0 0) = some true := by rw [if_pos rfl] at H; exact H
    clear H
    have H := H1
    clear H1
    have H' := Aside0.mk H
    clear H
    go_enter Try.func4, Try.ntmps4
    go_wp2_with (first | ((with_reducible refine gate_callee (f := 12) rfl ?_); refine goesL_ (some 5) rfl rfl Try.func12 (by kernel_rfl) rfl #[.string (⟨#[98, 97, 110, 97, 110, 97]⟩ : ByteArray), .string (⟨#[97, 110]⟩ : ByteArray), .string (⟨#[60, 62]⟩ : ByteArray), .int .i64 (-1)] rfl (by (try simp only [List.map_toArray, List.map_cons, List.map_nil]); first | done | rfl | (simp only [List.length_drop, List.length_take]; rfl)) ?_; (with_reducible refine (abacuslaw20_replaces.calls k (⟨#[98, 97, 110, 97, 110, 97]⟩ : ByteArray) (⟨#[97, 110]⟩ : ByteArray) (⟨#[60, 62]⟩ : ByteArray) (-1) true _ ?side1 A2.out).mono ?_); (case side1 => exact GW.below HG.out (by repeat (first | (with_reducible first | exact HB.out | apply below_alloc | apply pw_below_drewN | apply below_drew1) | exact HB.out))); rintro e w4 ⟨rfl, hb⟩; refine ⟨_, rfl, ?_⟩; have n0_ := Aside0.mk (below_step (by repeat (first | (with_reducible first | exact HB.out | apply below_alloc | apply pw_below_drewN | apply below_drew1) | exact HB.out)) hb); clear HB; have HB := n0_; clear n0_; (try clear hb); (try clear hb2); (try clear hk); (try clear hi)))
    go_loopg [3] k (fun kq v3 w' => ∃ (x3_1 : Int), v3 = .int .i64 x3_1 ∧ Aside0 (abacuslaw20_CharsReplaces.l0 kq l0 x3_1 = some true) ∧ Aside0 (kq ≤ k) ∧ Aside0 (Below w.heap.size w w'))
    case atStart => exact ⟨(0), (by first | rfl | (simp; done) | (simp [*]; done)), H', ⟨Nat.le_refl _⟩, ⟨by repeat (first | (with_reducible first | exact HB.out | apply below_alloc | apply pw_below_drewN | apply below_drew1) | exact HB.out)⟩⟩
    case round =>
      clear H'
      try clear c1
      try clear p2
      try clear c3
      try clear c4
      obtain ⟨x3_1, rfl, HA, HK1, HB⟩ := hrel
      cases gk with
      | zero => exact absurd HA.out (by simp [abacuslaw20_CharsReplaces.l0])
      | succ k1 =>
        have H := HA.out
        clear HA
        simp only [abacuslaw20_CharsReplaces.l0] at H
        by_cases c5 : x3_1 < (l0.length : Int)
        · rw [if_pos c5] at H
          have c5b0 : decide (x3_1 < (l0.length : Int)) = true := decide_eq_true c5
          clear c5
          by_cases c6 : 0 ≤ x3_1
          · rw [if_pos c6] at H
            have c6b0 : decide (0 ≤ x3_1) = true := decide_eq_true c6
            clear c6
            by_cases c7 : (((rd_T28 l0 x3_1).f0).size : Int) > 16777216
            · rw [if_pos c7] at H
              have c7b0 : decide (16777216 < (((rd_T28 l0 x3_1).f0).size : Int)) = true := decide_eq_true c7
              have c7b1 : decide (16777216 < ((rd_T28 l0 x3_1).f0).size) = true := decide_eq_true (by omega)
              clear c7
              have H' := Aside0.mk H
              clear H
              have p157 : 0 ≤ (x3_1 : Int) := of_decide_eq_true (by first | (with_reducible assumption) | assumption)
              have q157 : x3_1 < (l0.length : Int) := of_decide_eq_true (by first | (with_reducible assumption) | assumption)
              obtain ⟨ad157, A157_5, c157_5, e157, hx157_0, hx157_1, hx157_2, hx157_3, hx157_4, hx157_5, hx157_6, hl157_5, hi157_5⟩ := at_T28 HR0.out x3_1 p157 q157
              cases e157
              replace hx157_0 := (HB.out.cell (World.block_lt_of_cell? w _ hx157_0)).trans hx157_0
              replace hx157_1 := (HB.out.cell (World.block_lt_of_cell? w _ hx157_1)).trans hx157_1
              replace hx157_2 := (HB.out.cell (World.block_lt_of_cell? w _ hx157_2)).trans hx157_2
              replace hx157_3 := (HB.out.cell (World.block_lt_of_cell? w _ hx157_3)).trans hx157_3
              replace hx157_4 := (HB.out.cell (World.block_lt_of_cell? w _ hx157_4)).trans hx157_4
              replace hx157_5 := (HB.out.cell (World.block_lt_of_cell? w _ hx157_5)).trans hx157_5
              replace hx157_6 := (HB.out.cell (World.block_lt_of_cell? w _ hx157_6)).trans hx157_6
              have HR157_5 := Aside0.mk hi157_5
              have HC157_5 := Aside0.mk hl157_5
              clear hi157_5 hl157_5
              replace p157 := eq_true p157
              replace q157 := eq_true q157
              go_wp2_with (first | ((with_reducible refine gate_dst (N := 4) rfl ?_); refine box_event ?hg (N := 4) ?hd (cs := #[.string (⟨#[]⟩ : ByteArray), .string (⟨#[]⟩ : ByteArray), .string (⟨#[]⟩ : ByteArray), .int .u64 0, .int .u64 0, .slice none 0 0, .int .i64 0]) (t := 28) ?hr ?_; (case hd => rfl); (case hg => rfl); (case hr => first | (go_simp; done) | (go_simp; rfl)); intro gb158 hg w8 hbox hb; have n0_ := Aside0.mk (below_step (by repeat (first | (with_reducible first | exact HB.out | apply below_alloc | apply pw_below_drewN | apply below_drew1) | exact HB.out)) hb); have n1_ := Aside0.mk (hbox); have n2_ := Aside0.mk ((by rw [hg]; exact (below_size (by repeat (first | (with_reducible first | exact HB.out | apply below_alloc | apply pw_below_drewN | apply below_drew1) | exact HB.out))) : w.heap.size ≤ gb158)); have n3_ := Aside0.mk ((by rw [hg]; exact (below_size (by repeat (first | (with_reducible first | exact HB.out | apply below_alloc | apply pw_below_drewN | apply below_drew1) | exact HB.out))) : w.heap.size ≤ gb158)); clear HB; have HB := n0_; have BK158 := n1_; have GW158 := n2_; have GE158 := n3_; clear n0_ n1_ n2_ n3_; clear hb hbox hg; have hcz9_0 : w8.cell? ⟨gb158, 0, none⟩ = some (.string (⟨#[]⟩ : ByteArray)) := (blk_cell BK158.out 0).trans rfl; have hcz9_1 : w8.cell? ⟨gb158, 1, none⟩ = some (.string (⟨#[]⟩ : ByteArray)) := (blk_cell BK158.out 1).trans rfl; have hcz9_2 : w8.cell? ⟨gb158, 2, none⟩ = some (.string (⟨#[]⟩ : ByteArray)) := (blk_cell BK158.out 2).trans rfl; have hcz9_3 : w8.cell? ⟨gb158, 3, none⟩ = some (.int .u64 0) := (blk_cell BK158.out 3).trans rfl; have hcz9_4 : w8.cell? ⟨gb158, 4, none⟩ = some (.int .u64 0) := (blk_cell BK158.out 4).trans rfl; have hcz9_5 : w8.cell? ⟨gb158, 5, none⟩ = some (.slice none 0 0) := (blk_cell BK158.out 5).trans rfl; have hcz9_6 : w8.cell? ⟨gb158, 6, none⟩ = some (.int .i64 0) := (blk_cell BK158.out 6).trans rfl; have hfz9_0 := blk_frozen BK158.out 0; have hfz9_1 := blk_frozen BK158.out 1; have hfz9_2 := blk_frozen BK158.out 2; have hfz9_3 := blk_frozen BK158.out 3; have hfz9_4 := blk_frozen BK158.out 4; have hfz9_5 := blk_frozen BK158.out 5; have hfz9_6 := blk_frozen BK158.out 6))
              go_roundg k1
              case measure => have := HK1.out; omega
              case rel => exact ⟨(wrap64 (x3_1 + 1)), (by first | rfl | (simp; done) | (simp [*]; done)), H', ⟨by have := HK1.out; omega⟩, ⟨by repeat (first | (with_reducible first | exact HB.out | apply below_alloc | apply pw_below_drewN | apply below_drew1 | refine below_set ?_ GE158.out) | exact HB.out)⟩⟩
            · rw [if_neg c7] at H
              have c7b0 : decide (16777216 < (((rd_T28 l0 x3_1).f0).size : Int)) = false := decide_eq_false c7
              have c7b1 : decide (16777216 < ((rd_T28 l0 x3_1).f0).size) = false := decide_eq_false (by omega)
              clear c7
              replace H := Option.bind_eq_some_iff.mp H
              obtain ⟨t159, A100, H⟩ := H
              replace H : (if t159 = true then ((abacuslaw20_replaces.f k1 ((rd_T28 l0 x3_1).f0) ((rd_T28 l0 x3_1).f1) ((rd_T28 l0 x3_1).f2) (-1)).bind fun t160 => (if t160 = true then ((abacuslaw20_replaces.f k1 ((rd_T28 l0 x3_1).f0) (⟨#[]⟩ : ByteArray) ((rd_T28 l0 x3_1).f2) ((rd_T28 l0 x3_1).f6)).bind fun t161 => (if t161 = true then (abacuslaw20_CharsReplaces.l0 k1 l0 (wrap64 (x3_1 + 1))) else (some false))) else (some false))) else (some false)) = some true := H
              have A10 := Aside0.mk A100
              clear A100
              by_cases c11 : t159 = true
              · subst c11
                have H1 : ((abacuslaw20_replaces.f k1 ((rd_T28 l0 x3_1).f0) ((rd_T28 l0 x3_1).f1) ((rd_T28 l0 x3_1).f2) (-1)).bind fun t160 => (if t160 = true then ((abacuslaw20_replaces.f k1 ((rd_T28 l0 x3_1).f0) (⟨#[]⟩ : ByteArray) ((rd_T28 l0 x3_1).f2) ((rd_T28 l0 x3_1).f6)).bind fun t161 => (if t161 = true then (abacuslaw20_CharsReplaces.l0 k1 l0 (wrap64 (x3_1 + 1))) else (some false))) else (some false))) = some true := by rw [if_pos rfl] at H; exact H
                clear H
                have H := H1
                clear H1
                replace H := Option.bind_eq_some_iff.mp H
                obtain ⟨t160, A120, H⟩ := H
                replace H : (if t160 = true then ((abacuslaw20_replaces.f k1 ((rd_T28 l0 x3_1).f0) (⟨#[]⟩ : ByteArray) ((rd_T28 l0 x3_1).f2) ((rd_T28 l0 x3_1).f6)).bind fun t161 => (if t161 = true then (abacuslaw20_CharsReplaces.l0 k1 l0 (wrap64 (x3_1 + 1))) else (some false))) else (some false)) = some true := H
                have A12 := Aside0.mk A120
                clear A120
                by_cases c13 : t160 = true
                · subst c13
                  have H1 : ((abacuslaw20_replaces.f k1 ((rd_T28 l0 x3_1).f0) (⟨#[]⟩ : ByteArray) ((rd_T28 l0 x3_1).f2) ((rd_T28 l0 x3_1).f6)).bind fun t161 => (if t161 = true then (abacuslaw20_CharsReplaces.l0 k1 l0 (wrap64 (x3_1 + 1))) else (some false))) = some true := by rw [if_pos rfl] at H; exact H
                  clear H
                  have H := H1
                  clear H1
                  replace H := Option.bind_eq_some_iff.mp H
                  obtain ⟨t161, A140, H⟩ := H
                  replace H : (if t161 = true then (abacuslaw20_CharsReplaces.l0 k1 l0 (wrap64 (x3_1 + 1))) else (some false)) = some true := H
                  have A14 := Aside0.mk A140
                  clear A140
                  by_cases c15 : t161 = true
                  · subst c15
                    have H1 : (abacuslaw20_CharsReplaces.l0 k1 l0 (wrap64 (x3_1 + 1))) = some true := by rw [if_pos rfl] at H; exact H
                    clear H
                    have H := H1
                    clear H1
                    have H' := Aside0.mk H
                    clear H
                    have p157 : 0 ≤ (x3_1 : Int) := of_decide_eq_true (by first | (with_reducible assumption) | assumption)
                    have q157 : x3_1 < (l0.length : Int) := of_decide_eq_true (by first | (with_reducible assumption) | assumption)
                    obtain ⟨ad157, A157_5, c157_5, e157, hx157_0, hx157_1, hx157_2, hx157_3, hx157_4, hx157_5, hx157_6, hl157_5, hi157_5⟩ := at_T28 HR0.out x3_1 p157 q157
                    cases e157
                    replace hx157_0 := (HB.out.cell (World.block_lt_of_cell? w _ hx157_0)).trans hx157_0
                    replace hx157_1 := (HB.out.cell (World.block_lt_of_cell? w _ hx157_1)).trans hx157_1
                    replace hx157_2 := (HB.out.cell (World.block_lt_of_cell? w _ hx157_2)).trans hx157_2
                    replace hx157_3 := (HB.out.cell (World.block_lt_of_cell? w _ hx157_3)).trans hx157_3
                    replace hx157_4 := (HB.out.cell (World.block_lt_of_cell? w _ hx157_4)).trans hx157_4
                    replace hx157_5 := (HB.out.cell (World.block_lt_of_cell? w _ hx157_5)).trans hx157_5
                    replace hx157_6 := (HB.out.cell (World.block_lt_of_cell? w _ hx157_6)).trans hx157_6
                    have HR157_5 := Aside0.mk hi157_5
                    have HC157_5 := Aside0.mk hl157_5
                    clear hi157_5 hl157_5
                    replace p157 := eq_true p157
                    replace q157 := eq_true q157
                    go_wp2_with (first | ((with_reducible refine gate_dst (N := 4) rfl ?_); refine box_event ?hg (N := 4) ?hd (cs := #[.string (⟨#[]⟩ : ByteArray), .string (⟨#[]⟩ : ByteArray), .string (⟨#[]⟩ : ByteArray), .int .u64 0, .int .u64 0, .slice none 0 0, .int .i64 0]) (t := 28) ?hr ?_; (case hd => rfl); (case hg => rfl); (case hr => first | (go_simp; done) | (go_simp; rfl)); intro gb158 hg w16 hbox hb; have n0_ := Aside0.mk (below_step (by repeat (first | (with_reducible first | exact HB.out | apply below_alloc | apply pw_below_drewN | apply below_drew1) | exact HB.out)) hb); have n1_ := Aside0.mk (hbox); have n2_ := Aside0.mk ((by rw [hg]; exact (below_size (by repeat (first | (with_reducible first | exact HB.out | apply below_alloc | apply pw_below_drewN | apply below_drew1) | exact HB.out))) : w.heap.size ≤ gb158)); have n3_ := Aside0.mk ((by rw [hg]; exact (below_size (by repeat (first | (with_reducible first | exact HB.out | apply below_alloc | apply pw_below_drewN | apply below_drew1) | exact HB.out))) : w.heap.size ≤ gb158)); clear HB; have HB := n0_; have BK158 := n1_; have GW158 := n2_; have GE158 := n3_; clear n0_ n1_ n2_ n3_; clear hb hbox hg; have hcz17_0 : w16.cell? ⟨gb158, 0, none⟩ = some (.string (⟨#[]⟩ : ByteArray)) := (blk_cell BK158.out 0).trans rfl; have hcz17_1 : w16.cell? ⟨gb158, 1, none⟩ = some (.string (⟨#[]⟩ : ByteArray)) := (blk_cell BK158.out 1).trans rfl; have hcz17_2 : w16.cell? ⟨gb158, 2, none⟩ = some (.string (⟨#[]⟩ : ByteArray)) := (blk_cell BK158.out 2).trans rfl; have hcz17_3 : w16.cell? ⟨gb158, 3, none⟩ = some (.int .u64 0) := (blk_cell BK158.out 3).trans rfl; have hcz17_4 : w16.cell? ⟨gb158, 4, none⟩ = some (.int .u64 0) := (blk_cell BK158.out 4).trans rfl; have hcz17_5 : w16.cell? ⟨gb158, 5, none⟩ = some (.slice none 0 0) := (blk_cell BK158.out 5).trans rfl; have hcz17_6 : w16.cell? ⟨gb158, 6, none⟩ = some (.int .i64 0) := (blk_cell BK158.out 6).trans rfl; have hfz17_0 := blk_frozen BK158.out 0; have hfz17_1 := blk_frozen BK158.out 1; have hfz17_2 := blk_frozen BK158.out 2; have hfz17_3 := blk_frozen BK158.out 3; have hfz17_4 := blk_frozen BK158.out 4; have hfz17_5 := blk_frozen BK158.out 5; have hfz17_6 := blk_frozen BK158.out 6) | ((with_reducible refine gate_callee (f := 12) rfl ?_); refine goesL_ (some 29) rfl rfl Try.func12 (by kernel_rfl) rfl #[.string ((rd_T28 l0 x3_1).f0), .string ((rd_T28 l0 x3_1).f1), .string ((rd_T28 l0 x3_1).f2), .int .i64 ((rd_T28 l0 x3_1).f6)] rfl (by (try simp only [List.map_toArray, List.map_cons, List.map_nil]); first | done | rfl | (simp only [List.length_drop, List.length_take]; rfl)) ?_; (with_reducible refine (abacuslaw20_replaces.calls k1 ((rd_T28 l0 x3_1).f0) ((rd_T28 l0 x3_1).f1) ((rd_T28 l0 x3_1).f2) ((rd_T28 l0 x3_1).f6) true _ ?side1 A10.out).mono ?_); (case side1 => exact GW.below HG.out (by repeat (first | (with_reducible first | exact HB.out | apply below_alloc | apply pw_below_drewN | apply below_drew1 | refine below_set ?_ GE158.out) | exact HB.out))); rintro e w18 ⟨rfl, hb⟩; refine ⟨_, rfl, ?_⟩; have n0_ := Aside0.mk (blk_below (g := gb158) (o := .cells #[.string ((rd_T28 l0 x3_1).f0), .string ((rd_T28 l0 x3_1).f1), .string ((rd_T28 l0 x3_1).f2), .int .u64 ((rd_T28 l0 x3_1).f3), .int .u64 ((rd_T28 l0 x3_1).f4), .slice A157_5 ((rd_T28 l0 x3_1).f5).length c157_5, .int .i64 ((rd_T28 l0 x3_1).f6)] 28 (0, 0)) (by (with_reducible repeat (first | refine blk_drewN ?_ _ | refine blk_drew ?_ | refine blk_alloc ?_ _)); refine blk_put (cs := #[.string ((rd_T28 l0 x3_1).f0), .string ((rd_T28 l0 x3_1).f1), .string ((rd_T28 l0 x3_1).f2), .int .u64 ((rd_T28 l0 x3_1).f3), .int .u64 ((rd_T28 l0 x3_1).f4), .slice A157_5 ((rd_T28 l0 x3_1).f5).length c157_5, .int .i64 0]) ?_ 6 _ rfl; (with_reducible repeat (first | refine blk_drewN ?_ _ | refine blk_drew ?_ | refine blk_alloc ?_ _)); refine blk_put (cs := #[.string ((rd_T28 l0 x3_1).f0), .string ((rd_T28 l0 x3_1).f1), .string ((rd_T28 l0 x3_1).f2), .int .u64 ((rd_T28 l0 x3_1).f3), .int .u64 ((rd_T28 l0 x3_1).f4), .slice none 0 0, .int .i64 0]) ?_ 5 _ rfl; (with_reducible repeat (first | refine blk_drewN ?_ _ | refine blk_drew ?_ | refine blk_alloc ?_ _)); refine blk_put (cs := #[.string ((rd_T28 l0 x3_1).f0), .string ((rd_T28 l0 x3_1).f1), .string ((rd_T28 l0 x3_1).f2), .int .u64 ((rd_T28 l0 x3_1).f3), .int .u64 0, .slice none 0 0, .int .i64 0]) ?_ 4 _ rfl; (with_reducible repeat (first | refine blk_drewN ?_ _ | refine blk_drew ?_ | refine blk_alloc ?_ _)); refine blk_put (cs := #[.string ((rd_T28 l0 x3_1).f0), .string ((rd_T28 l0 x3_1).f1), .string ((rd_T28 l0 x3_1).f2), .int .u64 0, .int .u64 0, .slice none 0 0, .int .i64 0]) ?_ 3 _ rfl; (with_reducible repeat (first | refine blk_drewN ?_ _ | refine blk_drew ?_ | refine blk_alloc ?_ _)); refine blk_put (cs := #[.string ((rd_T28 l0 x3_1).f0), .string ((rd_T28 l0 x3_1).f1), .string (⟨#[]⟩ : ByteArray), .int .u64 0, .int .u64 0, .slice none 0 0, .int .i64 0]) ?_ 2 _ rfl; (with_reducible repeat (first | refine blk_drewN ?_ _ | refine blk_drew ?_ | refine blk_alloc ?_ _)); refine blk_put (cs := #[.string ((rd_T28 l0 x3_1).f0), .string (⟨#[]⟩ : ByteArray), .string (⟨#[]⟩ : ByteArray), .int .u64 0, .int .u64 0, .slice none 0 0, .int .i64 0]) ?_ 1 _ rfl; (with_reducible repeat (first | refine blk_drewN ?_ _ | refine blk_drew ?_ | refine blk_alloc ?_ _)); refine blk_put (cs := #[.string (⟨#[]⟩ : ByteArray), .string (⟨#[]⟩ : ByteArray), .string (⟨#[]⟩ : ByteArray), .int .u64 0, .int .u64 0, .slice none 0 0, .int .i64 0]) ?_ 0 _ rfl; (with_reducible repeat (first | refine blk_drewN ?_ _ | refine blk_drew ?_ | refine blk_alloc ?_ _)); exact BK158.out) hb); have n1_ := Aside0.mk (below_step (by repeat (first | (with_reducible first | exact HB.out | apply below_alloc | apply pw_below_drewN | apply below_drew1 | refine below_set ?_ GE158.out) | exact HB.out)) hb); clear BK158; clear HB; have BK158 := n0_; have HB := n1_; clear n0_ n1_; (try clear hb); (try clear hb2); (try clear hk); (try clear hi); have hcz19_0 : w18.cell? ⟨gb158, 0, none⟩ = some (.string ((rd_T28 l0 x3_1).f0)) := (blk_cell BK158.out 0).trans rfl; have hcz19_1 : w18.cell? ⟨gb158, 1, none⟩ = some (.string ((rd_T28 l0 x3_1).f1)) := (blk_cell BK158.out 1).trans rfl; have hcz19_2 : w18.cell? ⟨gb158, 2, none⟩ = some (.string ((rd_T28 l0 x3_1).f2)) := (blk_cell BK158.out 2).trans rfl; have hcz19_3 : w18.cell? ⟨gb158, 3, none⟩ = some (.int .u64 ((rd_T28 l0 x3_1).f3)) := (blk_cell BK158.out 3).trans rfl; have hcz19_4 : w18.cell? ⟨gb158, 4, none⟩ = some (.int .u64 ((rd_T28 l0 x3_1).f4)) := (blk_cell BK158.out 4).trans rfl; have hcz19_5 : w18.cell? ⟨gb158, 5, none⟩ = some (.slice A157_5 ((rd_T28 l0 x3_1).f5).length c157_5) := (blk_cell BK158.out 5).trans rfl; have hcz19_6 : w18.cell? ⟨gb158, 6, none⟩ = some (.int .i64 ((rd_T28 l0 x3_1).f6)) := (blk_cell BK158.out 6).trans rfl; have hfz19_0 := blk_frozen BK158.out 0; have hfz19_1 := blk_frozen BK158.out 1; have hfz19_2 := blk_frozen BK158.out 2; have hfz19_3 := blk_frozen BK158.out 3; have hfz19_4 := blk_frozen BK158.out 4; have hfz19_5 := blk_frozen BK158.out 5; have hfz19_6 := blk_frozen BK158.out 6) | (go_at_call 12; (with_reducible refine (abacuslaw20_replaces.calls k1 ((rd_T28 l0 x3_1).f0) ((rd_T28 l0 x3_1).f1) ((rd_T28 l0 x3_1).f2) (-1) true _ ?side1 A12.out).mono ?_); (case side1 => exact GW.below HG.out (by repeat (first | (with_reducible first | exact HB.out | apply below_alloc | apply pw_below_drewN | apply below_drew1 | refine below_set ?_ GE158.out) | exact HB.out))); rintro e w20 ⟨rfl, hb⟩; have n0_ := Aside0.mk (blk_below (g := gb158) (o := .cells #[.string ((rd_T28 l0 x3_1).f0), .string ((rd_T28 l0 x3_1).f1), .string ((rd_T28 l0 x3_1).f2), .int .u64 ((rd_T28 l0 x3_1).f3), .int .u64 ((rd_T28 l0 x3_1).f4), .slice A157_5 ((rd_T28 l0 x3_1).f5).length c157_5, .int .i64 ((rd_T28 l0 x3_1).f6)] 28 (0, 0)) (by (with_reducible repeat (first | refine blk_drewN ?_ _ | refine blk_drew ?_ | refine blk_alloc ?_ _)); exact BK158.out) hb); have n1_ := Aside0.mk (below_step (by repeat (first | (with_reducible first | exact HB.out | apply below_alloc | apply pw_below_drewN | apply below_drew1 | refine below_set ?_ GE158.out) | exact HB.out)) hb); clear BK158; clear HB; have BK158 := n0_; have HB := n1_; clear n0_ n1_; (try clear hb); (try clear hb2); (try clear hk); (try clear hi); have hcz21_0 : w20.cell? ⟨gb158, 0, none⟩ = some (.string ((rd_T28 l0 x3_1).f0)) := (blk_cell BK158.out 0).trans rfl; have hcz21_1 : w20.cell? ⟨gb158, 1, none⟩ = some (.string ((rd_T28 l0 x3_1).f1)) := (blk_cell BK158.out 1).trans rfl; have hcz21_2 : w20.cell? ⟨gb158, 2, none⟩ = some (.string ((rd_T28 l0 x3_1).f2)) := (blk_cell BK158.out 2).trans rfl; have hcz21_3 : w20.cell? ⟨gb158, 3, none⟩ = some (.int .u64 ((rd_T28 l0 x3_1).f3)) := (blk_cell BK158.out 3).trans rfl; have hcz21_4 : w20.cell? ⟨gb158, 4, none⟩ = some (.int .u64 ((rd_T28 l0 x3_1).f4)) := (blk_cell BK158.out 4).trans rfl; have hcz21_5 : w20.cell? ⟨gb158, 5, none⟩ = some (.slice A157_5 ((rd_T28 l0 x3_1).f5).length c157_5) := (blk_cell BK158.out 5).trans rfl; have hcz21_6 : w20.cell? ⟨gb158, 6, none⟩ = some (.int .i64 ((rd_T28 l0 x3_1).f6)) := (blk_cell BK158.out 6).trans rfl; have hfz21_0 := blk_frozen BK158.out 0; have hfz21_1 := blk_frozen BK158.out 1; have hfz21_2 := blk_frozen BK158.out 2; have hfz21_3 := blk_frozen BK158.out 3; have hfz21_4 := blk_frozen BK158.out 4; have hfz21_5 := blk_frozen BK158.out 5; have hfz21_6 := blk_frozen BK158.out 6) | (go_at_call 12; (with_reducible refine (abacuslaw20_replaces.calls k1 ((rd_T28 l0 x3_1).f0) (⟨#[]⟩ : ByteArray) ((rd_T28 l0 x3_1).f2) ((rd_T28 l0 x3_1).f6) true _ ?side1 A14.out).mono ?_); (case side1 => exact GW.below HG.out (by repeat (first | (with_reducible first | exact HB.out | apply below_alloc | apply pw_below_drewN | apply below_drew1 | refine below_set ?_ GE158.out) | exact HB.out))); rintro e w22 ⟨rfl, hb⟩; have n0_ := Aside0.mk (blk_below (g := gb158) (o := .cells #[.string ((rd_T28 l0 x3_1).f0), .string ((rd_T28 l0 x3_1).f1), .string ((rd_T28 l0 x3_1).f2), .int .u64 ((rd_T28 l0 x3_1).f3), .int .u64 ((rd_T28 l0 x3_1).f4), .slice A157_5 ((rd_T28 l0 x3_1).f5).length c157_5, .int .i64 ((rd_T28 l0 x3_1).f6)] 28 (0, 0)) (by (with_reducible repeat (first | refine blk_drewN ?_ _ | refine blk_drew ?_ | refine blk_alloc ?_ _)); exact BK158.out) hb); have n1_ := Aside0.mk (below_step (by repeat (first | (with_reducible first | exact HB.out | apply below_alloc | apply pw_below_drewN | apply below_drew1 | refine below_set ?_ GE158.out) | exact HB.out)) hb); clear BK158; clear HB; have BK158 := n0_; have HB := n1_; clear n0_ n1_; (try clear hb); (try clear hb2); (try clear hk); (try clear hi)))
                    go_roundg k1
                    case measure => have := HK1.out; omega
                    case rel => exact ⟨(wrap64 (x3_1 + 1)), (by first | rfl | (simp; done) | (simp [*]; done)), H', ⟨by have := HK1.out; omega⟩, ⟨by repeat (first | (with_reducible first | exact HB.out | apply below_alloc | apply pw_below_drewN | apply below_drew1 | refine below_set ?_ GE158.out) | exact HB.out)⟩⟩
                  · replace c15 := Bool.eq_false_iff.mpr c15
                    subst c15
                    have H1 : (some false) = some true := by rw [if_neg (show ¬ (false = true) by decide)] at H; exact H
                    clear H
                    have H := H1
                    clear H1
                    exact absurd H (by simp)
                · replace c13 := Bool.eq_false_iff.mpr c13
                  subst c13
                  have H1 : (some false) = some true := by rw [if_neg (show ¬ (false = true) by decide)] at H; exact H
                  clear H
                  have H := H1
                  clear H1
                  exact absurd H (by simp)
              · replace c11 := Bool.eq_false_iff.mpr c11
                subst c11
                have H1 : (some false) = some true := by rw [if_neg (show ¬ (false = true) by decide)] at H; exact H
                clear H
                have H := H1
                clear H1
                exact absurd H (by simp)
          · rw [if_neg c6] at H
            exact absurd H (by simp)
        · rw [if_neg c5] at H
          have c5b0 : decide (x3_1 < (l0.length : Int)) = false := decide_eq_false c5
          clear c5
          clear H
          go_wp2
          go_ret
          exact ⟨by first | rfl | (simp [errW_none, errW_some] <;> rfl) | (simp [*, errW_none, errW_some] <;> rfl), by repeat (first | (with_reducible first | exact HB.out | apply below_alloc | apply pw_below_drewN | apply below_drew1) | exact HB.out)⟩
  · replace c3 := Bool.eq_false_iff.mpr c3
    subst c3
    have H1 : (some false) = some true := by rw [if_neg (show ¬ (false = true) by decide)] at H; exact H
    clear H
    have H := H1
    clear H1
    exact absurd H (by simp)

end Go.Proofs.Ytdeannaaafffbaa.ECh
