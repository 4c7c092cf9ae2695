/-
  A text of this session's own.
-/
import Derived.Test.YtdeannaaafffbaaDoorKeECmx9h
set_option linter.unusedSimpArgs false
namespace Go.Proofs.YtdeannaaafffbaaDoor.ECd
open Go.RowKit Go.Proofs.YtdeannaaafffbaaDoorW.PrintWords Go.Proofs.YtdeannaaafffbaaDoorW.PrintLast Go.Proofs.YtdeannaaafffbaaDoorW.PrintMore
attribute [local go_sem] max2_int min2_int max_two min_two max_three min_three max_four min_four   -- for this text's walks alone
open Go.Proofs.YtdeannaaafffbaaDoor.X
set_option linter.unusedVariables false
set_option linter.unusedSimpArgs false
set_option maxHeartbeats 80000000 in
set_option maxRecDepth 100000 in
theorem abacuslaw20_CharsKeeps.calls (k : Nat) (A0 : Option Addr) (c0 : Nat) (l0 : List (S29)) (w : World) (hr0 : Kd.C k29 w A0 l0.length l0) (hc0 : l0.length ≤ c0) (hG : GW w) (h : abacuslaw20_CharsKeeps.f k l0 = some true) :
  Calls Tryd.prog 4 #[.slice A0 l0.length c0] w fun e w' => e = .returned (.bool true) ∧ Below w.heap.size w w' := by
 have hu29 := Tryd.underlying29
 have HR0 := Aside0.mk hr0
 have HC0 := Aside0.mk hc0
 clear hr0 hc0
 have HB := Aside0.mk (Below.refl w.heap.size w)
 have HG := Aside0.mk hG
 clear hG
 have H : ((chars_Split.f k (⟨#[97, 44, 98]⟩ : ByteArray) (⟨#[44]⟩ : ByteArray)).bind fun t156 => ((abacuslaw20_alike.f k t156 (([(⟨#[97]⟩ : ByteArray), (⟨#[98]⟩ : ByteArray)] : List ByteArray))).bind fun t162 => (if t162 = true then (abacuslaw20_CharsKeeps.l0 k l0 ([] : List (List ByteArray)) 0 0) else (some false)))) = some true := h
 clear h
 replace H := Option.bind_eq_some_iff.mp H
 obtain ⟨t156, A20, H⟩ := H
 replace H : ((abacuslaw20_alike.f k t156 (([(⟨#[97]⟩ : ByteArray), (⟨#[98]⟩ : ByteArray)] : List ByteArray))).bind fun t162 => (if t162 = true then (abacuslaw20_CharsKeeps.l0 k l0 ([] : List (List ByteArray)) 0 0) else (some false))) = some true := H
 have A2 := Aside0.mk A20
 clear A20
 obtain ⟨y159, hy159⟩ : ∃ y_ : List ByteArray, y_ = (([(⟨#[97]⟩ : ByteArray), (⟨#[98]⟩ : ByteArray)] : List ByteArray)) := ⟨_, rfl⟩
 replace H : ((abacuslaw20_alike.f k t156 y159).bind fun t162 => (if t162 = true then (abacuslaw20_CharsKeeps.l0 k l0 ([] : List (List ByteArray)) 0 0) else (some false))) = some true := by first | (rw [hy159]; with_reducible exact H) | (have H2_ := (Option.bind_some _ _).symm.trans H; rw [hy159]; with_reducible exact H2_) | (have H2_ := (Option.bind_some _ _).symm.trans H; with_reducible exact H2_) | with_reducible exact H | (rw [hy159]; exact H) | exact H
 have Ny159 := Aside0.mk hy159
 clear hy159
 replace H := Option.bind_eq_some_iff.mp H
 obtain ⟨t162, A30, H⟩ := H
 replace H : (if t162 = true then (abacuslaw20_CharsKeeps.l0 k l0 ([] : List (List ByteArray)) 0 0) else (some false)) = some true := H
 have A3 := Aside0.mk A30
 clear A30
 by_cases c4 : t162 = true
 ·subst c4
  have H1 : (abacuslaw20_CharsKeeps.l0 k l0 ([] : List (List ByteArray)) 0 0) = some true := by rw [if_pos rfl] at H; exact H
  clear H
  have H := H1
  clear H1
  have HC5 := Aside0.mk H
  clear H
  go_enter Tryd.func4, Tryd.ntmps4
  go_upto_block 0 with (first | ((with_reducible refine gate_callee (f := 10) rfl ?_); refine goesL_ (some 17) rfl rfl Tryd.func10 (by kernel_rfl) rfl #[.string (⟨#[97, 44, 98]⟩ : ByteArray), .string (⟨#[44]⟩ : ByteArray)] rfl (by (try simp only [List.map_toArray, List.map_cons, List.map_nil]); first | done | rfl | (simp only [List.length_drop, List.length_take]; rfl)) ?_; (with_reducible refine (chars_Split.calls k (⟨#[97, 44, 98]⟩ : ByteArray) (⟨#[44]⟩ : ByteArray) t156 _ ?side1 A2.out).mono ?_); (case side1 => exact GW.below HG.out (by repeat (first | (with_reducible first | exact HB.out | apply below_alloc | apply pw_below_drewN | apply below_drew1) | exact HB.out))); rintro e w6 ⟨v157, rfl, ho0, hb⟩; refine ⟨_, rfl, ?_⟩; have n0_ := Aside0.mk (Kd.R_lower ho0 (below_size (by repeat (first | (with_reducible first | exact HB.out | apply below_alloc | apply pw_below_drewN | apply below_drew1) | exact HB.out)))); have n1_ := Aside0.mk (below_step (by repeat (first | (with_reducible first | exact HB.out | apply below_alloc | apply pw_below_drewN | apply below_drew1) | exact HB.out)) hb); clear HB; have HO158 := n0_; have HB := n1_; clear n0_ n1_; (try clear hb); (try clear hb2); (try clear hk); (try clear hi); (try clear ho0)) | ((with_reducible refine gate_dst (N := 18) rfl ?_); (try (refine gate_guard (by rfl) ?_; dsimp only)); refine Kd.R_lit Kd.string _ 9 ?hg (N := 18) ?hd (xs := ([(⟨#[97]⟩ : ByteArray), (⟨#[98]⟩ : ByteArray)] : List ByteArray)) (inner := [.string (⟨#[97]⟩ : ByteArray), .string (⟨#[98]⟩ : ByteArray)]) (ok := fun _ => True) (okp := fun _ => True) ?hr ?hp (fun _ hk => hk) trivial (Below.refl _ _) (Nat.le_refl _) (by simp) ?_; (case hd => rfl); (case hg => rfl); (case hr => first | (go_simp; done) | (go_simp; rfl)); (case hp => exact (Reps.one (show Kd.M Kd.string _ _ _ (⟨#[97]⟩ : ByteArray) [.string (⟨#[97]⟩ : ByteArray)] from rfl) (Reps.one (show Kd.M Kd.string _ _ _ (⟨#[98]⟩ : ByteArray) [.string (⟨#[98]⟩ : ByteArray)] from rfl) (Reps.none _ _)))); intro v160 w7 ho8 hb hg_ hnew_; clear hg_ hnew_; (first | rw [← Ny159.out] at ho8 | (simp only [Int.reduceToNat] at ho8; rw [← Ny159.out] at ho8)); have n0_ := Aside0.mk (Kd.R_elder' (by (with_reducible repeat (first | apply Kd.R_alloc | apply Kd.R_drewN | apply Kd.R_drew)); exact HO158.out) (Kd.R_base ho8) hb); have n1_ := Aside0.mk (Kd.R_lower (Kd.R_new' ho8 (Kd.R_lt (by (with_reducible repeat (first | apply Kd.R_alloc | apply Kd.R_drewN | apply Kd.R_drew)); exact HO158.out))) (below_size (by repeat (first | (with_reducible first | exact HB.out | apply below_alloc | apply pw_below_drewN | apply below_drew1) | exact HB.out)))); have n2_ := Aside0.mk (below_step (by repeat (first | (with_reducible first | exact HB.out | apply below_alloc | apply pw_below_drewN | apply below_drew1) | exact HB.out)) hb); clear HO158; clear HB; have HO158 := n0_; have HO161 := n1_; have HB := n2_; clear n0_ n1_ n2_; clear hb ho8; obtain ⟨Ao9, co9, eo9⟩ := Kd.R_slice HO158.out; subst eo9; obtain ⟨Ao10, co10, eo10⟩ := Kd.R_slice HO161.out; subst eo10) | ((with_reducible refine gate_callee (f := 9) rfl ?_); refine goesL_ (some 19) rfl rfl Tryd.func9 (by kernel_rfl) rfl #[.slice Ao9 t156.length co9, .slice Ao10 y159.length co10] rfl (by (try simp only [List.map_toArray, List.map_cons, List.map_nil]); first | done | rfl | (simp only [List.length_drop, List.length_take]; rfl)) ?_; (with_reducible refine (abacuslaw20_alike.calls k _ _ t156 _ _ y159 true _ ?side1 ?side2 ?side3 ?side4 A3.out).mono ?_); (case side1 => repeat (first | exact (Kd.R_reads' HO158.out).2.2 | (with_reducible refine Kd.C_alloc ?_ _) | (with_reducible refine Kd.C_drewN ?_ _) | (with_reducible refine Kd.C_drew ?_))); (case side2 => exact (Kd.R_reads' HO158.out).2.1); (case side3 => repeat (first | exact (Kd.R_reads' HO161.out).2.2 | (with_reducible refine Kd.C_alloc ?_ _) | (with_reducible refine Kd.C_drewN ?_ _) | (with_reducible refine Kd.C_drew ?_))); (case side4 => exact (Kd.R_reads' HO161.out).2.1); rintro e w' ⟨rfl, ⟨nd, rfl⟩⟩; refine ⟨_, rfl, ?_⟩))
  (try simp only [Act.put, List.setIfInBounds_toArray, List.set_cons_zero, List.set_cons_succ])
  go_cut [3] (fun v3 wc => ∃ (kq : Nat) (x3_4 : List (List ByteArray)), Aside0 (abacuslaw20_CharsKeeps.j6 kq x3_4 = some true) ∧ Aside0 (kq ≤ k) ∧ Aside0 (Kd.S (Kd.slice 9 Kd.string) 24 wc w.heap.size (fun _ => True) v3 x3_4) ∧ Aside0 (Below w.heap.size w wc))
  case first =>
   have H := HC5.out
   clear HC5
   have H' := Aside0.mk H
   clear H
   go_wp2
   go_loopg [3, 4, 5] k (fun kq v3 v4 v5 w' => ∃ (x3_1 : List (List ByteArray)) (x4_1 : Int) (x5_1 : Int), v4 = .int .i64 x4_1 ∧ v5 = .int .i64 x5_1 ∧ Aside0 (abacuslaw20_CharsKeeps.l0 kq l0 x3_1 x4_1 x5_1 = some true) ∧ Aside0 (kq ≤ k) ∧ Aside0 (Kd.S (Kd.slice 9 Kd.string) 24 w' w.heap.size (fun _ => True) v3 x3_1) ∧ Aside0 (Below w.heap.size w w'))
   case atStart => exact ⟨(([] : List (List ByteArray))), (0), (0), (by first | rfl | (simp; done) | (simp [*]; done)), (by first | rfl | (simp; done) | (simp [*]; done)), H', ⟨Nat.le_refl _⟩, ⟨by first | exact Kd.S_nil _ _ _ _ _ | exact Kd.N_nil _ _ _ _ _ | exact Kd.V_nil _ _ _ _ _ | exact Kd.Q_nil _ _ _ _ _ | exact Kd.R_nil _ _ _ _ _⟩, ⟨by repeat (first | (with_reducible first | exact HB.out | apply below_alloc | apply pw_below_drewN | apply below_drew1) | exact HB.out)⟩⟩
   case round =>
    clear H'
    try clear c1
    try clear p2
    try clear c4
    try clear c9
    try clear c10
    obtain ⟨x3_1, x4_1, x5_1, rfl, rfl, HA, HK1, HO_3, HB⟩ := hrel
    cases gk with
    | zero => exact absurd HA.out (by simp [abacuslaw20_CharsKeeps.l0])
    | succ k1 =>
     have H := HA.out
     clear HA
     simp only [abacuslaw20_CharsKeeps.l0] at H
     have HC11 := Aside0.mk H
     clear H
     go_upto_region 6 with (fail)
     go_cut [28] (fun v28 wc => ∃ (kq : Nat) (x28_10 : Bool), v28 = .bool x28_10 ∧ Aside0 (abacuslaw20_CharsKeeps.j1 kq l0 x3_1 x4_1 x5_1 x28_10 = some true) ∧ Aside0 (kq ≤ k1) ∧ Aside0 (Kd.S (Kd.slice 9 Kd.string) 24 wc w.heap.size (fun _ => True) u3 x3_1) ∧ Aside0 (Below w.heap.size w wc))
     case first =>
      have H := HC11.out
      clear HC11
      by_cases c12 : x5_1 < (l0.length : Int)
      ·rw [if_pos c12] at H
       have c12b0 : decide (x5_1 < (l0.length : Int)) = true := decide_eq_true c12
       clear c12
       (first | rw [c12b0] | (simp only [i64_w, i32_w]; rw [c12b0]) | skip)
       have H' := Aside0.mk H
       clear H
       go_wp2
       go_meet
       case rel => exact ⟨_, (decide (x5_1 < 8)), (by first | rfl | (simp; done) | (simp [*]; done)), H', ⟨by have := HK1.out; first | omega | exact Nat.le_refl _⟩, ⟨by (with_reducible repeat (first | apply Kd.S_alloc | apply Kd.S_drewN | apply Kd.S_drew)); exact HO_3.out⟩, ⟨by repeat (first | (with_reducible first | exact HB.out | apply below_alloc | apply pw_below_drewN | apply below_drew1) | exact HB.out)⟩⟩
      ·rw [if_neg c12] at H
       have c12b0 : decide (x5_1 < (l0.length : Int)) = false := decide_eq_false c12
       clear c12
       (first | rw [c12b0] | (simp only [i64_w, i32_w]; rw [c12b0]) | skip)
       have H' := Aside0.mk H
       clear H
       go_wp2
       go_meet
       case rel => exact ⟨_, (false), (by first | rfl | (simp; done) | (simp [*]; done)), H', ⟨by have := HK1.out; first | omega | exact Nat.le_refl _⟩, ⟨by (with_reducible repeat (first | apply Kd.S_alloc | apply Kd.S_drewN | apply Kd.S_drew)); exact HO_3.out⟩, ⟨by repeat (first | (with_reducible first | exact HB.out | apply below_alloc | apply pw_below_drewN | apply below_drew1) | exact HB.out)⟩⟩
     case rest =>
      clear HC11
      try clear c1
      try clear p2
      try clear c4
      try clear c9
      try clear c10
      try clear c12
      try clear c12b0
      try clear p2
      obtain ⟨kq, x28_10, rfl, HA, HJ10, HO_3, HB⟩ := hcut
      cases kq with
      | zero => exact absurd HA.out (by simp [abacuslaw20_CharsKeeps.j1])
      | succ kj10 =>
       have H := HA.out
       clear HA
       simp only [abacuslaw20_CharsKeeps.j1] at H
       by_cases c13 : x28_10 = true
       ·subst c13
        have H1 : (if 0 ≤ x5_1 then (if x5_1 < (l0.length : Int) then (if (wrap64 (x4_1 + (((rd_T29 l0 x5_1).f0).size : Int))) > 262144 then (abacuslaw20_CharsKeeps.j2 kj10 l0 x3_1 (wrap64 (x4_1 + (((rd_T29 l0 x5_1).f0).size : Int))) x5_1 true ((rd_T29 l0 x5_1).f0) ((rd_T29 l0 x5_1).f1) ((rd_T29 l0 x5_1).f2) ((rd_T29 l0 x5_1).f3) ((rd_T29 l0 x5_1).f4) ((rd_T29 l0 x5_1).f5) ((rd_T29 l0 x5_1).f6)) else (abacuslaw20_CharsKeeps.j2 kj10 l0 x3_1 (wrap64 (x4_1 + (((rd_T29 l0 x5_1).f0).size : Int))) x5_1 (decide ((((rd_T29 l0 x5_1).f5).length : Int) > 1048576)) ((rd_T29 l0 x5_1).f0) ((rd_T29 l0 x5_1).f1) ((rd_T29 l0 x5_1).f2) ((rd_T29 l0 x5_1).f3) ((rd_T29 l0 x5_1).f4) ((rd_T29 l0 x5_1).f5) ((rd_T29 l0 x5_1).f6))) else (none)) else (none)) = some true := by rw [if_pos rfl] at H; exact H
        clear H
        have H := H1
        clear H1
        by_cases c14 : 0 ≤ x5_1
        ·rw [if_pos c14] at H
         have c14b0 : decide (0 ≤ x5_1) = true := decide_eq_true c14
         clear c14
         by_cases c15 : x5_1 < (l0.length : Int)
         ·rw [if_pos c15] at H
          have c15b0 : decide (x5_1 < (l0.length : Int)) = true := decide_eq_true c15
          clear c15
          have HC16 := Aside0.mk H
          clear H
          have p163 : 0 ≤ (x5_1 : Int) := of_decide_eq_true (by first | (with_reducible assumption) | assumption)
          have q163 : x5_1 < (l0.length : Int) := of_decide_eq_true (by first | (with_reducible assumption) | assumption)
          obtain ⟨ad163, A163_5, c163_5, e163, hx163_0, hx163_1, hx163_2, hx163_3, hx163_4, hx163_5, hx163_6, hl163_5, hi163_5⟩ := at_T29 HR0.out x5_1 p163 q163
          cases e163
          replace hx163_0 := (HB.out.cell (World.block_lt_of_cell? w _ hx163_0)).trans hx163_0
          replace hx163_1 := (HB.out.cell (World.block_lt_of_cell? w _ hx163_1)).trans hx163_1
          replace hx163_2 := (HB.out.cell (World.block_lt_of_cell? w _ hx163_2)).trans hx163_2
          replace hx163_3 := (HB.out.cell (World.block_lt_of_cell? w _ hx163_3)).trans hx163_3
          replace hx163_4 := (HB.out.cell (World.block_lt_of_cell? w _ hx163_4)).trans hx163_4
          replace hx163_5 := (HB.out.cell (World.block_lt_of_cell? w _ hx163_5)).trans hx163_5
          replace hx163_6 := (HB.out.cell (World.block_lt_of_cell? w _ hx163_6)).trans hx163_6
          have HR163_5 := Aside0.mk hi163_5
          have HC163_5 := Aside0.mk hl163_5
          clear hi163_5 hl163_5
          replace p163 := eq_true p163
          replace q163 := eq_true q163
          go_upto_region 10 with (first | ((with_reducible refine gate_dst (N := 6) rfl ?_); (try (refine gate_guard (by rfl) ?_; dsimp only)); refine box_event ?hg (N := 6) ?hd (cs := #[.string (⟨#[]⟩ : ByteArray), .string (⟨#[]⟩ : ByteArray), .string (⟨#[]⟩ : ByteArray), .int .u64 0, .int .u64 0, .slice none 0 0, .int .i64 0]) (t := 29) ?hr ?_; (case hd => rfl); (case hg => rfl); (case hr => first | (go_simp; done) | (go_simp; rfl)); intro gb164 hg w17 hbox hb; have n0_ := Aside0.mk (Kd.S_below (Kd.S_elderB (by (with_reducible repeat (first | apply Kd.S_alloc | apply Kd.S_drewN | apply Kd.S_drew)); exact HO_3.out) gb164 (Nat.le_of_eq hg.symm)) hb); have n1_ := Aside0.mk (below_step (by repeat (first | (with_reducible first | exact HB.out | apply below_alloc | apply pw_below_drewN | apply below_drew1) | exact HB.out)) hb); have n2_ := Aside0.mk (hbox); have n3_ := Aside0.mk ((by rw [hg]; exact (below_size (by repeat (first | (with_reducible first | exact HB.out | apply below_alloc | apply pw_below_drewN | apply below_drew1) | exact HB.out))) : w.heap.size ≤ gb164)); have n4_ := Aside0.mk ((by rw [hg]; exact (below_size (by repeat (first | (with_reducible first | exact HB.out | apply below_alloc | apply pw_below_drewN | apply below_drew1) | exact HB.out))) : w.heap.size ≤ gb164)); clear HO_3; clear HB; have HO_3 := n0_; have HB := n1_; have BK164 := n2_; have GW164 := n3_; have GE164 := n4_; clear n0_ n1_ n2_ n3_ n4_; clear hb hbox hg; have hcz18_0 : w17.cell? ⟨gb164, 0, none⟩ = some (.string (⟨#[]⟩ : ByteArray)) := (blk_cell BK164.out 0).trans rfl; have hcz18_1 : w17.cell? ⟨gb164, 1, none⟩ = some (.string (⟨#[]⟩ : ByteArray)) := (blk_cell BK164.out 1).trans rfl; have hcz18_2 : w17.cell? ⟨gb164, 2, none⟩ = some (.string (⟨#[]⟩ : ByteArray)) := (blk_cell BK164.out 2).trans rfl; have hcz18_3 : w17.cell? ⟨gb164, 3, none⟩ = some (.int .u64 0) := (blk_cell BK164.out 3).trans rfl; have hcz18_4 : w17.cell? ⟨gb164, 4, none⟩ = some (.int .u64 0) := (blk_cell BK164.out 4).trans rfl; have hcz18_5 : w17.cell? ⟨gb164, 5, none⟩ = some (.slice none 0 0) := (blk_cell BK164.out 5).trans rfl; have hcz18_6 : w17.cell? ⟨gb164, 6, none⟩ = some (.int .i64 0) := (blk_cell BK164.out 6).trans rfl; have hfz18_0 := blk_frozen BK164.out 0; have hfz18_1 := blk_frozen BK164.out 1; have hfz18_2 := blk_frozen BK164.out 2; have hfz18_3 := blk_frozen BK164.out 3; have hfz18_4 := blk_frozen BK164.out 4; have hfz18_5 := blk_frozen BK164.out 5; have hfz18_6 := blk_frozen BK164.out 6))
          (try simp only [Act.put, List.setIfInBounds_toArray, List.set_cons_zero, List.set_cons_succ])
          go_cut [47] (fun v47 wc => ∃ (kq : Nat) (x47_15 : Bool), v47 = .bool x47_15 ∧ Aside0 (abacuslaw20_CharsKeeps.j2 kq l0 x3_1 (wrap64 (x4_1 + (((rd_T29 l0 x5_1).f0).size : Int))) x5_1 x47_15 ((rd_T29 l0 x5_1).f0) ((rd_T29 l0 x5_1).f1) ((rd_T29 l0 x5_1).f2) ((rd_T29 l0 x5_1).f3) ((rd_T29 l0 x5_1).f4) ((rd_T29 l0 x5_1).f5) ((rd_T29 l0 x5_1).f6) = some true) ∧ Aside0 (kq ≤ kj10) ∧ Aside0 (Kd.S (Kd.slice 9 Kd.string) 24 wc w.heap.size (fun k_ => k_ ≠ gb164) u3 x3_1) ∧ Aside0 (wc.heap[gb164]? = some (.cells #[.string ((rd_T29 l0 x5_1).f0), .string ((rd_T29 l0 x5_1).f1), .string ((rd_T29 l0 x5_1).f2), .int .u64 ((rd_T29 l0 x5_1).f3), .int .u64 ((rd_T29 l0 x5_1).f4), (.slice A163_5 ((rd_T29 l0 x5_1).f5).length c163_5), .int .i64 ((rd_T29 l0 x5_1).f6)] 29 (0, 0))) ∧ Aside0 (Below w.heap.size w wc))
          case first =>
           have H := HC16.out
           clear HC16
           by_cases c19 : (wrap64 (x4_1 + (((rd_T29 l0 x5_1).f0).size : Int))) > 262144
           ·rw [if_pos c19] at H
            have c19b0 : decide (262144 < (wrap64 (x4_1 + (((rd_T29 l0 x5_1).f0).size : Int)))) = true := decide_eq_true c19
            clear c19
            (first | rw [c19b0] | (simp only [i64_w, i32_w]; rw [c19b0]) | skip)
            have H' := Aside0.mk H
            clear H
            go_wp2
            go_meet
            case rel => exact ⟨_, (true), (by first | rfl | (simp; done) | (simp [*]; done)), H', ⟨by have := HK1.out; have := HJ10.out; first | omega | exact Nat.le_refl _⟩, ⟨by (with_reducible repeat (first | apply Kd.S_alloc | apply Kd.S_drewN | apply Kd.S_drew)); exact Kd.S_mono (Kd.S_far (p := ⟨gb164, 6, none⟩) (Kd.S_far (p := ⟨gb164, 5, none⟩) (Kd.S_far (p := ⟨gb164, 4, none⟩) (Kd.S_far (p := ⟨gb164, 3, none⟩) (Kd.S_far (p := ⟨gb164, 2, none⟩) (Kd.S_far (p := ⟨gb164, 1, none⟩) (Kd.S_far (p := ⟨gb164, 0, none⟩) (Kd.S_mono HO_3.out (fun k_ hk => (⟨hk, hk.2⟩ : _ ∧ k_ ≠ gb164))) (fun _ hk => hk.2) (.string ((rd_T29 l0 x5_1).f0))) (fun _ hk => hk.2) (.string ((rd_T29 l0 x5_1).f1))) (fun _ hk => hk.2) (.string ((rd_T29 l0 x5_1).f2))) (fun _ hk => hk.2) (.int .u64 ((rd_T29 l0 x5_1).f3))) (fun _ hk => hk.2) (.int .u64 ((rd_T29 l0 x5_1).f4))) (fun _ hk => hk.2) (.slice A163_5 ((rd_T29 l0 x5_1).f5).length c163_5)) (fun _ hk => hk.2) (.int .i64 ((rd_T29 l0 x5_1).f6))) (fun _ hk => hk.1.2)⟩, ⟨by (with_reducible repeat (first | refine blk_drewN ?_ _ | refine blk_drew ?_ | refine blk_alloc ?_ _)); refine blk_put (cs := #[.string ((rd_T29 l0 x5_1).f0), .string ((rd_T29 l0 x5_1).f1), .string ((rd_T29 l0 x5_1).f2), .int .u64 ((rd_T29 l0 x5_1).f3), .int .u64 ((rd_T29 l0 x5_1).f4), .slice A163_5 ((rd_T29 l0 x5_1).f5).length c163_5, .int .i64 0]) ?_ 6 _ rfl; (with_reducible repeat (first | refine blk_drewN ?_ _ | refine blk_drew ?_ | refine blk_alloc ?_ _)); refine blk_put (cs := #[.string ((rd_T29 l0 x5_1).f0), .string ((rd_T29 l0 x5_1).f1), .string ((rd_T29 l0 x5_1).f2), .int .u64 ((rd_T29 l0 x5_1).f3), .int .u64 ((rd_T29 l0 x5_1).f4), .slice none 0 0, .int .i64 0]) ?_ 5 _ rfl; (with_reducible repeat (first | refine blk_drewN ?_ _ | refine blk_drew ?_ | refine blk_alloc ?_ _)); refine blk_put (cs := #[.string ((rd_T29 l0 x5_1).f0), .string ((rd_T29 l0 x5_1).f1), .string ((rd_T29 l0 x5_1).f2), .int .u64 ((rd_T29 l0 x5_1).f3), .int .u64 0, .slice none 0 0, .int .i64 0]) ?_ 4 _ rfl; (with_reducible repeat (first | refine blk_drewN ?_ _ | refine blk_drew ?_ | refine blk_alloc ?_ _)); refine blk_put (cs := #[.string ((rd_T29 l0 x5_1).f0), .string ((rd_T29 l0 x5_1).f1), .string ((rd_T29 l0 x5_1).f2), .int .u64 0, .int .u64 0, .slice none 0 0, .int .i64 0]) ?_ 3 _ rfl; (with_reducible repeat (first | refine blk_drewN ?_ _ | refine blk_drew ?_ | refine blk_alloc ?_ _)); refine blk_put (cs := #[.string ((rd_T29 l0 x5_1).f0), .string ((rd_T29 l0 x5_1).f1), .string (⟨#[]⟩ : ByteArray), .int .u64 0, .int .u64 0, .slice none 0 0, .int .i64 0]) ?_ 2 _ rfl; (with_reducible repeat (first | refine blk_drewN ?_ _ | refine blk_drew ?_ | refine blk_alloc ?_ _)); refine blk_put (cs := #[.string ((rd_T29 l0 x5_1).f0), .string (⟨#[]⟩ : ByteArray), .string (⟨#[]⟩ : ByteArray), .int .u64 0, .int .u64 0, .slice none 0 0, .int .i64 0]) ?_ 1 _ rfl; (with_reducible repeat (first | refine blk_drewN ?_ _ | refine blk_drew ?_ | refine blk_alloc ?_ _)); refine blk_put (cs := #[.string (⟨#[]⟩ : ByteArray), .string (⟨#[]⟩ : ByteArray), .string (⟨#[]⟩ : ByteArray), .int .u64 0, .int .u64 0, .slice none 0 0, .int .i64 0]) ?_ 0 _ rfl; (with_reducible repeat (first | refine blk_drewN ?_ _ | refine blk_drew ?_ | refine blk_alloc ?_ _)); exact BK164.out⟩, ⟨by repeat (first | (with_reducible first | exact HB.out | apply below_alloc | apply pw_below_drewN | apply below_drew1 | refine below_set ?_ GE164.out) | exact HB.out)⟩⟩
           ·rw [if_neg c19] at H
            have c19b0 : decide (262144 < (wrap64 (x4_1 + (((rd_T29 l0 x5_1).f0).size : Int)))) = false := decide_eq_false c19
            clear c19
            (first | rw [c19b0] | (simp only [i64_w, i32_w]; rw [c19b0]) | skip)
            have H' := Aside0.mk H
            clear H
            have hcz20_0 : w17.cell? ⟨gb164, 0, none⟩ = some (.string (⟨#[]⟩ : ByteArray)) := (blk_cell BK164.out 0).trans rfl
            have hcz20_1 : w17.cell? ⟨gb164, 1, none⟩ = some (.string (⟨#[]⟩ : ByteArray)) := (blk_cell BK164.out 1).trans rfl
            have hcz20_2 : w17.cell? ⟨gb164, 2, none⟩ = some (.string (⟨#[]⟩ : ByteArray)) := (blk_cell BK164.out 2).trans rfl
            have hcz20_3 : w17.cell? ⟨gb164, 3, none⟩ = some (.int .u64 0) := (blk_cell BK164.out 3).trans rfl
            have hcz20_4 : w17.cell? ⟨gb164, 4, none⟩ = some (.int .u64 0) := (blk_cell BK164.out 4).trans rfl
            have hcz20_5 : w17.cell? ⟨gb164, 5, none⟩ = some (.slice none 0 0) := (blk_cell BK164.out 5).trans rfl
            have hcz20_6 : w17.cell? ⟨gb164, 6, none⟩ = some (.int .i64 0) := (blk_cell BK164.out 6).trans rfl
            have hfz20_0 := blk_frozen BK164.out 0
            have hfz20_1 := blk_frozen BK164.out 1
            have hfz20_2 := blk_frozen BK164.out 2
            have hfz20_3 := blk_frozen BK164.out 3
            have hfz20_4 := blk_frozen BK164.out 4
            have hfz20_5 := blk_frozen BK164.out 5
            have hfz20_6 := blk_frozen BK164.out 6
            go_wp2
            go_meet
            case rel => exact ⟨_, (decide ((((rd_T29 l0 x5_1).f5).length : Int) > 1048576)), (by first | rfl | (simp; done) | (simp [*]; done)), H', ⟨by have := HK1.out; have := HJ10.out; first | omega | exact Nat.le_refl _⟩, ⟨by (with_reducible repeat (first | apply Kd.S_alloc | apply Kd.S_drewN | apply Kd.S_drew)); exact Kd.S_mono (Kd.S_far (p := ⟨gb164, 6, none⟩) (Kd.S_far (p := ⟨gb164, 5, none⟩) (Kd.S_far (p := ⟨gb164, 4, none⟩) (Kd.S_far (p := ⟨gb164, 3, none⟩) (Kd.S_far (p := ⟨gb164, 2, none⟩) (Kd.S_far (p := ⟨gb164, 1, none⟩) (Kd.S_far (p := ⟨gb164, 0, none⟩) (Kd.S_mono HO_3.out (fun k_ hk => (⟨hk, hk.2⟩ : _ ∧ k_ ≠ gb164))) (fun _ hk => hk.2) (.string ((rd_T29 l0 x5_1).f0))) (fun _ hk => hk.2) (.string ((rd_T29 l0 x5_1).f1))) (fun _ hk => hk.2) (.string ((rd_T29 l0 x5_1).f2))) (fun _ hk => hk.2) (.int .u64 ((rd_T29 l0 x5_1).f3))) (fun _ hk => hk.2) (.int .u64 ((rd_T29 l0 x5_1).f4))) (fun _ hk => hk.2) (.slice A163_5 ((rd_T29 l0 x5_1).f5).length c163_5)) (fun _ hk => hk.2) (.int .i64 ((rd_T29 l0 x5_1).f6))) (fun _ hk => hk.1.2)⟩, ⟨by (with_reducible repeat (first | refine blk_drewN ?_ _ | refine blk_drew ?_ | refine blk_alloc ?_ _)); refine blk_put (cs := #[.string ((rd_T29 l0 x5_1).f0), .string ((rd_T29 l0 x5_1).f1), .string ((rd_T29 l0 x5_1).f2), .int .u64 ((rd_T29 l0 x5_1).f3), .int .u64 ((rd_T29 l0 x5_1).f4), .slice A163_5 ((rd_T29 l0 x5_1).f5).length c163_5, .int .i64 0]) ?_ 6 _ rfl; (with_reducible repeat (first | refine blk_drewN ?_ _ | refine blk_drew ?_ | refine blk_alloc ?_ _)); refine blk_put (cs := #[.string ((rd_T29 l0 x5_1).f0), .string ((rd_T29 l0 x5_1).f1), .string ((rd_T29 l0 x5_1).f2), .int .u64 ((rd_T29 l0 x5_1).f3), .int .u64 ((rd_T29 l0 x5_1).f4), .slice none 0 0, .int .i64 0]) ?_ 5 _ rfl; (with_reducible repeat (first | refine blk_drewN ?_ _ | refine blk_drew ?_ | refine blk_alloc ?_ _)); refine blk_put (cs := #[.string ((rd_T29 l0 x5_1).f0), .string ((rd_T29 l0 x5_1).f1), .string ((rd_T29 l0 x5_1).f2), .int .u64 ((rd_T29 l0 x5_1).f3), .int .u64 0, .slice none 0 0, .int .i64 0]) ?_ 4 _ rfl; (with_reducible repeat (first | refine blk_drewN ?_ _ | refine blk_drew ?_ | refine blk_alloc ?_ _)); refine blk_put (cs := #[.string ((rd_T29 l0 x5_1).f0), .string ((rd_T29 l0 x5_1).f1), .string ((rd_T29 l0 x5_1).f2), .int .u64 0, .int .u64 0, .slice none 0 0, .int .i64 0]) ?_ 3 _ rfl; (with_reducible repeat (first | refine blk_drewN ?_ _ | refine blk_drew ?_ | refine blk_alloc ?_ _)); refine blk_put (cs := #[.string ((rd_T29 l0 x5_1).f0), .string ((rd_T29 l0 x5_1).f1), .string (⟨#[]⟩ : ByteArray), .int .u64 0, .int .u64 0, .slice none 0 0, .int .i64 0]) ?_ 2 _ rfl; (with_reducible repeat (first | refine blk_drewN ?_ _ | refine blk_drew ?_ | refine blk_alloc ?_ _)); refine blk_put (cs := #[.string ((rd_T29 l0 x5_1).f0), .string (⟨#[]⟩ : ByteArray), .string (⟨#[]⟩ : ByteArray), .int .u64 0, .int .u64 0, .slice none 0 0, .int .i64 0]) ?_ 1 _ rfl; (with_reducible repeat (first | refine blk_drewN ?_ _ | refine blk_drew ?_ | refine blk_alloc ?_ _)); refine blk_put (cs := #[.string (⟨#[]⟩ : ByteArray), .string (⟨#[]⟩ : ByteArray), .string (⟨#[]⟩ : ByteArray), .int .u64 0, .int .u64 0, .slice none 0 0, .int .i64 0]) ?_ 0 _ rfl; (with_reducible repeat (first | refine blk_drewN ?_ _ | refine blk_drew ?_ | refine blk_alloc ?_ _)); exact BK164.out⟩, ⟨by repeat (first | (with_reducible first | exact HB.out | apply below_alloc | apply pw_below_drewN | apply below_drew1 | refine below_set ?_ GE164.out) | exact HB.out)⟩⟩
          case rest =>
           clear HC16
           try clear c1
           try clear p1
           try clear q1
           try clear hx1
           try clear p2
           try clear c4
           try clear p6
           try clear c9
           try clear c10
           try clear c12
           try clear c12b0
           try clear c13
           try clear c14
           try clear c14b0
           try clear c15
           try clear c15b0
           try clear c16
           try clear p16
           try clear q16
           try clear hx16
           try clear c19
           try clear c19b0
           try clear hcz18_0
           try clear hcz18_1
           try clear hcz18_2
           try clear hcz18_3
           try clear hcz18_4
           try clear hcz18_5
           try clear hcz18_6
           try clear hcz20_0
           try clear hcz20_1
           try clear hcz20_2
           try clear hcz20_3
           try clear hcz20_4
           try clear hcz20_5
           try clear hcz20_6
           try clear hfz18_0
           try clear hfz18_1
           try clear hfz18_2
           try clear hfz18_3
           try clear hfz18_4
           try clear hfz18_5
           try clear hfz18_6
           try clear hfz20_0
           try clear hfz20_1
           try clear hfz20_2
           try clear hfz20_3
           try clear hfz20_4
           try clear hfz20_5
           try clear hfz20_6
           try clear hx163_0
           try clear hx163_1
           try clear hx163_2
           try clear hx163_3
           try clear hx163_4
           try clear hx163_5
           try clear hx163_6
           try clear p163
           try clear p2
           try clear q163
           obtain ⟨kq, x47_15, rfl, HA, HJ15, HO_3, BK164, HB⟩ := hcut
           cases kq with
           | zero => exact absurd HA.out (by simp [abacuslaw20_CharsKeeps.j2])
           | succ kj15 =>
            have H := HA.out
            clear HA
            simp only [abacuslaw20_CharsKeeps.j2] at H
            by_cases c21 : x47_15 = true
            ·subst c21
             have H1 : (abacuslaw20_CharsKeeps.j6 kj15 x3_1) = some true := by rw [if_pos rfl] at H; exact H
             clear H
             have H := H1
             clear H1
             have H' := Aside0.mk H
             clear H
             go_wp2
             go_meet
             case rel => exact ⟨_, (x3_1), H', ⟨by have := HK1.out; have := HJ10.out; have := HJ15.out; first | omega | exact Nat.le_refl _⟩, ⟨by (with_reducible repeat (first | apply Kd.S_alloc | apply Kd.S_drewN | apply Kd.S_drew)); exact Kd.S_mono HO_3.out (fun _ hk => trivial)⟩, ⟨by repeat (first | (with_reducible first | exact HB.out | apply below_alloc | apply pw_below_drewN | apply below_drew1 | refine below_set ?_ GE164.out) | exact HB.out)⟩⟩
            ·replace c21 := Bool.eq_false_iff.mpr c21
             subst c21
             have H1 : (if 0 ≤ (wrap64 ((((rd_T29 l0 x5_1).f5).length : Int) + 20)) then (if (wrap64 ((((rd_T29 l0 x5_1).f5).length : Int) + 20) : Int).toNat ≤ 17592186044416 then (abacuslaw20_CharsKeeps.l1 kj15 l0 x3_1 (wrap64 (x4_1 + (((rd_T29 l0 x5_1).f0).size : Int))) x5_1 (List.replicate (wrap64 ((((rd_T29 l0 x5_1).f5).length : Int) + 20) : Int).toNat (⟨#[]⟩ : ByteArray)) 0 ((rd_T29 l0 x5_1).f0) ((rd_T29 l0 x5_1).f1) ((rd_T29 l0 x5_1).f2) ((rd_T29 l0 x5_1).f3) ((rd_T29 l0 x5_1).f4) ((rd_T29 l0 x5_1).f5) ((rd_T29 l0 x5_1).f6)) else (none)) else (none)) = some true := by rw [if_neg (show ¬ (false = true) by decide)] at H; exact H
             clear H
             have H := H1
             clear H1
             obtain ⟨ji22, hji22⟩ : ∃ j_ : Int, (wrap64 ((((rd_T29 l0 x5_1).f5).length : Int) + 20)) = j_ := ⟨_, rfl⟩
             replace H : (if 0 ≤ (ji22) then (if (ji22 : Int).toNat ≤ 17592186044416 then (abacuslaw20_CharsKeeps.l1 kj15 l0 x3_1 (wrap64 (x4_1 + (((rd_T29 l0 x5_1).f0).size : Int))) x5_1 (List.replicate (ji22 : Int).toNat (⟨#[]⟩ : ByteArray)) 0 ((rd_T29 l0 x5_1).f0) ((rd_T29 l0 x5_1).f1) ((rd_T29 l0 x5_1).f2) ((rd_T29 l0 x5_1).f3) ((rd_T29 l0 x5_1).f4) ((rd_T29 l0 x5_1).f5) ((rd_T29 l0 x5_1).f6)) else (none)) else (none)) = some true := by first | (rw [hji22] at H; exact H) | (simp only [hji22] at H ⊢; exact H)
             have hji22w : (IntKind.i64.wrap ((((rd_T29 l0 x5_1).f5).length : Int) + 20)) = ji22 := (i64_w _).trans hji22
             by_cases c23 : 0 ≤ (ji22)
             ·rw [if_pos c23] at H
              have c23b0 := eq_true c23
              have c23b1 : decide (0 ≤ (ji22)) = true := decide_eq_true c23
              clear c23
              by_cases c24 : (ji22 : Int).toNat ≤ 17592186044416
              ·rw [if_pos c24] at H
               have c24b0 := eq_true c24
               have c24b1 : decide ((ji22 : Int).toNat ≤ 17592186044416) = true := decide_eq_true c24
               clear c24
               obtain ⟨y165, hy165⟩ : ∃ y_ : List ByteArray, y_ = (List.replicate (ji22 : Int).toNat (⟨#[]⟩ : ByteArray)) := ⟨_, rfl⟩
               replace H : (abacuslaw20_CharsKeeps.l1 kj15 l0 x3_1 (wrap64 (x4_1 + (((rd_T29 l0 x5_1).f0).size : Int))) x5_1 y165 0 ((rd_T29 l0 x5_1).f0) ((rd_T29 l0 x5_1).f1) ((rd_T29 l0 x5_1).f2) ((rd_T29 l0 x5_1).f3) ((rd_T29 l0 x5_1).f4) ((rd_T29 l0 x5_1).f5) ((rd_T29 l0 x5_1).f6)) = some true := by first | (rw [hy165]; with_reducible exact H) | (have H2_ := (Option.bind_some _ _).symm.trans H; rw [hy165]; with_reducible exact H2_) | (have H2_ := (Option.bind_some _ _).symm.trans H; with_reducible exact H2_) | with_reducible exact H | (rw [hy165]; exact H) | exact H
               have Ny165 := Aside0.mk hy165
               clear hy165
               have H' := Aside0.mk H
               clear H
               have hcz25_0 : wc.cell? ⟨gb164, 0, none⟩ = some (.string ((rd_T29 l0 x5_1).f0)) := (blk_cell BK164.out 0).trans rfl
               have hcz25_1 : wc.cell? ⟨gb164, 1, none⟩ = some (.string ((rd_T29 l0 x5_1).f1)) := (blk_cell BK164.out 1).trans rfl
               have hcz25_2 : wc.cell? ⟨gb164, 2, none⟩ = some (.string ((rd_T29 l0 x5_1).f2)) := (blk_cell BK164.out 2).trans rfl
               have hcz25_3 : wc.cell? ⟨gb164, 3, none⟩ = some (.int .u64 ((rd_T29 l0 x5_1).f3)) := (blk_cell BK164.out 3).trans rfl
               have hcz25_4 : wc.cell? ⟨gb164, 4, none⟩ = some (.int .u64 ((rd_T29 l0 x5_1).f4)) := (blk_cell BK164.out 4).trans rfl
               have hcz25_5 : wc.cell? ⟨gb164, 5, none⟩ = some (.slice A163_5 ((rd_T29 l0 x5_1).f5).length c163_5) := (blk_cell BK164.out 5).trans rfl
               have hcz25_6 : wc.cell? ⟨gb164, 6, none⟩ = some (.int .i64 ((rd_T29 l0 x5_1).f6)) := (blk_cell BK164.out 6).trans rfl
               have hfz25_0 := blk_frozen BK164.out 0
               have hfz25_1 := blk_frozen BK164.out 1
               have hfz25_2 := blk_frozen BK164.out 2
               have hfz25_3 := blk_frozen BK164.out 3
               have hfz25_4 := blk_frozen BK164.out 4
               have hfz25_5 := blk_frozen BK164.out 5
               have hfz25_6 := blk_frozen BK164.out 6
               go_wp2_with (first | ((with_reducible refine gate_dst (N := 52) rfl ?_); (try (refine gate_guard (by rfl) ?_; dsimp only)); refine Kd.R_make Kd.string _ 9 rfl (N := 52) rfl 24 _ _ rfl ji22 rfl rfl Tryd.underlying24 (.string ⟨#[]⟩) 16 info9 rfl (by decide) (by omega) (⟨#[]⟩ : ByteArray) (ok := fun _ => True) (okp := fun _ => True) rfl (fun _ hk => hk) trivial (of_decide_eq_true (by first | (with_reducible assumption) | assumption)) (Nat.le_trans (Nat.mul_le_mul_right _ (of_decide_eq_true (by first | (with_reducible assumption) | assumption) : ji22.toNat ≤ 17592186044416)) (by omega)) (Below.refl _ _) (Nat.le_refl _) ?_; intro v166 w26 ho27 hb hg_ hnew_; clear hg_ hnew_; (first | rw [← Ny165.out] at ho27 | (simp only [Int.reduceToNat] at ho27; rw [← Ny165.out] at ho27)); have n0_ := Aside0.mk (Kd.S_elder' (by (with_reducible repeat (first | apply Kd.S_alloc | apply Kd.S_drewN | apply Kd.S_drew)); exact HO_3.out) (Kd.R_base ho27) hb); have n1_ := Aside0.mk (Kd.R_lower ho27 (below_size (by repeat (first | (with_reducible first | exact HB.out | apply below_alloc | apply pw_below_drewN | apply below_drew1 | refine below_set ?_ GE164.out) | exact HB.out)))); have n2_ := Aside0.mk (blk_below (g := gb164) (o := .cells #[.string ((rd_T29 l0 x5_1).f0), .string ((rd_T29 l0 x5_1).f1), .string ((rd_T29 l0 x5_1).f2), .int .u64 ((rd_T29 l0 x5_1).f3), .int .u64 ((rd_T29 l0 x5_1).f4), .slice A163_5 ((rd_T29 l0 x5_1).f5).length c163_5, .int .i64 ((rd_T29 l0 x5_1).f6)] 29 (0, 0)) (by (with_reducible repeat (first | refine blk_drewN ?_ _ | refine blk_drew ?_ | refine blk_alloc ?_ _)); exact BK164.out) hb); have n3_ := Aside0.mk (below_step (by repeat (first | (with_reducible first | exact HB.out | apply below_alloc | apply pw_below_drewN | apply below_drew1 | refine below_set ?_ GE164.out) | exact HB.out)) hb); clear HO_3; clear BK164; clear HB; have HO_3 := n0_; have HO167 := n1_; have BK164 := n2_; have HB := n3_; clear n0_ n1_ n2_ n3_; clear hb ho27))
               go_loopg [8] kj15 (fun kq v8 w' => ∃ (x7_4 : List ByteArray) (x8_4 : Int), v8 = .int .i64 x8_4 ∧ Aside0 (abacuslaw20_CharsKeeps.l1 kq l0 x3_1 (wrap64 (x4_1 + (((rd_T29 l0 x5_1).f0).size : Int))) x5_1 x7_4 x8_4 ((rd_T29 l0 x5_1).f0) ((rd_T29 l0 x5_1).f1) ((rd_T29 l0 x5_1).f2) ((rd_T29 l0 x5_1).f3) ((rd_T29 l0 x5_1).f4) ((rd_T29 l0 x5_1).f5) ((rd_T29 l0 x5_1).f6) = some true) ∧ Aside0 (kq ≤ kj15) ∧ Aside0 (Kd.S (Kd.slice 9 Kd.string) 24 w' w.heap.size (fun k_ => some k_ ≠ (v166 : Value).ownBlock ∧ k_ ≠ gb164) u3 x3_1) ∧ Aside0 (Kd.R Kd.string 9 w' w.heap.size (fun _ => True) v166 x7_4) ∧ Aside0 (w'.heap[gb164]? = some (.cells #[.string ((rd_T29 l0 x5_1).f0), .string ((rd_T29 l0 x5_1).f1), .string ((rd_T29 l0 x5_1).f2), .int .u64 ((rd_T29 l0 x5_1).f3), .int .u64 ((rd_T29 l0 x5_1).f4), (.slice A163_5 ((rd_T29 l0 x5_1).f5).length c163_5), .int .i64 ((rd_T29 l0 x5_1).f6)] 29 (0, 0))) ∧ Aside0 (Below w.heap.size w w'))
               case atStart => exact ⟨(y165), (0), (by first | rfl | (simp; done) | (simp [*]; done)), H', ⟨Nat.le_refl _⟩, ⟨by (with_reducible repeat (first | apply Kd.S_alloc | apply Kd.S_drewN | apply Kd.S_drew)); exact Kd.S_mono HO_3.out (fun _ hk => ⟨hk.2, hk.1⟩)⟩, ⟨by (with_reducible repeat (first | apply Kd.R_alloc | apply Kd.R_drewN | apply Kd.R_drew)); exact HO167.out⟩, ⟨by (with_reducible repeat (first | refine blk_drewN ?_ _ | refine blk_drew ?_ | refine blk_alloc ?_ _)); exact BK164.out⟩, ⟨by repeat (first | (with_reducible first | exact HB.out | apply below_alloc | apply pw_below_drewN | apply below_drew1 | refine below_set ?_ GE164.out) | exact HB.out)⟩⟩
               case round => as_aux_lemma =>
                clear H'
                try clear c1
                try clear p1
                try clear q1
                try clear hx1
                try clear c2
                try clear p2
                try clear c4
                try clear p6
                try clear c9
                try clear c10
                try clear c12
                try clear c12b0
                try clear c13
                try clear c14
                try clear c14b0
                try clear c15
                try clear c15b0
                try clear c16
                try clear p16
                try clear q16
                try clear hx16
                try clear c19
                try clear c19b0
                try clear c21
                try clear c23
                try clear c23b0
                try clear c23b1
                try clear c24
                try clear c24b0
                try clear c24b1
                try clear hcz18_0
                try clear hcz18_1
                try clear hcz18_2
                try clear hcz18_3
                try clear hcz18_4
                try clear hcz18_5
                try clear hcz18_6
                try clear hcz20_0
                try clear hcz20_1
                try clear hcz20_2
                try clear hcz20_3
                try clear hcz20_4
                try clear hcz20_5
                try clear hcz20_6
                try clear hcz25_0
                try clear hcz25_1
                try clear hcz25_2
                try clear hcz25_3
                try clear hcz25_4
                try clear hcz25_5
                try clear hcz25_6
                try clear hfz18_0
                try clear hfz18_1
                try clear hfz18_2
                try clear hfz18_3
                try clear hfz18_4
                try clear hfz18_5
                try clear hfz18_6
                try clear hfz20_0
                try clear hfz20_1
                try clear hfz20_2
                try clear hfz20_3
                try clear hfz20_4
                try clear hfz20_5
                try clear hfz20_6
                try clear hfz25_0
                try clear hfz25_1
                try clear hfz25_2
                try clear hfz25_3
                try clear hfz25_4
                try clear hfz25_5
                try clear hfz25_6
                try clear hx163_0
                try clear hx163_1
                try clear hx163_2
                try clear hx163_3
                try clear hx163_4
                try clear hx163_5
                try clear hx163_6
                try clear p1
                try clear p16
                try clear p163
                try clear p2
                try clear p6
                try clear q1
                try clear q16
                try clear q163
                obtain ⟨x7_4, x8_4, rfl, HA, HK4, HO_3, HO_7, BK164, HB⟩ := hrel
                cases gk with
                | zero => exact absurd HA.out (by simp [abacuslaw20_CharsKeeps.l1])
                | succ k4 =>
                 have H := HA.out
                 clear HA
                 simp only [abacuslaw20_CharsKeeps.l1] at H
                 by_cases c28 : x8_4 < (x7_4.length : Int)
                 ·rw [if_pos c28] at H
                  have c28b0 : decide (x8_4 < (x7_4.length : Int)) = true := decide_eq_true c28
                  clear c28
                  by_cases c29 : 0 ≤ x8_4
                  ·rw [if_pos c29] at H
                   have c29b0 : decide (0 ≤ x8_4) = true := decide_eq_true c29
                   clear c29
                   obtain ⟨y168, hy168⟩ : ∃ y_ : List ByteArray, y_ = (x7_4.set (x8_4 : Int).toNat (⟨#[115, 112, 97, 114, 101]⟩ : ByteArray)) := ⟨_, rfl⟩
                   replace H : (if x8_4 < (((rd_T29 l0 x5_1).f5).length : Int) then (abacuslaw20_CharsKeeps.l1 k4 l0 x3_1 (wrap64 (x4_1 + (((rd_T29 l0 x5_1).f0).size : Int))) x5_1 (y168.set (x8_4 : Int).toNat (rdOf ByteArray.empty ((rd_T29 l0 x5_1).f5) x8_4)) (wrap64 (x8_4 + 1)) ((rd_T29 l0 x5_1).f0) ((rd_T29 l0 x5_1).f1) ((rd_T29 l0 x5_1).f2) ((rd_T29 l0 x5_1).f3) ((rd_T29 l0 x5_1).f4) ((rd_T29 l0 x5_1).f5) ((rd_T29 l0 x5_1).f6)) else (abacuslaw20_CharsKeeps.l1 k4 l0 x3_1 (wrap64 (x4_1 + (((rd_T29 l0 x5_1).f0).size : Int))) x5_1 y168 (wrap64 (x8_4 + 1)) ((rd_T29 l0 x5_1).f0) ((rd_T29 l0 x5_1).f1) ((rd_T29 l0 x5_1).f2) ((rd_T29 l0 x5_1).f3) ((rd_T29 l0 x5_1).f4) ((rd_T29 l0 x5_1).f5) ((rd_T29 l0 x5_1).f6))) = some true := by first | (rw [hy168]; with_reducible exact H) | (have H2_ := (Option.bind_some _ _).symm.trans H; rw [hy168]; with_reducible exact H2_) | (have H2_ := (Option.bind_some _ _).symm.trans H; with_reducible exact H2_) | with_reducible exact H | (rw [hy168]; exact H) | exact H
                   have Ny168 := Aside0.mk hy168
                   clear hy168
                   by_cases c31 : x8_4 < (((rd_T29 l0 x5_1).f5).length : Int)
                   ·rw [if_pos c31] at H
                    have c31b0 : decide (x8_4 < (((rd_T29 l0 x5_1).f5).length : Int)) = true := decide_eq_true c31
                    clear c31
                    obtain ⟨y170, hy170⟩ : ∃ y_ : List ByteArray, y_ = (y168.set (x8_4 : Int).toNat (rdOf ByteArray.empty ((rd_T29 l0 x5_1).f5) x8_4)) := ⟨_, rfl⟩
                    replace H : (abacuslaw20_CharsKeeps.l1 k4 l0 x3_1 (wrap64 (x4_1 + (((rd_T29 l0 x5_1).f0).size : Int))) x5_1 y170 (wrap64 (x8_4 + 1)) ((rd_T29 l0 x5_1).f0) ((rd_T29 l0 x5_1).f1) ((rd_T29 l0 x5_1).f2) ((rd_T29 l0 x5_1).f3) ((rd_T29 l0 x5_1).f4) ((rd_T29 l0 x5_1).f5) ((rd_T29 l0 x5_1).f6)) = some true := by first | (rw [hy170]; with_reducible exact H) | (have H2_ := (Option.bind_some _ _).symm.trans H; rw [hy170]; with_reducible exact H2_) | (have H2_ := (Option.bind_some _ _).symm.trans H; with_reducible exact H2_) | with_reducible exact H | (rw [hy170]; exact H) | exact H
                    have Ny170 := Aside0.mk hy170
                    clear hy170
                    have H' := Aside0.mk H
                    clear H
                    obtain ⟨Ao33, co33, eo33⟩ := Kd.R_slice HO_7.out
                    subst eo33
                    have p30 : 0 ≤ (x8_4 : Int) := of_decide_eq_true (by first | (with_reducible assumption) | assumption)
                    have q30 : (x8_4 : Int) < ((x7_4.length : Int) : Int) := of_decide_eq_true (by first | (with_reducible assumption) | assumption)
                    obtain ⟨go30, co30, eo30, gb30, gl30, cl30, HG30⟩ := Kd.R_form HO_7.out (by omega)
                    (first | cases eo30 | (injection eo30 with ea_ en_ ec_; (first | subst ea_ | (injection ea_ with ea_; subst ea_)); subst ec_; clear en_))
                    have GB30 := Aside0.mk gb30
                    have GG30 := Aside0.mk HG30
                    clear gb30 gl30 HG30
                    obtain ⟨hx30_0, hf30_0⟩ := Kd.R_celln (⟨#[]⟩ : ByteArray) HO_7.out (x8_4 : Int) p30 q30
                    replace p30 := eq_true p30
                    replace q30 := eq_true q30
                    have HP34 := Kd.R_putg HO_7.out (x8_4 : Int) (⟨#[115, 112, 97, 114, 101]⟩ : ByteArray)
                    go_wp2_with (first | ((with_reducible refine gate_store (t := 9) (p := 61) rfl ?_); refine store_event (t := 9) (p := 61) (v := ?vo_w35) (w1 := (wr.setCell ⟨go30, (x8_4 : Int).toNat, none⟩ (.string (⟨#[115, 112, 97, 114, 101]⟩ : ByteArray)))) ?hg ?ho ?hn ?hr ?_; (case ho => rfl); (case hg => rfl); (case hn => rfl); (case hr => first | (go_simp; done) | (go_simp; rfl)); intro w35 hw; have hg : wr.grownBy w35 (some go30) := (by rw [hw]; exact HP34.2); have hp_ : Kd.R Kd.string 9 w35 w.heap.size (fun _ => True) (.slice (some ⟨go30, 0, none⟩) x7_4.length co33) y168 := (by rw [hw, Ny168.out]; exact HP34.1); clear HP34; have n0_ := Aside0.mk (Kd.S_after (v := (.slice (some ⟨go30, 0, none⟩) x7_4.length co33)) (v1 := (.slice (some ⟨go30, 0, none⟩) x7_4.length co33)) (ok := (fun k_ => k_ ≠ gb164)) (by (with_reducible repeat (first | apply Kd.S_alloc | apply Kd.S_drewN | apply Kd.S_drew)); exact Kd.S_mono HO_3.out (fun _ hk => ⟨hk.2, hk.1⟩)) hg (.inl rfl)); have n1_ := Aside0.mk (hp_); have n2_ := Aside0.mk (blk_grown (g := gb164) (o := .cells #[.string ((rd_T29 l0 x5_1).f0), .string ((rd_T29 l0 x5_1).f1), .string ((rd_T29 l0 x5_1).f2), .int .u64 ((rd_T29 l0 x5_1).f3), .int .u64 ((rd_T29 l0 x5_1).f4), .slice A163_5 ((rd_T29 l0 x5_1).f5).length c163_5, .int .i64 ((rd_T29 l0 x5_1).f6)] 29 (0, 0)) (by (with_reducible repeat (first | refine blk_drewN ?_ _ | refine blk_drew ?_ | refine blk_alloc ?_ _)); exact BK164.out) hg (Kd.R_ne HO_7.out BK164.out (by decide))); have n3_ := Aside0.mk ((by rw [hw]; exact below_set (HB.out) GB30.out : Below w.heap.size w w35)); clear HO_3; clear HO_7; clear BK164; clear HB; have HO_3 := n0_; have HO_7 := n1_; have BK164 := n2_; have HB := n3_; clear n0_ n1_ n2_ n3_; clear hg hw hp_; have hcz36_0 : w35.cell? ⟨gb164, 0, none⟩ = some (.string ((rd_T29 l0 x5_1).f0)) := (blk_cell BK164.out 0).trans rfl; have hcz36_1 : w35.cell? ⟨gb164, 1, none⟩ = some (.string ((rd_T29 l0 x5_1).f1)) := (blk_cell BK164.out 1).trans rfl; have hcz36_2 : w35.cell? ⟨gb164, 2, none⟩ = some (.string ((rd_T29 l0 x5_1).f2)) := (blk_cell BK164.out 2).trans rfl; have hcz36_3 : w35.cell? ⟨gb164, 3, none⟩ = some (.int .u64 ((rd_T29 l0 x5_1).f3)) := (blk_cell BK164.out 3).trans rfl; have hcz36_4 : w35.cell? ⟨gb164, 4, none⟩ = some (.int .u64 ((rd_T29 l0 x5_1).f4)) := (blk_cell BK164.out 4).trans rfl; have hcz36_5 : w35.cell? ⟨gb164, 5, none⟩ = some (.slice A163_5 ((rd_T29 l0 x5_1).f5).length c163_5) := (blk_cell BK164.out 5).trans rfl; have hcz36_6 : w35.cell? ⟨gb164, 6, none⟩ = some (.int .i64 ((rd_T29 l0 x5_1).f6)) := (blk_cell BK164.out 6).trans rfl; have hfz36_0 := blk_frozen BK164.out 0; have hfz36_1 := blk_frozen BK164.out 1; have hfz36_2 := blk_frozen BK164.out 2; have hfz36_3 := blk_frozen BK164.out 3; have hfz36_4 := blk_frozen BK164.out 4; have hfz36_5 := blk_frozen BK164.out 5; have hfz36_6 := blk_frozen BK164.out 6; have p169 : 0 ≤ (x8_4 : Int) := of_decide_eq_true (by first | (with_reducible assumption) | assumption); have q169 : x8_4 < (((rd_T29 l0 x5_1).f5).length : Int) := of_decide_eq_true (by first | (with_reducible assumption) | assumption); obtain ⟨ad169, e169, hx169_0⟩ := Kd.at_string HR163_5.out x8_4 p169 q169; cases e169; replace hx169_0 := (HB.out.cell (World.block_lt_of_cell? w _ hx169_0)).trans hx169_0; replace p169 := eq_true p169; replace q169 := eq_true q169; have p32 : 0 ≤ (x8_4 : Int) := of_decide_eq_true (by first | (with_reducible assumption) | assumption); have q32 : (x8_4 : Int) < ((x7_4.length : Int) : Int) := of_decide_eq_true (by first | (with_reducible assumption) | assumption); obtain ⟨hx32_0, hf32_0⟩ := Kd.R_celln (⟨#[]⟩ : ByteArray) HO_7.out (x8_4 : Int) p32 q32; replace p32 := eq_true p32; replace q32 := eq_true q32; obtain ⟨hy37_, hz37_⟩ := Kd.R_celln (⟨#[]⟩ : ByteArray) HO_7.out (x8_4 : Int) (of_decide_eq_true (by first | (with_reducible assumption) | assumption)) (of_decide_eq_true (by first | (with_reducible assumption) | assumption)); have HP37 := Kd.R_putg HO_7.out (x8_4 : Int) (rdOf ByteArray.empty ((rd_T29 l0 x5_1).f5) x8_4)) | ((with_reducible refine gate_store (t := 9) (p := 74) rfl ?_); refine store_event (t := 9) (p := 74) (v := ?vo_w38) (w1 := (w35.setCell ⟨go30, (x8_4 : Int).toNat, none⟩ (.string (rdOf ByteArray.empty ((rd_T29 l0 x5_1).f5) x8_4)))) ?hg ?ho ?hn ?hr ?_; (case ho => rfl); (case hg => rfl); (case hn => rfl); (case hr => first | (go_simp; done) | (go_simp; rfl)); intro w38 hw; have hg : w35.grownBy w38 (some go30) := (by rw [hw]; exact HP37.2); have hp_ : Kd.R Kd.string 9 w38 w.heap.size (fun _ => True) (.slice (some ⟨go30, 0, none⟩) x7_4.length co33) y170 := (by rw [hw, Ny170.out]; exact HP37.1); clear HP37; have n0_ := Aside0.mk (Kd.S_after (v := (.slice (some ⟨go30, 0, none⟩) x7_4.length co33)) (v1 := (.slice (some ⟨go30, 0, none⟩) x7_4.length co33)) (ok := (fun k_ => k_ ≠ gb164)) (by (with_reducible repeat (first | apply Kd.S_alloc | apply Kd.S_drewN | apply Kd.S_drew)); exact HO_3.out) hg (.inl rfl)); have n1_ := Aside0.mk (hp_); have n2_ := Aside0.mk (blk_grown (g := gb164) (o := .cells #[.string ((rd_T29 l0 x5_1).f0), .string ((rd_T29 l0 x5_1).f1), .string ((rd_T29 l0 x5_1).f2), .int .u64 ((rd_T29 l0 x5_1).f3), .int .u64 ((rd_T29 l0 x5_1).f4), .slice (some ad169) ((rd_T29 l0 x5_1).f5).length c163_5, .int .i64 ((rd_T29 l0 x5_1).f6)] 29 (0, 0)) (by (with_reducible repeat (first | refine blk_drewN ?_ _ | refine blk_drew ?_ | refine blk_alloc ?_ _)); exact BK164.out) hg (Kd.R_ne HO_7.out BK164.out (by decide))); have n3_ := Aside0.mk ((by rw [hw]; exact below_set (HB.out) GB30.out : Below w.heap.size w w38)); clear HO_3; clear HO_7; clear BK164; clear HB; have HO_3 := n0_; have HO_7 := n1_; have BK164 := n2_; have HB := n3_; clear n0_ n1_ n2_ n3_; clear hg hw hp_))
                    go_roundg k4
                    case measure => have := HK1.out; have := HJ10.out; have := HJ15.out; have := HK4.out; omega
                    case rel => exact ⟨(y170), (wrap64 (x8_4 + 1)), (by first | rfl | (simp; done) | (simp [*]; done)), H', ⟨by have := HK1.out; have := HJ10.out; have := HJ15.out; have := HK4.out; omega⟩, ⟨by (with_reducible repeat (first | apply Kd.S_alloc | apply Kd.S_drewN | apply Kd.S_drew)); exact Kd.S_mono HO_3.out (fun _ hk => ⟨hk.2, hk.1⟩)⟩, ⟨by (with_reducible repeat (first | apply Kd.R_alloc | apply Kd.R_drewN | apply Kd.R_drew)); exact HO_7.out⟩, ⟨by (with_reducible repeat (first | refine blk_drewN ?_ _ | refine blk_drew ?_ | refine blk_alloc ?_ _)); exact BK164.out⟩, ⟨by repeat (first | (with_reducible first | exact HB.out | apply below_alloc | apply pw_below_drewN | apply below_drew1 | refine below_set ?_ GE164.out) | exact HB.out)⟩⟩
                   ·rw [if_neg c31] at H
                    have c31b0 : decide (x8_4 < (((rd_T29 l0 x5_1).f5).length : Int)) = false := decide_eq_false c31
                    clear c31
                    have H' := Aside0.mk H
                    clear H
                    obtain ⟨Ao39, co39, eo39⟩ := Kd.R_slice HO_7.out
                    subst eo39
                    have p30 : 0 ≤ (x8_4 : Int) := of_decide_eq_true (by first | (with_reducible assumption) | assumption)
                    have q30 : (x8_4 : Int) < ((x7_4.length : Int) : Int) := of_decide_eq_true (by first | (with_reducible assumption) | assumption)
                    obtain ⟨go30, co30, eo30, gb30, gl30, cl30, HG30⟩ := Kd.R_form HO_7.out (by omega)
                    (first | cases eo30 | (injection eo30 with ea_ en_ ec_; (first | subst ea_ | (injection ea_ with ea_; subst ea_)); subst ec_; clear en_))
                    have GB30 := Aside0.mk gb30
                    have GG30 := Aside0.mk HG30
                    clear gb30 gl30 HG30
                    obtain ⟨hx30_0, hf30_0⟩ := Kd.R_celln (⟨#[]⟩ : ByteArray) HO_7.out (x8_4 : Int) p30 q30
                    replace p30 := eq_true p30
                    replace q30 := eq_true q30
                    have HP40 := Kd.R_putg HO_7.out (x8_4 : Int) (⟨#[115, 112, 97, 114, 101]⟩ : ByteArray)
                    go_wp2_with (first | ((with_reducible refine gate_store (t := 9) (p := 61) rfl ?_); refine store_event (t := 9) (p := 61) (v := ?vo_w41) (w1 := (wr.setCell ⟨go30, (x8_4 : Int).toNat, none⟩ (.string (⟨#[115, 112, 97, 114, 101]⟩ : ByteArray)))) ?hg ?ho ?hn ?hr ?_; (case ho => rfl); (case hg => rfl); (case hn => rfl); (case hr => first | (go_simp; done) | (go_simp; rfl)); intro w41 hw; have hg : wr.grownBy w41 (some go30) := (by rw [hw]; exact HP40.2); have hp_ : Kd.R Kd.string 9 w41 w.heap.size (fun _ => True) (.slice (some ⟨go30, 0, none⟩) x7_4.length co39) y168 := (by rw [hw, Ny168.out]; exact HP40.1); clear HP40; have n0_ := Aside0.mk (Kd.S_after (v := (.slice (some ⟨go30, 0, none⟩) x7_4.length co39)) (v1 := (.slice (some ⟨go30, 0, none⟩) x7_4.length co39)) (ok := (fun k_ => k_ ≠ gb164)) (by (with_reducible repeat (first | apply Kd.S_alloc | apply Kd.S_drewN | apply Kd.S_drew)); exact Kd.S_mono HO_3.out (fun _ hk => ⟨hk.2, hk.1⟩)) hg (.inl rfl)); have n1_ := Aside0.mk (hp_); have n2_ := Aside0.mk (blk_grown (g := gb164) (o := .cells #[.string ((rd_T29 l0 x5_1).f0), .string ((rd_T29 l0 x5_1).f1), .string ((rd_T29 l0 x5_1).f2), .int .u64 ((rd_T29 l0 x5_1).f3), .int .u64 ((rd_T29 l0 x5_1).f4), .slice A163_5 ((rd_T29 l0 x5_1).f5).length c163_5, .int .i64 ((rd_T29 l0 x5_1).f6)] 29 (0, 0)) (by (with_reducible repeat (first | refine blk_drewN ?_ _ | refine blk_drew ?_ | refine blk_alloc ?_ _)); exact BK164.out) hg (Kd.R_ne HO_7.out BK164.out (by decide))); have n3_ := Aside0.mk ((by rw [hw]; exact below_set (HB.out) GB30.out : Below w.heap.size w w41)); clear HO_3; clear HO_7; clear BK164; clear HB; have HO_3 := n0_; have HO_7 := n1_; have BK164 := n2_; have HB := n3_; clear n0_ n1_ n2_ n3_; clear hg hw hp_; have hcz42_0 : w41.cell? ⟨gb164, 0, none⟩ = some (.string ((rd_T29 l0 x5_1).f0)) := (blk_cell BK164.out 0).trans rfl; have hcz42_1 : w41.cell? ⟨gb164, 1, none⟩ = some (.string ((rd_T29 l0 x5_1).f1)) := (blk_cell BK164.out 1).trans rfl; have hcz42_2 : w41.cell? ⟨gb164, 2, none⟩ = some (.string ((rd_T29 l0 x5_1).f2)) := (blk_cell BK164.out 2).trans rfl; have hcz42_3 : w41.cell? ⟨gb164, 3, none⟩ = some (.int .u64 ((rd_T29 l0 x5_1).f3)) := (blk_cell BK164.out 3).trans rfl; have hcz42_4 : w41.cell? ⟨gb164, 4, none⟩ = some (.int .u64 ((rd_T29 l0 x5_1).f4)) := (blk_cell BK164.out 4).trans rfl; have hcz42_5 : w41.cell? ⟨gb164, 5, none⟩ = some (.slice A163_5 ((rd_T29 l0 x5_1).f5).length c163_5) := (blk_cell BK164.out 5).trans rfl; have hcz42_6 : w41.cell? ⟨gb164, 6, none⟩ = some (.int .i64 ((rd_T29 l0 x5_1).f6)) := (blk_cell BK164.out 6).trans rfl; have hfz42_0 := blk_frozen BK164.out 0; have hfz42_1 := blk_frozen BK164.out 1; have hfz42_2 := blk_frozen BK164.out 2; have hfz42_3 := blk_frozen BK164.out 3; have hfz42_4 := blk_frozen BK164.out 4; have hfz42_5 := blk_frozen BK164.out 5; have hfz42_6 := blk_frozen BK164.out 6))
                    go_roundg k4
                    case measure => have := HK1.out; have := HJ10.out; have := HJ15.out; have := HK4.out; omega
                    case rel => exact ⟨(y168), (wrap64 (x8_4 + 1)), (by first | rfl | (simp; done) | (simp [*]; done)), H', ⟨by have := HK1.out; have := HJ10.out; have := HJ15.out; have := HK4.out; omega⟩, ⟨by (with_reducible repeat (first | apply Kd.S_alloc | apply Kd.S_drewN | apply Kd.S_drew)); exact Kd.S_mono HO_3.out (fun _ hk => ⟨hk.2, hk.1⟩)⟩, ⟨by (with_reducible repeat (first | apply Kd.R_alloc | apply Kd.R_drewN | apply Kd.R_drew)); exact HO_7.out⟩, ⟨by (with_reducible repeat (first | refine blk_drewN ?_ _ | refine blk_drew ?_ | refine blk_alloc ?_ _)); exact BK164.out⟩, ⟨by repeat (first | (with_reducible first | exact HB.out | apply below_alloc | apply pw_below_drewN | apply below_drew1 | refine below_set ?_ GE164.out) | exact HB.out)⟩⟩
                  ·rw [if_neg c29] at H
                   exact absurd H (by simp)
                 ·rw [if_neg c28] at H
                  have c28b0 : decide (x8_4 < (x7_4.length : Int)) = false := decide_eq_false c28
                  clear c28
                  by_cases c43 : 0 ≤ (((rd_T29 l0 x5_1).f5).length : Int)
                  ·rw [if_pos c43] at H
                   have c43b0 := eq_true c43
                   have c43b1 : decide (0 ≤ (((rd_T29 l0 x5_1).f5).length : Int)) = true := decide_eq_true c43
                   clear c43
                   by_cases c44 : (((rd_T29 l0 x5_1).f5).length : Int) ≤ (x7_4.length : Int)
                   ·rw [if_pos c44] at H
                    have c44b0 := eq_true c44
                    have c44b1 : decide ((((rd_T29 l0 x5_1).f5).length : Int) ≤ (x7_4.length : Int)) = true := decide_eq_true c44
                    clear c44
                    obtain ⟨y171, hy171⟩ : ∃ y_ : List ByteArray, y_ = (x7_4.take ((((rd_T29 l0 x5_1).f5).length : Int) : Int).toNat) := ⟨_, rfl⟩
                    replace H : ((chars_Join.f k4 y171 ((rd_T29 l0 x5_1).f1)).bind fun bt176 => ((chars_Cat.f k4 (x7_4.take ((((rd_T29 l0 x5_1).f5).length : Int) : Int).toNat)).bind fun bt183 => ((chars_Join.f k4 ((rd_T29 l0 x5_1).f5) ((rd_T29 l0 x5_1).f1)).bind fun bt185 => (if bt176.1.toList = bt185.1.toList then (if bt176.2 = bt185.2 then (if bt183.2 = 0 then (if ((rd_T29 l0 x5_1).f1).toList = ([] : List UInt8) then (abacuslaw20_CharsKeeps.j4 k4 l0 x3_1 (wrap64 (x4_1 + (((rd_T29 l0 x5_1).f0).size : Int))) x5_1 x7_4 (bt183.1.toList != bt176.1.toList) ((rd_T29 l0 x5_1).f0) ((rd_T29 l0 x5_1).f1) ((rd_T29 l0 x5_1).f2) ((rd_T29 l0 x5_1).f3) ((rd_T29 l0 x5_1).f4) ((rd_T29 l0 x5_1).f5) ((rd_T29 l0 x5_1).f6)) else (abacuslaw20_CharsKeeps.j4 k4 l0 x3_1 (wrap64 (x4_1 + (((rd_T29 l0 x5_1).f0).size : Int))) x5_1 x7_4 false ((rd_T29 l0 x5_1).f0) ((rd_T29 l0 x5_1).f1) ((rd_T29 l0 x5_1).f2) ((rd_T29 l0 x5_1).f3) ((rd_T29 l0 x5_1).f4) ((rd_T29 l0 x5_1).f5) ((rd_T29 l0 x5_1).f6))) else (abacuslaw20_CharsKeeps.j4 k4 l0 x3_1 (wrap64 (x4_1 + (((rd_T29 l0 x5_1).f0).size : Int))) x5_1 x7_4 false ((rd_T29 l0 x5_1).f0) ((rd_T29 l0 x5_1).f1) ((rd_T29 l0 x5_1).f2) ((rd_T29 l0 x5_1).f3) ((rd_T29 l0 x5_1).f4) ((rd_T29 l0 x5_1).f5) ((rd_T29 l0 x5_1).f6))) else (abacuslaw20_CharsKeeps.j4 k4 l0 x3_1 (wrap64 (x4_1 + (((rd_T29 l0 x5_1).f0).size : Int))) x5_1 x7_4 true ((rd_T29 l0 x5_1).f0) ((rd_T29 l0 x5_1).f1) ((rd_T29 l0 x5_1).f2) ((rd_T29 l0 x5_1).f3) ((rd_T29 l0 x5_1).f4) ((rd_T29 l0 x5_1).f5) ((rd_T29 l0 x5_1).f6))) else (abacuslaw20_CharsKeeps.j4 k4 l0 x3_1 (wrap64 (x4_1 + (((rd_T29 l0 x5_1).f0).size : Int))) x5_1 x7_4 true ((rd_T29 l0 x5_1).f0) ((rd_T29 l0 x5_1).f1) ((rd_T29 l0 x5_1).f2) ((rd_T29 l0 x5_1).f3) ((rd_T29 l0 x5_1).f4) ((rd_T29 l0 x5_1).f5) ((rd_T29 l0 x5_1).f6)))))) = some true := by first | (rw [hy171]; with_reducible exact H) | (have H2_ := (Option.bind_some _ _).symm.trans H; rw [hy171]; with_reducible exact H2_) | (have H2_ := (Option.bind_some _ _).symm.trans H; with_reducible exact H2_) | with_reducible exact H | (rw [hy171]; exact H) | exact H
                    have Ny171 := Aside0.mk hy171
                    clear hy171
                    replace H := Option.bind_eq_some_iff.mp H
                    obtain ⟨⟨t176, t177⟩, A450, H⟩ := H
                    replace H : ((chars_Cat.f k4 (x7_4.take ((((rd_T29 l0 x5_1).f5).length : Int) : Int).toNat)).bind fun bt183 => ((chars_Join.f k4 ((rd_T29 l0 x5_1).f5) ((rd_T29 l0 x5_1).f1)).bind fun bt185 => (if t176.toList = bt185.1.toList then (if t177 = bt185.2 then (if bt183.2 = 0 then (if ((rd_T29 l0 x5_1).f1).toList = ([] : List UInt8) then (abacuslaw20_CharsKeeps.j4 k4 l0 x3_1 (wrap64 (x4_1 + (((rd_T29 l0 x5_1).f0).size : Int))) x5_1 x7_4 (bt183.1.toList != t176.toList) ((rd_T29 l0 x5_1).f0) ((rd_T29 l0 x5_1).f1) ((rd_T29 l0 x5_1).f2) ((rd_T29 l0 x5_1).f3) ((rd_T29 l0 x5_1).f4) ((rd_T29 l0 x5_1).f5) ((rd_T29 l0 x5_1).f6)) else (abacuslaw20_CharsKeeps.j4 k4 l0 x3_1 (wrap64 (x4_1 + (((rd_T29 l0 x5_1).f0).size : Int))) x5_1 x7_4 false ((rd_T29 l0 x5_1).f0) ((rd_T29 l0 x5_1).f1) ((rd_T29 l0 x5_1).f2) ((rd_T29 l0 x5_1).f3) ((rd_T29 l0 x5_1).f4) ((rd_T29 l0 x5_1).f5) ((rd_T29 l0 x5_1).f6))) else (abacuslaw20_CharsKeeps.j4 k4 l0 x3_1 (wrap64 (x4_1 + (((rd_T29 l0 x5_1).f0).size : Int))) x5_1 x7_4 false ((rd_T29 l0 x5_1).f0) ((rd_T29 l0 x5_1).f1) ((rd_T29 l0 x5_1).f2) ((rd_T29 l0 x5_1).f3) ((rd_T29 l0 x5_1).f4) ((rd_T29 l0 x5_1).f5) ((rd_T29 l0 x5_1).f6))) else (abacuslaw20_CharsKeeps.j4 k4 l0 x3_1 (wrap64 (x4_1 + (((rd_T29 l0 x5_1).f0).size : Int))) x5_1 x7_4 true ((rd_T29 l0 x5_1).f0) ((rd_T29 l0 x5_1).f1) ((rd_T29 l0 x5_1).f2) ((rd_T29 l0 x5_1).f3) ((rd_T29 l0 x5_1).f4) ((rd_T29 l0 x5_1).f5) ((rd_T29 l0 x5_1).f6))) else (abacuslaw20_CharsKeeps.j4 k4 l0 x3_1 (wrap64 (x4_1 + (((rd_T29 l0 x5_1).f0).size : Int))) x5_1 x7_4 true ((rd_T29 l0 x5_1).f0) ((rd_T29 l0 x5_1).f1) ((rd_T29 l0 x5_1).f2) ((rd_T29 l0 x5_1).f3) ((rd_T29 l0 x5_1).f4) ((rd_T29 l0 x5_1).f5) ((rd_T29 l0 x5_1).f6))))) = some true := H
                    have A45 := Aside0.mk A450
                    clear A450
                    have c46b0 := eq_true (of_decide_eq_true (by first | (with_reducible assumption) | assumption) : 0 ≤ (((rd_T29 l0 x5_1).f5).length : Int))
                    have c47b0 := eq_true (of_decide_eq_true (by first | (with_reducible assumption) | assumption) : (((rd_T29 l0 x5_1).f5).length : Int) ≤ (x7_4.length : Int))
                    obtain ⟨y178, hy178⟩ : ∃ y_ : List ByteArray, y_ = (x7_4.take ((((rd_T29 l0 x5_1).f5).length : Int) : Int).toNat) := ⟨_, rfl⟩
                    replace H : ((chars_Cat.f k4 y178).bind fun bt183 => ((chars_Join.f k4 ((rd_T29 l0 x5_1).f5) ((rd_T29 l0 x5_1).f1)).bind fun bt185 => (if t176.toList = bt185.1.toList then (if t177 = bt185.2 then (if bt183.2 = 0 then (if ((rd_T29 l0 x5_1).f1).toList = ([] : List UInt8) then (abacuslaw20_CharsKeeps.j4 k4 l0 x3_1 (wrap64 (x4_1 + (((rd_T29 l0 x5_1).f0).size : Int))) x5_1 x7_4 (bt183.1.toList != t176.toList) ((rd_T29 l0 x5_1).f0) ((rd_T29 l0 x5_1).f1) ((rd_T29 l0 x5_1).f2) ((rd_T29 l0 x5_1).f3) ((rd_T29 l0 x5_1).f4) ((rd_T29 l0 x5_1).f5) ((rd_T29 l0 x5_1).f6)) else (abacuslaw20_CharsKeeps.j4 k4 l0 x3_1 (wrap64 (x4_1 + (((rd_T29 l0 x5_1).f0).size : Int))) x5_1 x7_4 false ((rd_T29 l0 x5_1).f0) ((rd_T29 l0 x5_1).f1) ((rd_T29 l0 x5_1).f2) ((rd_T29 l0 x5_1).f3) ((rd_T29 l0 x5_1).f4) ((rd_T29 l0 x5_1).f5) ((rd_T29 l0 x5_1).f6))) else (abacuslaw20_CharsKeeps.j4 k4 l0 x3_1 (wrap64 (x4_1 + (((rd_T29 l0 x5_1).f0).size : Int))) x5_1 x7_4 false ((rd_T29 l0 x5_1).f0) ((rd_T29 l0 x5_1).f1) ((rd_T29 l0 x5_1).f2) ((rd_T29 l0 x5_1).f3) ((rd_T29 l0 x5_1).f4) ((rd_T29 l0 x5_1).f5) ((rd_T29 l0 x5_1).f6))) else (abacuslaw20_CharsKeeps.j4 k4 l0 x3_1 (wrap64 (x4_1 + (((rd_T29 l0 x5_1).f0).size : Int))) x5_1 x7_4 true ((rd_T29 l0 x5_1).f0) ((rd_T29 l0 x5_1).f1) ((rd_T29 l0 x5_1).f2) ((rd_T29 l0 x5_1).f3) ((rd_T29 l0 x5_1).f4) ((rd_T29 l0 x5_1).f5) ((rd_T29 l0 x5_1).f6))) else (abacuslaw20_CharsKeeps.j4 k4 l0 x3_1 (wrap64 (x4_1 + (((rd_T29 l0 x5_1).f0).size : Int))) x5_1 x7_4 true ((rd_T29 l0 x5_1).f0) ((rd_T29 l0 x5_1).f1) ((rd_T29 l0 x5_1).f2) ((rd_T29 l0 x5_1).f3) ((rd_T29 l0 x5_1).f4) ((rd_T29 l0 x5_1).f5) ((rd_T29 l0 x5_1).f6))))) = some true := by first | (rw [hy178]; with_reducible exact H) | (have H2_ := (Option.bind_some _ _).symm.trans H; rw [hy178]; with_reducible exact H2_) | (have H2_ := (Option.bind_some _ _).symm.trans H; with_reducible exact H2_) | with_reducible exact H | (rw [hy178]; exact H) | exact H
                    have Ny178 := Aside0.mk hy178
                    clear hy178
                    replace H := Option.bind_eq_some_iff.mp H
                    obtain ⟨⟨t183, t184⟩, A480, H⟩ := H
                    replace H : ((chars_Join.f k4 ((rd_T29 l0 x5_1).f5) ((rd_T29 l0 x5_1).f1)).bind fun bt185 => (if t176.toList = bt185.1.toList then (if t177 = bt185.2 then (if t184 = 0 then (if ((rd_T29 l0 x5_1).f1).toList = ([] : List UInt8) then (abacuslaw20_CharsKeeps.j4 k4 l0 x3_1 (wrap64 (x4_1 + (((rd_T29 l0 x5_1).f0).size : Int))) x5_1 x7_4 (t183.toList != t176.toList) ((rd_T29 l0 x5_1).f0) ((rd_T29 l0 x5_1).f1) ((rd_T29 l0 x5_1).f2) ((rd_T29 l0 x5_1).f3) ((rd_T29 l0 x5_1).f4) ((rd_T29 l0 x5_1).f5) ((rd_T29 l0 x5_1).f6)) else (abacuslaw20_CharsKeeps.j4 k4 l0 x3_1 (wrap64 (x4_1 + (((rd_T29 l0 x5_1).f0).size : Int))) x5_1 x7_4 false ((rd_T29 l0 x5_1).f0) ((rd_T29 l0 x5_1).f1) ((rd_T29 l0 x5_1).f2) ((rd_T29 l0 x5_1).f3) ((rd_T29 l0 x5_1).f4) ((rd_T29 l0 x5_1).f5) ((rd_T29 l0 x5_1).f6))) else (abacuslaw20_CharsKeeps.j4 k4 l0 x3_1 (wrap64 (x4_1 + (((rd_T29 l0 x5_1).f0).size : Int))) x5_1 x7_4 false ((rd_T29 l0 x5_1).f0) ((rd_T29 l0 x5_1).f1) ((rd_T29 l0 x5_1).f2) ((rd_T29 l0 x5_1).f3) ((rd_T29 l0 x5_1).f4) ((rd_T29 l0 x5_1).f5) ((rd_T29 l0 x5_1).f6))) else (abacuslaw20_CharsKeeps.j4 k4 l0 x3_1 (wrap64 (x4_1 + (((rd_T29 l0 x5_1).f0).size : Int))) x5_1 x7_4 true ((rd_T29 l0 x5_1).f0) ((rd_T29 l0 x5_1).f1) ((rd_T29 l0 x5_1).f2) ((rd_T29 l0 x5_1).f3) ((rd_T29 l0 x5_1).f4) ((rd_T29 l0 x5_1).f5) ((rd_T29 l0 x5_1).f6))) else (abacuslaw20_CharsKeeps.j4 k4 l0 x3_1 (wrap64 (x4_1 + (((rd_T29 l0 x5_1).f0).size : Int))) x5_1 x7_4 true ((rd_T29 l0 x5_1).f0) ((rd_T29 l0 x5_1).f1) ((rd_T29 l0 x5_1).f2) ((rd_T29 l0 x5_1).f3) ((rd_T29 l0 x5_1).f4) ((rd_T29 l0 x5_1).f5) ((rd_T29 l0 x5_1).f6)))) = some true := H
                    have A48 := Aside0.mk A480
                    clear A480
                    replace H := Option.bind_eq_some_iff.mp H
                    obtain ⟨⟨t185, t186⟩, A490, H⟩ := H
                    replace H : (if t176.toList = t185.toList then (if t177 = t186 then (if t184 = 0 then (if ((rd_T29 l0 x5_1).f1).toList = ([] : List UInt8) then (abacuslaw20_CharsKeeps.j4 k4 l0 x3_1 (wrap64 (x4_1 + (((rd_T29 l0 x5_1).f0).size : Int))) x5_1 x7_4 (t183.toList != t176.toList) ((rd_T29 l0 x5_1).f0) ((rd_T29 l0 x5_1).f1) ((rd_T29 l0 x5_1).f2) ((rd_T29 l0 x5_1).f3) ((rd_T29 l0 x5_1).f4) ((rd_T29 l0 x5_1).f5) ((rd_T29 l0 x5_1).f6)) else (abacuslaw20_CharsKeeps.j4 k4 l0 x3_1 (wrap64 (x4_1 + (((rd_T29 l0 x5_1).f0).size : Int))) x5_1 x7_4 false ((rd_T29 l0 x5_1).f0) ((rd_T29 l0 x5_1).f1) ((rd_T29 l0 x5_1).f2) ((rd_T29 l0 x5_1).f3) ((rd_T29 l0 x5_1).f4) ((rd_T29 l0 x5_1).f5) ((rd_T29 l0 x5_1).f6))) else (abacuslaw20_CharsKeeps.j4 k4 l0 x3_1 (wrap64 (x4_1 + (((rd_T29 l0 x5_1).f0).size : Int))) x5_1 x7_4 false ((rd_T29 l0 x5_1).f0) ((rd_T29 l0 x5_1).f1) ((rd_T29 l0 x5_1).f2) ((rd_T29 l0 x5_1).f3) ((rd_T29 l0 x5_1).f4) ((rd_T29 l0 x5_1).f5) ((rd_T29 l0 x5_1).f6))) else (abacuslaw20_CharsKeeps.j4 k4 l0 x3_1 (wrap64 (x4_1 + (((rd_T29 l0 x5_1).f0).size : Int))) x5_1 x7_4 true ((rd_T29 l0 x5_1).f0) ((rd_T29 l0 x5_1).f1) ((rd_T29 l0 x5_1).f2) ((rd_T29 l0 x5_1).f3) ((rd_T29 l0 x5_1).f4) ((rd_T29 l0 x5_1).f5) ((rd_T29 l0 x5_1).f6))) else (abacuslaw20_CharsKeeps.j4 k4 l0 x3_1 (wrap64 (x4_1 + (((rd_T29 l0 x5_1).f0).size : Int))) x5_1 x7_4 true ((rd_T29 l0 x5_1).f0) ((rd_T29 l0 x5_1).f1) ((rd_T29 l0 x5_1).f2) ((rd_T29 l0 x5_1).f3) ((rd_T29 l0 x5_1).f4) ((rd_T29 l0 x5_1).f5) ((rd_T29 l0 x5_1).f6))) = some true := H
                    have A49 := Aside0.mk A490
                    clear A490
                    have HC50 := Aside0.mk H
                    clear H
                    obtain ⟨Ao51, co51, eo51⟩ := Kd.R_slice HO_7.out
                    subst eo51
                    try go_wp2
                    have n0_ := Aside0.mk (Kd.S_drew HO_3.out)
                    have n1_ := Aside0.mk (Kd.R_drew HO_7.out)
                    have n2_ := Aside0.mk (blk_drew BK164.out)
                    have n3_ := Aside0.mk (below_drew1 HB.out)
                    clear HO_3
                    clear HO_7
                    clear BK164
                    clear HB
                    have HO_3 := n0_
                    have HO_7 := n1_
                    have BK164 := n2_
                    have HB := n3_
                    clear n0_ n1_ n2_ n3_
                    have q53 : ((((rd_T29 l0 x5_1).f5).length : Int) : Int) ≤ ((x7_4.length : Int) : Int) := of_decide_eq_true (by first | (with_reducible assumption) | assumption)
                    obtain ⟨i053, hi053, _, hsz53, _⟩ := info_parts info9
                    have hroom53 : x7_4.length ≤ co51 := (Kd.R_reads' HO_7.out).2.1
                    have hC53 : Kd.F Kd.string _ _ Ao51 x7_4.length x7_4 := (Kd.V_at (base := w.heap.size) (Kd.R_V (Kd.R_types (Kd.R_apart' (HO_7.out) (Kd.S_typed HO_3.out) (by decide)) BK164.out (by decide)))).2.2
                    have hcut53 := cut_to (P := Tryd.prog) 24 9 .i64 Tryd.underlying24 hi053 Ao51 x7_4.length co51 (((rd_T29 l0 x5_1).f5).length : Int) (of_decide_eq_true (by first | (with_reducible assumption) | assumption)) q53 hroom53
                    have hr53 := Kd.F_take (m := ((((rd_T29 l0 x5_1).f5).length : Int) : Int).toNat) hC53 (by omega)
                    have hy53 : y171.length = ((((rd_T29 l0 x5_1).f5).length : Int) : Int).toNat := (by rw [Ny171.out, List.length_take]; omega)
                    rw [← Ny171.out] at hr53
                    rw [← hy53] at hcut53
                    have HO175 := Aside0.mk (show Kd.V Kd.string 9 _ w.heap.size _ (.slice Ao51 y171.length co51) y171 from Kd.V_mk (by omega) hr53)
                    have HC175 := Aside0.mk (show y171.length ≤ co51 from by omega)
                    clear hr53 hC53 hroom53 hi053 hsz53
                    have KY53 := Aside0.mk hy53
                    clear hy53
                    replace q53 := eq_true q53
                    refine start_ (n := 13) (S := fun w' => w'.cell? ⟨gb164, 0, none⟩ = some (.string ((rd_T29 l0 x5_1).f0)) ∧ w'.cell? ⟨gb164, 1, none⟩ = some (.string ((rd_T29 l0 x5_1).f1)) ∧ w'.cell? ⟨gb164, 2, none⟩ = some (.string ((rd_T29 l0 x5_1).f2)) ∧ w'.cell? ⟨gb164, 3, none⟩ = some (.int .u64 ((rd_T29 l0 x5_1).f3)) ∧ w'.cell? ⟨gb164, 4, none⟩ = some (.int .u64 ((rd_T29 l0 x5_1).f4)) ∧ w'.cell? ⟨gb164, 5, none⟩ = some (.slice A163_5 ((rd_T29 l0 x5_1).f5).length c163_5) ∧ w'.cell? ⟨gb164, 6, none⟩ = some (.int .i64 ((rd_T29 l0 x5_1).f6))) (ds := []) #[false, false, false, false, false, false, false, false, false, false, false, false, false] (by kernel_rfl) rfl rfl ⟨(blk_cell BK164.out 0).trans rfl, (blk_cell BK164.out 1).trans rfl, (blk_cell BK164.out 2).trans rfl, (blk_cell BK164.out 3).trans rfl, (blk_cell BK164.out 4).trans rfl, (blk_cell BK164.out 5).trans rfl, (blk_cell BK164.out 6).trans rfl⟩ (fun hHeld => ?_); refine with_tabW abacuslaw20_CharsKeeps.tab18 abacuslaw20_CharsKeeps.bits18 (fun HT_ HW_ => ?_)
                    generalize wr.drew = w52 at HO_3 HO_7 BK164 HB HO175 hHeld ⊢
                    refine pure_ (i := 0) (N := some 76) (v := ?_) (a' := ?_) #[true, false, false, false, false, false, false, false, false, false, false, false, false] rfl rfl (any_of HT_.out (by kernel_rfl)) (fun _ _ _ h => h) (Or.inl ⟨by rfl, ?_⟩) ?_ ?_
                    rotate_left
                    ·intro w'
                     go_simp
                     with_reducible rfl
                    rotate_left
                    ·simp only [Act.put, List.setIfInBounds_toArray, List.set_cons_zero, List.set_cons_succ, i64_w, i32_w]
                     rfl
                    refine pure_ (i := 1) (N := some 77) (v := ?_) (a' := ?_) #[true, true, false, false, false, false, false, false, false, false, false, false, false] rfl rfl (any_of HT_.out (by kernel_rfl)) (fun _ _ _ h => h) (Or.inl ⟨by rfl, ?_⟩) ?_ ?_
                    rotate_left
                    ·intro w'
                     go_simp
                     with_reducible rfl
                    rotate_left
                    ·simp only [Act.put, List.setIfInBounds_toArray, List.set_cons_zero, List.set_cons_succ, i64_w, i32_w]
                     rfl
                    refine pure_ (i := 5) (N := some 81) (v := ?_) (a' := ?_) #[true, true, false, false, false, true, false, false, false, false, false, false, false] rfl rfl (any_of HT_.out (by kernel_rfl)) (fun _ _ _ h => h) (Or.inl ⟨by rfl, ?_⟩) ?_ ?_
                    rotate_left
                    ·intro w'
                     go_simp
                     with_reducible rfl
                    rotate_left
                    ·simp only [Act.put, List.setIfInBounds_toArray, List.set_cons_zero, List.set_cons_succ, i64_w, i32_w]
                     rfl
                    refine take_ (i := 2) (N := some 78) (v := ?_) (a' := ?_) #[true, true, true, false, false, true, false, false, false, false, false, false, false] rfl rfl (take_ofW HT_.out HW_.out (by kernel_rfl)) (fun _ _ _ h => h) (Or.inl ⟨by rfl, ?_⟩) hHeld ?_ ?_
                    rotate_left
                    ·rintro w' ⟨s0, s1, s2, s3, s4, s5, s6⟩
                     go_simp
                     with_reducible rfl
                    rotate_left
                    ·simp only [Act.put, List.setIfInBounds_toArray, List.set_cons_zero, List.set_cons_succ, i64_w, i32_w]
                     rfl
                    refine pure_ (i := 3) (N := some 79) (v := ?_) (a' := ?_) #[true, true, true, true, false, true, false, false, false, false, false, false, false] rfl rfl (any_of HT_.out (by kernel_rfl)) (fun _ _ _ h => h) (Or.inl ⟨by rfl, ?_⟩) ?_ ?_
                    rotate_left
                    ·intro w'
                     go_simp
                     with_reducible rfl
                    rotate_left
                    ·simp only [Act.put, List.setIfInBounds_toArray, List.set_cons_zero, List.set_cons_succ, i64_w, i32_w]
                     rfl
                    refine pure_ (i := 4) (N := some 80) (v := ?_) (a' := ?_) #[true, true, true, true, true, true, false, false, false, false, false, false, false] rfl rfl (any_of HT_.out (by kernel_rfl)) (fun _ _ _ h => h) (Or.inl ⟨by rfl, ?_⟩) ?_ ?_
                    rotate_left
                    ·intro w'
                     go_simp
                     with_reducible rfl
                    rotate_left
                    ·simp only [Act.put, List.setIfInBounds_toArray, List.set_cons_zero, List.set_cons_succ, i64_w, i32_w]
                     rfl
                    refine take_ (i := 6) (N := some 82) (v := ?_) (a' := ?_) #[true, true, true, true, true, true, true, false, false, false, false, false, false] rfl rfl (take_ofW HT_.out HW_.out (by kernel_rfl)) (fun _ _ _ h => h) (Or.inl ⟨by rfl, ?_⟩) hHeld ?_ ?_
                    rotate_left
                    ·rintro w' ⟨s0, s1, s2, s3, s4, s5, s6⟩
                     go_simp
                     with_reducible rfl
                    rotate_left
                    ·simp only [Act.put, List.setIfInBounds_toArray, List.set_cons_zero, List.set_cons_succ, i64_w, i32_w]
                     rfl
                    refine one_ (i := 7) (N := some 83) #[true, true, true, true, true, true, true, true, false, false, false, false, false] rfl rfl (one_of HT_.out (by kernel_rfl)) (by decide) (fun K hK => ?_)
                    refine goes_ Tryd.func13 (by kernel_rfl) rfl #[.slice Ao51 y171.length co51, .string ((rd_T29 l0 x5_1).f1)] (by rfl) rfl rfl (by (try simp only [List.map_toArray, List.map_cons, List.map_nil]); first | done | rfl | (simp only [List.length_drop, List.length_take]; rfl)) ?_
                    with_reducible refine (chars_Join.calls k4 _ _ y171 ((rd_T29 l0 x5_1).f1) t176 t177 _ ?side1 ?side2 ?side3 A45.out).mono ?_
                    (case side1 => repeat (first | exact (Kd.V_reads' HO175.out).2.2 | (with_reducible refine Kd.C_alloc ?_ _) | (with_reducible refine Kd.C_drewN ?_ _) | (with_reducible refine Kd.C_drew ?_)))
                    (case side2 => exact (Kd.V_reads' HO175.out).2.1)
                    (case side3 => exact GW.below HG.out (by repeat (first | (with_reducible first | exact HB.out | apply below_alloc | apply pw_below_drewN | apply below_drew1 | refine below_set ?_ GE164.out) | exact HB.out)))
                    rintro e w54 ⟨rfl, hb⟩
                    refine ⟨_, rfl, ?_⟩
                    have n0_ := Aside0.mk (Kd.S_below (by (with_reducible repeat (first | apply Kd.S_alloc | apply Kd.S_drewN | apply Kd.S_drew)); exact HO_3.out) hb)
                    have n1_ := Aside0.mk (Kd.R_below (by (with_reducible repeat (first | apply Kd.R_alloc | apply Kd.R_drewN | apply Kd.R_drew)); exact HO_7.out) hb)
                    have n2_ := Aside0.mk (Kd.V_below (by (with_reducible repeat (first | apply Kd.V_alloc | apply Kd.V_drewN | apply Kd.V_drew)); exact HO175.out) hb)
                    have n3_ := Aside0.mk (blk_below (g := gb164) (o := .cells #[.string ((rd_T29 l0 x5_1).f0), .string ((rd_T29 l0 x5_1).f1), .string ((rd_T29 l0 x5_1).f2), .int .u64 ((rd_T29 l0 x5_1).f3), .int .u64 ((rd_T29 l0 x5_1).f4), .slice A163_5 ((rd_T29 l0 x5_1).f5).length c163_5, .int .i64 ((rd_T29 l0 x5_1).f6)] 29 (0, 0)) (by (with_reducible repeat (first | refine blk_drewN ?_ _ | refine blk_drew ?_ | refine blk_alloc ?_ _)); exact BK164.out) hb)
                    have n4_ := Aside0.mk (below_step (by repeat (first | (with_reducible first | exact HB.out | apply below_alloc | apply pw_below_drewN | apply below_drew1 | refine below_set ?_ GE164.out) | exact HB.out)) hb)
                    clear HO_3
                    clear HO_7
                    clear HO175
                    clear BK164
                    clear HB
                    have HO_3 := n0_
                    have HO_7 := n1_
                    have HO175 := n2_
                    have BK164 := n3_
                    have HB := n4_
                    clear n0_ n1_ n2_ n3_ n4_
                    (try clear hb)
                    (try clear hb2)
                    (try clear hk)
                    (try clear hi)
                    refine hK.out _ _ ⟨(blk_cell BK164.out 0).trans rfl, (blk_cell BK164.out 1).trans rfl, (blk_cell BK164.out 2).trans rfl, (blk_cell BK164.out 3).trans rfl, (blk_cell BK164.out 4).trans rfl, (blk_cell BK164.out 5).trans rfl, (blk_cell BK164.out 6).trans rfl⟩ (fun hHeld => ?_)
                    clear hK K
                    refine norm_ (a' := ?_) ?_ ?_
                    rotate_left
                    ·show Act.put _ (some 83) _ = _
                     simp only [Act.put, List.setIfInBounds_toArray, List.set_cons_zero, List.set_cons_succ, i64_w, i32_w]
                     rfl
                    refine pure_ (i := 8) (N := some 75) (v := ?_) (a' := ?_) #[true, true, true, true, true, true, true, true, true, false, false, false, false] rfl rfl (any_of HT_.out (by kernel_rfl)) (fun _ _ _ h => h) (Or.inl ⟨by rfl, ?_⟩) ?_ ?_
                    rotate_left
                    ·intro w'
                     go_simp
                     with_reducible rfl
                    rotate_left
                    ·simp only [Act.put, List.setIfInBounds_toArray, List.set_cons_zero, List.set_cons_succ, i64_w, i32_w]
                     rfl
                    refine pure_ (i := 9) (N := some 84) (v := ?_) (a' := ?_) #[true, true, true, true, true, true, true, true, true, true, false, false, false] rfl rfl (any_of HT_.out (by kernel_rfl)) (fun _ _ _ h => h) (Or.inl ⟨by rfl, ?_⟩) ?_ ?_
                    rotate_left
                    ·intro w'
                     go_simp
                     with_reducible rfl
                    rotate_left
                    ·simp only [Act.put, List.setIfInBounds_toArray, List.set_cons_zero, List.set_cons_succ, i64_w, i32_w]
                     rfl
                    refine pure_ (i := 10) (N := some 85) (v := ?_) (a' := ?_) #[true, true, true, true, true, true, true, true, true, true, true, false, false] rfl rfl (any_of HT_.out (by kernel_rfl)) (fun _ _ _ h => h) (Or.inl ⟨by rfl, ?_⟩) ?_ ?_
                    rotate_left
                    ·intro w'
                     go_simp
                     with_reducible rfl
                    rotate_left
                    ·simp only [Act.put, List.setIfInBounds_toArray, List.set_cons_zero, List.set_cons_succ, i64_w, i32_w]
                     rfl
                    refine pure_ (i := 11) (N := some 9) (v := ?_) (a' := ?_) #[true, true, true, true, true, true, true, true, true, true, true, true, false] rfl rfl (any_of HT_.out (by kernel_rfl)) (fun _ _ _ h => h) (Or.inl ⟨by rfl, ?_⟩) ?_ ?_
                    rotate_left
                    ·intro w'
                     go_simp
                     with_reducible rfl
                    rotate_left
                    ·simp only [Act.put, List.setIfInBounds_toArray, List.set_cons_zero, List.set_cons_succ, i64_w, i32_w]
                     rfl
                    refine pure_ (i := 12) (N := some 10) (v := ?_) (a' := ?_) #[true, true, true, true, true, true, true, true, true, true, true, true, true] rfl rfl (any_of HT_.out (by kernel_rfl)) (fun _ _ _ h => h) (Or.inl ⟨by rfl, ?_⟩) ?_ ?_
                    rotate_left
                    ·intro w'
                     go_simp
                     with_reducible rfl
                    rotate_left
                    ·simp only [Act.put, List.setIfInBounds_toArray, List.set_cons_zero, List.set_cons_succ, i64_w, i32_w]
                     rfl
                    refine done_ (done_of HT_.out (by kernel_rfl)) ?_
                    have hcz55_0 : w54.cell? ⟨gb164, 0, none⟩ = some (.string ((rd_T29 l0 x5_1).f0)) := (blk_cell BK164.out 0).trans rfl
                    have hcz55_1 : w54.cell? ⟨gb164, 1, none⟩ = some (.string ((rd_T29 l0 x5_1).f1)) := (blk_cell BK164.out 1).trans rfl
                    have hcz55_2 : w54.cell? ⟨gb164, 2, none⟩ = some (.string ((rd_T29 l0 x5_1).f2)) := (blk_cell BK164.out 2).trans rfl
                    have hcz55_3 : w54.cell? ⟨gb164, 3, none⟩ = some (.int .u64 ((rd_T29 l0 x5_1).f3)) := (blk_cell BK164.out 3).trans rfl
                    have hcz55_4 : w54.cell? ⟨gb164, 4, none⟩ = some (.int .u64 ((rd_T29 l0 x5_1).f4)) := (blk_cell BK164.out 4).trans rfl
                    have hcz55_5 : w54.cell? ⟨gb164, 5, none⟩ = some (.slice A163_5 ((rd_T29 l0 x5_1).f5).length c163_5) := (blk_cell BK164.out 5).trans rfl
                    have hcz55_6 : w54.cell? ⟨gb164, 6, none⟩ = some (.int .i64 ((rd_T29 l0 x5_1).f6)) := (blk_cell BK164.out 6).trans rfl
                    have hfz55_0 := blk_frozen BK164.out 0
                    have hfz55_1 := blk_frozen BK164.out 1
                    have hfz55_2 := blk_frozen BK164.out 2
                    have hfz55_3 := blk_frozen BK164.out 3
                    have hfz55_4 := blk_frozen BK164.out 4
                    have hfz55_5 := blk_frozen BK164.out 5
                    have hfz55_6 := blk_frozen BK164.out 6
                    have q56 : ((((rd_T29 l0 x5_1).f5).length : Int) : Int) ≤ ((x7_4.length : Int) : Int) := of_decide_eq_true (by first | (with_reducible assumption) | assumption)
                    obtain ⟨i056, hi056, _, hsz56, _⟩ := info_parts info9
                    have hroom56 : x7_4.length ≤ co51 := (Kd.R_reads' HO_7.out).2.1
                    have hC56 : Kd.F Kd.string _ _ Ao51 x7_4.length x7_4 := (Kd.V_at (base := w.heap.size) (Kd.R_V (Kd.R_types (Kd.R_apart' (HO_7.out) (Kd.S_typed HO_3.out) (by decide)) BK164.out (by decide)))).2.2
                    try clear hcut53
                    have hcut56 := cut_to (P := Tryd.prog) 24 9 .i64 Tryd.underlying24 hi056 Ao51 x7_4.length co51 (((rd_T29 l0 x5_1).f5).length : Int) (of_decide_eq_true (by first | (with_reducible assumption) | assumption)) q56 hroom56
                    have hr56 := Kd.F_take (m := ((((rd_T29 l0 x5_1).f5).length : Int) : Int).toNat) hC56 (by omega)
                    have hy56 : y178.length = ((((rd_T29 l0 x5_1).f5).length : Int) : Int).toNat := (by rw [Ny178.out, List.length_take]; omega)
                    rw [← Ny178.out] at hr56
                    rw [← hy56] at hcut56
                    have HO182 := Aside0.mk (show Kd.V Kd.string 9 _ w.heap.size _ (.slice Ao51 y178.length co51) y178 from Kd.V_mk (by omega) hr56)
                    have HC182 := Aside0.mk (show y178.length ≤ co51 from by omega)
                    clear hr56 hC56 hroom56 hi056 hsz56
                    have KY56 := Aside0.mk hy56
                    clear hy56
                    replace q56 := eq_true q56
                    go_upto_region 21 with (first | ((with_reducible refine gate_callee (f := 14) rfl ?_); refine goesL_ (some 92) rfl rfl Tryd.func14 (by kernel_rfl) rfl #[.slice Ao51 y178.length co51] rfl (by (try simp only [List.map_toArray, List.map_cons, List.map_nil]); first | done | rfl | (simp only [List.length_drop, List.length_take]; rfl)) ?_; (with_reducible refine (chars_Cat.calls k4 _ _ y178 t183 t184 _ ?side1 ?side2 ?side3 A48.out).mono ?_); (case side1 => repeat (first | exact (Kd.V_reads' HO182.out).2.2 | (with_reducible refine Kd.C_alloc ?_ _) | (with_reducible refine Kd.C_drewN ?_ _) | (with_reducible refine Kd.C_drew ?_))); (case side2 => exact (Kd.V_reads' HO182.out).2.1); (case side3 => exact GW.below HG.out (by repeat (first | (with_reducible first | exact HB.out | apply below_alloc | apply pw_below_drewN | apply below_drew1 | refine below_set ?_ GE164.out) | exact HB.out))); rintro e w57 ⟨rfl, hb⟩; refine ⟨_, rfl, ?_⟩; have n0_ := Aside0.mk (Kd.S_below (by (with_reducible repeat (first | apply Kd.S_alloc | apply Kd.S_drewN | apply Kd.S_drew)); exact HO_3.out) hb); have n1_ := Aside0.mk (Kd.R_below (by (with_reducible repeat (first | apply Kd.R_alloc | apply Kd.R_drewN | apply Kd.R_drew)); exact HO_7.out) hb); have n2_ := Aside0.mk (Kd.V_below (by (with_reducible repeat (first | apply Kd.V_alloc | apply Kd.V_drewN | apply Kd.V_drew)); exact HO175.out) hb); have n3_ := Aside0.mk (Kd.V_below (by (with_reducible repeat (first | apply Kd.V_alloc | apply Kd.V_drewN | apply Kd.V_drew)); exact HO182.out) hb); have n4_ := Aside0.mk (blk_below (g := gb164) (o := .cells #[.string ((rd_T29 l0 x5_1).f0), .string ((rd_T29 l0 x5_1).f1), .string ((rd_T29 l0 x5_1).f2), .int .u64 ((rd_T29 l0 x5_1).f3), .int .u64 ((rd_T29 l0 x5_1).f4), .slice A163_5 ((rd_T29 l0 x5_1).f5).length c163_5, .int .i64 ((rd_T29 l0 x5_1).f6)] 29 (0, 0)) (by (with_reducible repeat (first | refine blk_drewN ?_ _ | refine blk_drew ?_ | refine blk_alloc ?_ _)); exact BK164.out) hb); have n5_ := Aside0.mk (below_step (by repeat (first | (with_reducible first | exact HB.out | apply below_alloc | apply pw_below_drewN | apply below_drew1 | refine below_set ?_ GE164.out) | exact HB.out)) hb); clear HO_3; clear HO_7; clear HO175; clear HO182; clear BK164; clear HB; have HO_3 := n0_; have HO_7 := n1_; have HO175 := n2_; have HO182 := n3_; have BK164 := n4_; have HB := n5_; clear n0_ n1_ n2_ n3_ n4_ n5_; (try clear hb); (try clear hb2); (try clear hk); (try clear hi); have hcz58_0 : w57.cell? ⟨gb164, 0, none⟩ = some (.string ((rd_T29 l0 x5_1).f0)) := (blk_cell BK164.out 0).trans rfl; have hcz58_1 : w57.cell? ⟨gb164, 1, none⟩ = some (.string ((rd_T29 l0 x5_1).f1)) := (blk_cell BK164.out 1).trans rfl; have hcz58_2 : w57.cell? ⟨gb164, 2, none⟩ = some (.string ((rd_T29 l0 x5_1).f2)) := (blk_cell BK164.out 2).trans rfl; have hcz58_3 : w57.cell? ⟨gb164, 3, none⟩ = some (.int .u64 ((rd_T29 l0 x5_1).f3)) := (blk_cell BK164.out 3).trans rfl; have hcz58_4 : w57.cell? ⟨gb164, 4, none⟩ = some (.int .u64 ((rd_T29 l0 x5_1).f4)) := (blk_cell BK164.out 4).trans rfl; have hcz58_5 : w57.cell? ⟨gb164, 5, none⟩ = some (.slice A163_5 ((rd_T29 l0 x5_1).f5).length c163_5) := (blk_cell BK164.out 5).trans rfl; have hcz58_6 : w57.cell? ⟨gb164, 6, none⟩ = some (.int .i64 ((rd_T29 l0 x5_1).f6)) := (blk_cell BK164.out 6).trans rfl; have hfz58_0 := blk_frozen BK164.out 0; have hfz58_1 := blk_frozen BK164.out 1; have hfz58_2 := blk_frozen BK164.out 2; have hfz58_3 := blk_frozen BK164.out 3; have hfz58_4 := blk_frozen BK164.out 4; have hfz58_5 := blk_frozen BK164.out 5; have hfz58_6 := blk_frozen BK164.out 6) | ((with_reducible refine gate_callee (f := 13) rfl ?_); refine goesL_ (some 100) rfl rfl Tryd.func13 (by kernel_rfl) rfl #[.slice A163_5 ((rd_T29 l0 x5_1).f5).length c163_5, .string ((rd_T29 l0 x5_1).f1)] rfl (by (try simp only [List.map_toArray, List.map_cons, List.map_nil]); first | done | rfl | (simp only [List.length_drop, List.length_take]; rfl)) ?_; (with_reducible refine (chars_Join.calls k4 _ _ ((rd_T29 l0 x5_1).f5) ((rd_T29 l0 x5_1).f1) t185 t186 _ ?side1 ?side2 ?side3 A49.out).mono ?_); (case side1 => repeat (first | exact (Kd.C_below HR163_5.out HB.out) | (with_reducible refine Kd.C_alloc ?_ _) | (with_reducible refine Kd.C_drewN ?_ _) | (with_reducible refine Kd.C_drew ?_))); (case side2 => exact HC163_5.out); (case side3 => exact GW.below HG.out (by repeat (first | (with_reducible first | exact HB.out | apply below_alloc | apply pw_below_drewN | apply below_drew1 | refine below_set ?_ GE164.out) | exact HB.out))); rintro e w59 ⟨rfl, hb⟩; refine ⟨_, rfl, ?_⟩; have n0_ := Aside0.mk (Kd.S_below (by (with_reducible repeat (first | apply Kd.S_alloc | apply Kd.S_drewN | apply Kd.S_drew)); exact HO_3.out) hb); have n1_ := Aside0.mk (Kd.R_below (by (with_reducible repeat (first | apply Kd.R_alloc | apply Kd.R_drewN | apply Kd.R_drew)); exact HO_7.out) hb); have n2_ := Aside0.mk (Kd.V_below (by (with_reducible repeat (first | apply Kd.V_alloc | apply Kd.V_drewN | apply Kd.V_drew)); exact HO175.out) hb); have n3_ := Aside0.mk (Kd.V_below (by (with_reducible repeat (first | apply Kd.V_alloc | apply Kd.V_drewN | apply Kd.V_drew)); exact HO182.out) hb); have n4_ := Aside0.mk (blk_below (g := gb164) (o := .cells #[.string ((rd_T29 l0 x5_1).f0), .string ((rd_T29 l0 x5_1).f1), .string ((rd_T29 l0 x5_1).f2), .int .u64 ((rd_T29 l0 x5_1).f3), .int .u64 ((rd_T29 l0 x5_1).f4), .slice A163_5 ((rd_T29 l0 x5_1).f5).length c163_5, .int .i64 ((rd_T29 l0 x5_1).f6)] 29 (0, 0)) (by (with_reducible repeat (first | refine blk_drewN ?_ _ | refine blk_drew ?_ | refine blk_alloc ?_ _)); exact BK164.out) hb); have n5_ := Aside0.mk (below_step (by repeat (first | (with_reducible first | exact HB.out | apply below_alloc | apply pw_below_drewN | apply below_drew1 | refine below_set ?_ GE164.out) | exact HB.out)) hb); clear HO_3; clear HO_7; clear HO175; clear HO182; clear BK164; clear HB; have HO_3 := n0_; have HO_7 := n1_; have HO175 := n2_; have HO182 := n3_; have BK164 := n4_; have HB := n5_; clear n0_ n1_ n2_ n3_ n4_ n5_; (try clear hb); (try clear hb2); (try clear hk); (try clear hi)))
                    (try simp only [Act.put, List.setIfInBounds_toArray, List.set_cons_zero, List.set_cons_succ])
                    go_cut [124] (fun v124 wc => ∃ (kq : Nat) (x124_49 : Bool), v124 = .bool x124_49 ∧ Aside0 (abacuslaw20_CharsKeeps.j4 kq l0 x3_1 (wrap64 (x4_1 + (((rd_T29 l0 x5_1).f0).size : Int))) x5_1 x7_4 x124_49 ((rd_T29 l0 x5_1).f0) ((rd_T29 l0 x5_1).f1) ((rd_T29 l0 x5_1).f2) ((rd_T29 l0 x5_1).f3) ((rd_T29 l0 x5_1).f4) ((rd_T29 l0 x5_1).f5) ((rd_T29 l0 x5_1).f6) = some true) ∧ Aside0 (kq ≤ k4) ∧ Aside0 (Kd.S (Kd.slice 9 Kd.string) 24 wc w.heap.size (fun k_ => some k_ ≠ ((.slice Ao51 x7_4.length co51) : Value).ownBlock ∧ k_ ≠ gb164) u3 x3_1) ∧ Aside0 (Kd.R Kd.string 9 wc w.heap.size (fun _ => True) (.slice Ao51 x7_4.length co51) x7_4) ∧ Aside0 (wc.heap[gb164]? = some (.cells #[.string ((rd_T29 l0 x5_1).f0), .string ((rd_T29 l0 x5_1).f1), .string ((rd_T29 l0 x5_1).f2), .int .u64 ((rd_T29 l0 x5_1).f3), .int .u64 ((rd_T29 l0 x5_1).f4), (.slice A163_5 ((rd_T29 l0 x5_1).f5).length c163_5), .int .i64 ((rd_T29 l0 x5_1).f6)] 29 (0, 0))) ∧ Aside0 (Below w.heap.size w wc))
                    case first =>
                     have H := HC50.out
                     clear HC50
                     by_cases c60 : t176.toList = t185.toList
                     ·rw [if_pos c60] at H
                      have c60b0 : (t176.toList == t185.toList) = true := beq_iff_eq.mpr c60
                      have c60b1 : (t176.toList != t185.toList) = false := bne_eq_false_iff_eq.mpr c60
                      clear c60
                      (first | rw [c60b0] | (simp only [i64_w, i32_w]; rw [c60b0]) | skip)
                      by_cases c61 : t177 = t186
                      ·rw [if_pos c61] at H
                       have c61b0 : (t177 == t186) = true := beq_iff_eq.mpr c61
                       have c61b1 : (t177 != t186) = false := bne_eq_false_iff_eq.mpr c61
                       clear c61
                       by_cases c62 : t184 = 0
                       ·rw [if_pos c62] at H
                        have c62b0 : (t184 == 0) = true := beq_iff_eq.mpr c62
                        have c62b1 : (t184 != 0) = false := bne_eq_false_iff_eq.mpr c62
                        clear c62
                        by_cases c63 : ((rd_T29 l0 x5_1).f1).toList = ([] : List UInt8)
                        ·rw [if_pos c63] at H
                         have c63b0 : (((rd_T29 l0 x5_1).f1).toList == ([] : List UInt8)) = true := beq_iff_eq.mpr c63
                         have c63b1 : (((rd_T29 l0 x5_1).f1).toList != ([] : List UInt8)) = false := bne_eq_false_iff_eq.mpr c63
                         clear c63
                         have H' := Aside0.mk H
                         clear H
                         have hcz64_0 : w59.cell? ⟨gb164, 0, none⟩ = some (.string ((rd_T29 l0 x5_1).f0)) := (blk_cell BK164.out 0).trans rfl
                         have hcz64_1 : w59.cell? ⟨gb164, 1, none⟩ = some (.string ((rd_T29 l0 x5_1).f1)) := (blk_cell BK164.out 1).trans rfl
                         have hcz64_2 : w59.cell? ⟨gb164, 2, none⟩ = some (.string ((rd_T29 l0 x5_1).f2)) := (blk_cell BK164.out 2).trans rfl
                         have hcz64_3 : w59.cell? ⟨gb164, 3, none⟩ = some (.int .u64 ((rd_T29 l0 x5_1).f3)) := (blk_cell BK164.out 3).trans rfl
                         have hcz64_4 : w59.cell? ⟨gb164, 4, none⟩ = some (.int .u64 ((rd_T29 l0 x5_1).f4)) := (blk_cell BK164.out 4).trans rfl
                         have hcz64_5 : w59.cell? ⟨gb164, 5, none⟩ = some (.slice A163_5 ((rd_T29 l0 x5_1).f5).length c163_5) := (blk_cell BK164.out 5).trans rfl
                         have hcz64_6 : w59.cell? ⟨gb164, 6, none⟩ = some (.int .i64 ((rd_T29 l0 x5_1).f6)) := (blk_cell BK164.out 6).trans rfl
                         have hfz64_0 := blk_frozen BK164.out 0
                         have hfz64_1 := blk_frozen BK164.out 1
                         have hfz64_2 := blk_frozen BK164.out 2
                         have hfz64_3 := blk_frozen BK164.out 3
                         have hfz64_4 := blk_frozen BK164.out 4
                         have hfz64_5 := blk_frozen BK164.out 5
                         have hfz64_6 := blk_frozen BK164.out 6
                         go_wp2
                         go_meet
                         case rel => exact ⟨_, ((t183.toList != t176.toList)), (by first | rfl | (simp; done) | (simp [*]; done)), H', ⟨by have := HK1.out; have := HJ10.out; have := HJ15.out; have := HK4.out; first | omega | exact Nat.le_refl _⟩, ⟨by (with_reducible repeat (first | apply Kd.S_alloc | apply Kd.S_drewN | apply Kd.S_drew)); exact HO_3.out⟩, ⟨by (with_reducible repeat (first | apply Kd.R_alloc | apply Kd.R_drewN | apply Kd.R_drew)); exact HO_7.out⟩, ⟨by (with_reducible repeat (first | refine blk_drewN ?_ _ | refine blk_drew ?_ | refine blk_alloc ?_ _)); exact BK164.out⟩, ⟨by repeat (first | (with_reducible first | exact HB.out | apply below_alloc | apply pw_below_drewN | apply below_drew1 | refine below_set ?_ GE164.out) | exact HB.out)⟩⟩
                        ·rw [if_neg c63] at H
                         have c63b0 : (((rd_T29 l0 x5_1).f1).toList == ([] : List UInt8)) = false := beq_eq_false_iff_ne.mpr c63
                         have c63b1 : (((rd_T29 l0 x5_1).f1).toList != ([] : List UInt8)) = true := bne_iff_ne.mpr c63
                         have H' := Aside0.mk H
                         clear H
                         have hcz65_0 : w59.cell? ⟨gb164, 0, none⟩ = some (.string ((rd_T29 l0 x5_1).f0)) := (blk_cell BK164.out 0).trans rfl
                         have hcz65_1 : w59.cell? ⟨gb164, 1, none⟩ = some (.string ((rd_T29 l0 x5_1).f1)) := (blk_cell BK164.out 1).trans rfl
                         have hcz65_2 : w59.cell? ⟨gb164, 2, none⟩ = some (.string ((rd_T29 l0 x5_1).f2)) := (blk_cell BK164.out 2).trans rfl
                         have hcz65_3 : w59.cell? ⟨gb164, 3, none⟩ = some (.int .u64 ((rd_T29 l0 x5_1).f3)) := (blk_cell BK164.out 3).trans rfl
                         have hcz65_4 : w59.cell? ⟨gb164, 4, none⟩ = some (.int .u64 ((rd_T29 l0 x5_1).f4)) := (blk_cell BK164.out 4).trans rfl
                         have hcz65_5 : w59.cell? ⟨gb164, 5, none⟩ = some (.slice A163_5 ((rd_T29 l0 x5_1).f5).length c163_5) := (blk_cell BK164.out 5).trans rfl
                         have hcz65_6 : w59.cell? ⟨gb164, 6, none⟩ = some (.int .i64 ((rd_T29 l0 x5_1).f6)) := (blk_cell BK164.out 6).trans rfl
                         have hfz65_0 := blk_frozen BK164.out 0
                         have hfz65_1 := blk_frozen BK164.out 1
                         have hfz65_2 := blk_frozen BK164.out 2
                         have hfz65_3 := blk_frozen BK164.out 3
                         have hfz65_4 := blk_frozen BK164.out 4
                         have hfz65_5 := blk_frozen BK164.out 5
                         have hfz65_6 := blk_frozen BK164.out 6
                         go_wp2
                         go_meet
                         case rel => exact ⟨_, (false), (by first | rfl | (simp; done) | (simp [*]; done)), H', ⟨by have := HK1.out; have := HJ10.out; have := HJ15.out; have := HK4.out; first | omega | exact Nat.le_refl _⟩, ⟨by (with_reducible repeat (first | apply Kd.S_alloc | apply Kd.S_drewN | apply Kd.S_drew)); exact HO_3.out⟩, ⟨by (with_reducible repeat (first | apply Kd.R_alloc | apply Kd.R_drewN | apply Kd.R_drew)); exact HO_7.out⟩, ⟨by (with_reducible repeat (first | refine blk_drewN ?_ _ | refine blk_drew ?_ | refine blk_alloc ?_ _)); exact BK164.out⟩, ⟨by repeat (first | (with_reducible first | exact HB.out | apply below_alloc | apply pw_below_drewN | apply below_drew1 | refine below_set ?_ GE164.out) | exact HB.out)⟩⟩
                       ·rw [if_neg c62] at H
                        have c62b0 : (t184 == 0) = false := beq_eq_false_iff_ne.mpr c62
                        have c62b1 : (t184 != 0) = true := bne_iff_ne.mpr c62
                        have H' := Aside0.mk H
                        clear H
                        go_wp2
                        go_meet
                        case rel => exact ⟨_, (false), (by first | rfl | (simp; done) | (simp [*]; done)), H', ⟨by have := HK1.out; have := HJ10.out; have := HJ15.out; have := HK4.out; first | omega | exact Nat.le_refl _⟩, ⟨by (with_reducible repeat (first | apply Kd.S_alloc | apply Kd.S_drewN | apply Kd.S_drew)); exact HO_3.out⟩, ⟨by (with_reducible repeat (first | apply Kd.R_alloc | apply Kd.R_drewN | apply Kd.R_drew)); exact HO_7.out⟩, ⟨by (with_reducible repeat (first | refine blk_drewN ?_ _ | refine blk_drew ?_ | refine blk_alloc ?_ _)); exact BK164.out⟩, ⟨by repeat (first | (with_reducible first | exact HB.out | apply below_alloc | apply pw_below_drewN | apply below_drew1 | refine below_set ?_ GE164.out) | exact HB.out)⟩⟩
                      ·rw [if_neg c61] at H
                       have c61b0 : (t177 == t186) = false := beq_eq_false_iff_ne.mpr c61
                       have c61b1 : (t177 != t186) = true := bne_iff_ne.mpr c61
                       have H' := Aside0.mk H
                       clear H
                       go_wp2
                       go_meet
                       case rel => exact ⟨_, (true), (by first | rfl | (simp; done) | (simp [*]; done)), H', ⟨by have := HK1.out; have := HJ10.out; have := HJ15.out; have := HK4.out; first | omega | exact Nat.le_refl _⟩, ⟨by (with_reducible repeat (first | apply Kd.S_alloc | apply Kd.S_drewN | apply Kd.S_drew)); exact HO_3.out⟩, ⟨by (with_reducible repeat (first | apply Kd.R_alloc | apply Kd.R_drewN | apply Kd.R_drew)); exact HO_7.out⟩, ⟨by (with_reducible repeat (first | refine blk_drewN ?_ _ | refine blk_drew ?_ | refine blk_alloc ?_ _)); exact BK164.out⟩, ⟨by repeat (first | (with_reducible first | exact HB.out | apply below_alloc | apply pw_below_drewN | apply below_drew1 | refine below_set ?_ GE164.out) | exact HB.out)⟩⟩
                     ·rw [if_neg c60] at H
                      have c60b0 : (t176.toList == t185.toList) = false := beq_eq_false_iff_ne.mpr c60
                      have c60b1 : (t176.toList != t185.toList) = true := bne_iff_ne.mpr c60
                      (first | rw [c60b0] | (simp only [i64_w, i32_w]; rw [c60b0]) | skip)
                      have H' := Aside0.mk H
                      clear H
                      go_wp2
                      go_meet
                      case rel => exact ⟨_, (true), (by first | rfl | (simp; done) | (simp [*]; done)), H', ⟨by have := HK1.out; have := HJ10.out; have := HJ15.out; have := HK4.out; first | omega | exact Nat.le_refl _⟩, ⟨by (with_reducible repeat (first | apply Kd.S_alloc | apply Kd.S_drewN | apply Kd.S_drew)); exact HO_3.out⟩, ⟨by (with_reducible repeat (first | apply Kd.R_alloc | apply Kd.R_drewN | apply Kd.R_drew)); exact HO_7.out⟩, ⟨by (with_reducible repeat (first | refine blk_drewN ?_ _ | refine blk_drew ?_ | refine blk_alloc ?_ _)); exact BK164.out⟩, ⟨by repeat (first | (with_reducible first | exact HB.out | apply below_alloc | apply pw_below_drewN | apply below_drew1 | refine below_set ?_ GE164.out) | exact HB.out)⟩⟩
                    case rest => as_aux_lemma =>
                     clear HC50
                     try clear c1
                     try clear p1
                     try clear q1
                     try clear hx1
                     try clear c2
                     try clear p2
                     try clear c3
                     try clear p3
                     try clear q3
                     try clear hx3
                     try clear hf3
                     try clear c4
                     try clear q5
                     try clear c6
                     try clear p6
                     try clear c9
                     try clear c10
                     try clear c12
                     try clear c12b0
                     try clear c13
                     try clear c14
                     try clear c14b0
                     try clear c15
                     try clear c15b0
                     try clear c16
                     try clear p16
                     try clear q16
                     try clear hx16
                     try clear c19
                     try clear c19b0
                     try clear c21
                     try clear c23
                     try clear c23b0
                     try clear c23b1
                     try clear c24
                     try clear c24b0
                     try clear c24b1
                     try clear c28
                     try clear c28b0
                     try clear c29
                     try clear c29b0
                     try clear p30
                     try clear q30
                     try clear hx30
                     try clear hf30
                     try clear c31
                     try clear c31b0
                     try clear p32
                     try clear q32
                     try clear hx32
                     try clear hf32
                     try clear c43
                     try clear c43b0
                     try clear c43b1
                     try clear c44
                     try clear c44b0
                     try clear c44b1
                     try clear c46
                     try clear c46b0
                     try clear c47
                     try clear c47b0
                     try clear q53
                     try clear q56
                     try clear c60
                     try clear c60b0
                     try clear c60b1
                     try clear c61
                     try clear c61b0
                     try clear c61b1
                     try clear c62
                     try clear c62b0
                     try clear c62b1
                     try clear c63
                     try clear c63b0
                     try clear c63b1
                     try clear p64
                     try clear hcz18_0
                     try clear hcz18_1
                     try clear hcz18_2
                     try clear hcz18_3
                     try clear hcz18_4
                     try clear hcz18_5
                     try clear hcz18_6
                     try clear hcz20_0
                     try clear hcz20_1
                     try clear hcz20_2
                     try clear hcz20_3
                     try clear hcz20_4
                     try clear hcz20_5
                     try clear hcz20_6
                     try clear hcz25_0
                     try clear hcz25_1
                     try clear hcz25_2
                     try clear hcz25_3
                     try clear hcz25_4
                     try clear hcz25_5
                     try clear hcz25_6
                     try clear hcz36_0
                     try clear hcz36_1
                     try clear hcz36_2
                     try clear hcz36_3
                     try clear hcz36_4
                     try clear hcz36_5
                     try clear hcz36_6
                     try clear hcz42_0
                     try clear hcz42_1
                     try clear hcz42_2
                     try clear hcz42_3
                     try clear hcz42_4
                     try clear hcz42_5
                     try clear hcz42_6
                     try clear hcz55_0
                     try clear hcz55_1
                     try clear hcz55_2
                     try clear hcz55_3
                     try clear hcz55_4
                     try clear hcz55_5
                     try clear hcz55_6
                     try clear hcz58_0
                     try clear hcz58_1
                     try clear hcz58_2
                     try clear hcz58_3
                     try clear hcz58_4
                     try clear hcz58_5
                     try clear hcz58_6
                     try clear hcz64_0
                     try clear hcz64_1
                     try clear hcz64_2
                     try clear hcz64_3
                     try clear hcz64_4
                     try clear hcz64_5
                     try clear hcz64_6
                     try clear hcz65_0
                     try clear hcz65_1
                     try clear hcz65_2
                     try clear hcz65_3
                     try clear hcz65_4
                     try clear hcz65_5
                     try clear hcz65_6
                     try clear hfz18_0
                     try clear hfz18_1
                     try clear hfz18_2
                     try clear hfz18_3
                     try clear hfz18_4
                     try clear hfz18_5
                     try clear hfz18_6
                     try clear hfz20_0
                     try clear hfz20_1
                     try clear hfz20_2
                     try clear hfz20_3
                     try clear hfz20_4
                     try clear hfz20_5
                     try clear hfz20_6
                     try clear hfz25_0
                     try clear hfz25_1
                     try clear hfz25_2
                     try clear hfz25_3
                     try clear hfz25_4
                     try clear hfz25_5
                     try clear hfz25_6
                     try clear hfz36_0
                     try clear hfz36_1
                     try clear hfz36_2
                     try clear hfz36_3
                     try clear hfz36_4
                     try clear hfz36_5
                     try clear hfz36_6
                     try clear hfz42_0
                     try clear hfz42_1
                     try clear hfz42_2
                     try clear hfz42_3
                     try clear hfz42_4
                     try clear hfz42_5
                     try clear hfz42_6
                     try clear hfz55_0
                     try clear hfz55_1
                     try clear hfz55_2
                     try clear hfz55_3
                     try clear hfz55_4
                     try clear hfz55_5
                     try clear hfz55_6
                     try clear hfz58_0
                     try clear hfz58_1
                     try clear hfz58_2
                     try clear hfz58_3
                     try clear hfz58_4
                     try clear hfz58_5
                     try clear hfz58_6
                     try clear hfz64_0
                     try clear hfz64_1
                     try clear hfz64_2
                     try clear hfz64_3
                     try clear hfz64_4
                     try clear hfz64_5
                     try clear hfz64_6
                     try clear hfz65_0
                     try clear hfz65_1
                     try clear hfz65_2
                     try clear hfz65_3
                     try clear hfz65_4
                     try clear hfz65_5
                     try clear hfz65_6
                     try clear hx163_0
                     try clear hx163_1
                     try clear hx163_2
                     try clear hx163_3
                     try clear hx163_4
                     try clear hx163_5
                     try clear hx163_6
                     try clear hx169_0
                     try clear hx30_0
                     try clear hx32_0
                     try clear p1
                     try clear p16
                     try clear p163
                     try clear p169
                     try clear p2
                     try clear p30
                     try clear p32
                     try clear p6
                     try clear q1
                     try clear q16
                     try clear q163
                     try clear q169
                     try clear q30
                     try clear q32
                     try clear q53
                     try clear q56
                     obtain ⟨kq, x124_49, rfl, HA, HJ49, HO_3, HO_7, BK164, HB⟩ := hcut
                     cases kq with
                     | zero => exact absurd HA.out (by simp [abacuslaw20_CharsKeeps.j4])
                     | succ kj49 =>
                      have H := HA.out
                      clear HA
                      simp only [abacuslaw20_CharsKeeps.j4] at H
                      by_cases c66 : x124_49 = true
                      ·subst c66
                       have H1 : (some false) = some true := by rw [if_pos rfl] at H; exact H
                       clear H
                       have H := H1
                       clear H1
                       exact absurd H (by simp)
                      ·replace c66 := Bool.eq_false_iff.mpr c66
                       subst c66
                       have H1 : (abacuslaw20_CharsKeeps.l2 kj49 l0 x3_1 (wrap64 (x4_1 + (((rd_T29 l0 x5_1).f0).size : Int))) x5_1 x7_4 0 ((rd_T29 l0 x5_1).f0) ((rd_T29 l0 x5_1).f1) ((rd_T29 l0 x5_1).f2) ((rd_T29 l0 x5_1).f3) ((rd_T29 l0 x5_1).f4) ((rd_T29 l0 x5_1).f5) ((rd_T29 l0 x5_1).f6)) = some true := by rw [if_neg (show ¬ (false = true) by decide)] at H; exact H
                       clear H
                       have H := H1
                       clear H1
                       have H' := Aside0.mk H
                       clear H
                       go_wp2
                       go_loopg [15] kj49 (fun kq v15 w' => ∃ (x15_6 : Int), v15 = .int .i64 x15_6 ∧ Aside0 (abacuslaw20_CharsKeeps.l2 kq l0 x3_1 (wrap64 (x4_1 + (((rd_T29 l0 x5_1).f0).size : Int))) x5_1 x7_4 x15_6 ((rd_T29 l0 x5_1).f0) ((rd_T29 l0 x5_1).f1) ((rd_T29 l0 x5_1).f2) ((rd_T29 l0 x5_1).f3) ((rd_T29 l0 x5_1).f4) ((rd_T29 l0 x5_1).f5) ((rd_T29 l0 x5_1).f6) = some true) ∧ Aside0 (kq ≤ kj49) ∧ Aside0 (Kd.S (Kd.slice 9 Kd.string) 24 w' w.heap.size (fun k_ => some k_ ≠ ((.slice Ao51 x7_4.length co51) : Value).ownBlock ∧ k_ ≠ gb164) u3 x3_1) ∧ Aside0 (Kd.R Kd.string 9 w' w.heap.size (fun _ => True) (.slice Ao51 x7_4.length co51) x7_4) ∧ Aside0 (w'.heap[gb164]? = some (.cells #[.string ((rd_T29 l0 x5_1).f0), .string ((rd_T29 l0 x5_1).f1), .string ((rd_T29 l0 x5_1).f2), .int .u64 ((rd_T29 l0 x5_1).f3), .int .u64 ((rd_T29 l0 x5_1).f4), (.slice A163_5 ((rd_T29 l0 x5_1).f5).length c163_5), .int .i64 ((rd_T29 l0 x5_1).f6)] 29 (0, 0))) ∧ Aside0 (Below w.heap.size w w'))
                       case atStart => exact ⟨(0), (by first | rfl | (simp; done) | (simp [*]; done)), H', ⟨Nat.le_refl _⟩, ⟨by (with_reducible repeat (first | apply Kd.S_alloc | apply Kd.S_drewN | apply Kd.S_drew)); exact HO_3.out⟩, ⟨by (with_reducible repeat (first | apply Kd.R_alloc | apply Kd.R_drewN | apply Kd.R_drew)); exact HO_7.out⟩, ⟨by (with_reducible repeat (first | refine blk_drewN ?_ _ | refine blk_drew ?_ | refine blk_alloc ?_ _)); exact BK164.out⟩, ⟨by repeat (first | (with_reducible first | exact HB.out | apply below_alloc | apply pw_below_drewN | apply below_drew1 | refine below_set ?_ GE164.out) | exact HB.out)⟩⟩
                       case round => as_aux_lemma =>
                        clear H'
                        try clear c1
                        try clear p1
                        try clear q1
                        try clear hx1
                        try clear c2
                        try clear p2
                        try clear c3
                        try clear p3
                        try clear q3
                        try clear hx3
                        try clear hf3
                        try clear c4
                        try clear q5
                        try clear c6
                        try clear p6
                        try clear c9
                        try clear c10
                        try clear c12
                        try clear c12b0
                        try clear c13
                        try clear c14
                        try clear c14b0
                        try clear c15
                        try clear c15b0
                        try clear c16
                        try clear p16
                        try clear q16
                        try clear hx16
                        try clear c19
                        try clear c19b0
                        try clear c21
                        try clear c23
                        try clear c23b0
                        try clear c23b1
                        try clear c24
                        try clear c24b0
                        try clear c24b1
                        try clear c28
                        try clear c28b0
                        try clear c29
                        try clear c29b0
                        try clear p30
                        try clear q30
                        try clear hx30
                        try clear hf30
                        try clear c31
                        try clear c31b0
                        try clear p32
                        try clear q32
                        try clear hx32
                        try clear hf32
                        try clear c43
                        try clear c43b0
                        try clear c43b1
                        try clear c44
                        try clear c44b0
                        try clear c44b1
                        try clear c46
                        try clear c46b0
                        try clear c47
                        try clear c47b0
                        try clear q53
                        try clear q56
                        try clear c60
                        try clear c60b0
                        try clear c60b1
                        try clear c61
                        try clear c61b0
                        try clear c61b1
                        try clear c62
                        try clear c62b0
                        try clear c62b1
                        try clear c63
                        try clear c63b0
                        try clear c63b1
                        try clear p64
                        try clear c66
                        try clear hcz18_0
                        try clear hcz18_1
                        try clear hcz18_2
                        try clear hcz18_3
                        try clear hcz18_4
                        try clear hcz18_5
                        try clear hcz18_6
                        try clear hcz20_0
                        try clear hcz20_1
                        try clear hcz20_2
                        try clear hcz20_3
                        try clear hcz20_4
                        try clear hcz20_5
                        try clear hcz20_6
                        try clear hcz25_0
                        try clear hcz25_1
                        try clear hcz25_2
                        try clear hcz25_3
                        try clear hcz25_4
                        try clear hcz25_5
                        try clear hcz25_6
                        try clear hcz36_0
                        try clear hcz36_1
                        try clear hcz36_2
                        try clear hcz36_3
                        try clear hcz36_4
                        try clear hcz36_5
                        try clear hcz36_6
                        try clear hcz42_0
                        try clear hcz42_1
                        try clear hcz42_2
                        try clear hcz42_3
                        try clear hcz42_4
                        try clear hcz42_5
                        try clear hcz42_6
                        try clear hcz55_0
                        try clear hcz55_1
                        try clear hcz55_2
                        try clear hcz55_3
                        try clear hcz55_4
                        try clear hcz55_5
                        try clear hcz55_6
                        try clear hcz58_0
                        try clear hcz58_1
                        try clear hcz58_2
                        try clear hcz58_3
                        try clear hcz58_4
                        try clear hcz58_5
                        try clear hcz58_6
                        try clear hcz64_0
                        try clear hcz64_1
                        try clear hcz64_2
                        try clear hcz64_3
                        try clear hcz64_4
                        try clear hcz64_5
                        try clear hcz64_6
                        try clear hcz65_0
                        try clear hcz65_1
                        try clear hcz65_2
                        try clear hcz65_3
                        try clear hcz65_4
                        try clear hcz65_5
                        try clear hcz65_6
                        try clear hfz18_0
                        try clear hfz18_1
                        try clear hfz18_2
                        try clear hfz18_3
                        try clear hfz18_4
                        try clear hfz18_5
                        try clear hfz18_6
                        try clear hfz20_0
                        try clear hfz20_1
                        try clear hfz20_2
                        try clear hfz20_3
                        try clear hfz20_4
                        try clear hfz20_5
                        try clear hfz20_6
                        try clear hfz25_0
                        try clear hfz25_1
                        try clear hfz25_2
                        try clear hfz25_3
                        try clear hfz25_4
                        try clear hfz25_5
                        try clear hfz25_6
                        try clear hfz36_0
                        try clear hfz36_1
                        try clear hfz36_2
                        try clear hfz36_3
                        try clear hfz36_4
                        try clear hfz36_5
                        try clear hfz36_6
                        try clear hfz42_0
                        try clear hfz42_1
                        try clear hfz42_2
                        try clear hfz42_3
                        try clear hfz42_4
                        try clear hfz42_5
                        try clear hfz42_6
                        try clear hfz55_0
                        try clear hfz55_1
                        try clear hfz55_2
                        try clear hfz55_3
                        try clear hfz55_4
                        try clear hfz55_5
                        try clear hfz55_6
                        try clear hfz58_0
                        try clear hfz58_1
                        try clear hfz58_2
                        try clear hfz58_3
                        try clear hfz58_4
                        try clear hfz58_5
                        try clear hfz58_6
                        try clear hfz64_0
                        try clear hfz64_1
                        try clear hfz64_2
                        try clear hfz64_3
                        try clear hfz64_4
                        try clear hfz64_5
                        try clear hfz64_6
                        try clear hfz65_0
                        try clear hfz65_1
                        try clear hfz65_2
                        try clear hfz65_3
                        try clear hfz65_4
                        try clear hfz65_5
                        try clear hfz65_6
                        try clear hx163_0
                        try clear hx163_1
                        try clear hx163_2
                        try clear hx163_3
                        try clear hx163_4
                        try clear hx163_5
                        try clear hx163_6
                        try clear hx169_0
                        try clear hx30_0
                        try clear hx32_0
                        try clear p1
                        try clear p16
                        try clear p163
                        try clear p169
                        try clear p2
                        try clear p3
                        try clear p30
                        try clear p32
                        try clear p6
                        try clear p64
                        try clear q1
                        try clear q16
                        try clear q163
                        try clear q169
                        try clear q3
                        try clear q30
                        try clear q32
                        try clear q5
                        try clear q53
                        try clear q56
                        obtain ⟨x15_6, rfl, HA, HK6, HO_3, HO_7, BK164, HB⟩ := hrel
                        cases gk with
                        | zero => exact absurd HA.out (by simp [abacuslaw20_CharsKeeps.l2])
                        | succ k6 =>
                         have H := HA.out
                         clear HA
                         simp only [abacuslaw20_CharsKeeps.l2] at H
                         by_cases c67 : x15_6 < (x7_4.length : Int)
                         ·rw [if_pos c67] at H
                          have c67b0 : decide (x15_6 < (x7_4.length : Int)) = true := decide_eq_true c67
                          clear c67
                          by_cases c68 : x15_6 < (((rd_T29 l0 x5_1).f5).length : Int)
                          ·rw [if_pos c68] at H
                           have c68b0 : decide (x15_6 < (((rd_T29 l0 x5_1).f5).length : Int)) = true := decide_eq_true c68
                           clear c68
                           by_cases c69 : 0 ≤ x15_6
                           ·rw [if_pos c69] at H
                            have c69b0 : decide (0 ≤ x15_6) = true := decide_eq_true c69
                            clear c69
                            by_cases c70 : (rdOf ByteArray.empty x7_4 x15_6).toList = (rdOf ByteArray.empty ((rd_T29 l0 x5_1).f5) x15_6).toList
                            ·rw [if_pos c70] at H
                             have c70b0 : ((rdOf ByteArray.empty x7_4 x15_6).toList == (rdOf ByteArray.empty ((rd_T29 l0 x5_1).f5) x15_6).toList) = true := beq_iff_eq.mpr c70
                             have c70b1 : ((rdOf ByteArray.empty x7_4 x15_6).toList != (rdOf ByteArray.empty ((rd_T29 l0 x5_1).f5) x15_6).toList) = false := bne_eq_false_iff_eq.mpr c70
                             clear c70
                             by_cases c71 : x15_6 ≥ (((rd_T29 l0 x5_1).f5).length : Int)
                             ·exact absurd c71 (by have h_ := of_decide_eq_true c68b0; omega)
                             ·rw [if_neg c71] at H
                              have c71b0 : decide ((((rd_T29 l0 x5_1).f5).length : Int) ≤ x15_6) = false := decide_eq_false c71
                              clear c71
                              have H' := Aside0.mk H
                              clear H
                              try go_wp2
                              have n0_ := Aside0.mk (Kd.S_drew HO_3.out)
                              have n1_ := Aside0.mk (Kd.R_drew HO_7.out)
                              have n2_ := Aside0.mk (blk_drew BK164.out)
                              have n3_ := Aside0.mk (below_drew1 HB.out)
                              clear HO_3
                              clear HO_7
                              clear BK164
                              clear HB
                              have HO_3 := n0_
                              have HO_7 := n1_
                              have BK164 := n2_
                              have HB := n3_
                              clear n0_ n1_ n2_ n3_
                              have p187 : 0 ≤ (x15_6 : Int) := of_decide_eq_true (by first | (with_reducible assumption) | assumption)
                              have q187 : x15_6 < (x7_4.length : Int) := of_decide_eq_true (by first | (with_reducible assumption) | assumption)
                              obtain ⟨ad187, e187, hx187_0⟩ := Kd.at_string (Kd.R_reads' HO_7.out).2.2 x15_6 p187 q187
                              cases e187
                              replace p187 := eq_true p187
                              replace q187 := eq_true q187
                              have p188 : 0 ≤ (x15_6 : Int) := of_decide_eq_true (by first | (with_reducible assumption) | assumption)
                              have q188 : x15_6 < (((rd_T29 l0 x5_1).f5).length : Int) := of_decide_eq_true (by first | (with_reducible assumption) | assumption)
                              obtain ⟨ad188, e188, hx188_0⟩ := Kd.at_string HR163_5.out x15_6 p188 q188
                              have hw188_0 := hx188_0
                              cases e188
                              replace hx188_0 := (HB.out.cell (World.block_lt_of_cell? w _ hx188_0)).trans hx188_0
                              replace p188 := eq_true p188
                              replace q188 := eq_true q188
                              refine start_ (n := 31) (S := fun w' => w'.cell? ⟨gb164, 0, none⟩ = some (.string ((rd_T29 l0 x5_1).f0)) ∧ w'.cell? ⟨gb164, 1, none⟩ = some (.string ((rd_T29 l0 x5_1).f1)) ∧ w'.cell? ⟨gb164, 2, none⟩ = some (.string ((rd_T29 l0 x5_1).f2)) ∧ w'.cell? ⟨gb164, 3, none⟩ = some (.int .u64 ((rd_T29 l0 x5_1).f3)) ∧ w'.cell? ⟨gb164, 4, none⟩ = some (.int .u64 ((rd_T29 l0 x5_1).f4)) ∧ w'.cell? ⟨gb164, 5, none⟩ = some (.slice (some ad188) ((rd_T29 l0 x5_1).f5).length c163_5) ∧ w'.cell? ⟨gb164, 6, none⟩ = some (.int .i64 ((rd_T29 l0 x5_1).f6)) ∧ w'.cell? (ad187.add (x15_6).toNat) = some (.string (rdOf ByteArray.empty x7_4 x15_6)) ∧ w'.cell? (ad188.add (x15_6).toNat) = some (.string (rdOf ByteArray.empty ((rd_T29 l0 x5_1).f5) x15_6))) (ds := []) #[false, false, false, false, false, false, false, false, false, false, false, false, false, false, false, false, false, false, false, false, false, false, false, false, false, false, false, false, false, false, false] (by kernel_rfl) rfl rfl ⟨(blk_cell BK164.out 0).trans rfl, (blk_cell BK164.out 1).trans rfl, (blk_cell BK164.out 2).trans rfl, (blk_cell BK164.out 3).trans rfl, (blk_cell BK164.out 4).trans rfl, (blk_cell BK164.out 5).trans rfl, (blk_cell BK164.out 6).trans rfl, hx187_0, ((HB.out.cell (World.block_lt_of_cell? w _ hw188_0)).trans hw188_0)⟩ (fun hHeld => ?_); refine with_tabW abacuslaw20_CharsKeeps.tab26 abacuslaw20_CharsKeeps.bits26 (fun HT_ HW_ => ?_)
                              generalize wr.drew = w74 at HO_3 HO_7 BK164 HB hx187_0 hx188_0 hHeld ⊢
                              refine pure_ (i := 0) (N := some 131) (v := ?_) (a' := ?_) #[true, false, false, false, false, false, false, false, false, false, false, false, false, false, false, false, false, false, false, false, false, false, false, false, false, false, false, false, false, false, false] rfl rfl (any_of HT_.out (by kernel_rfl)) (fun _ _ _ h => h) (Or.inl ⟨by rfl, ?_⟩) ?_ ?_
                              rotate_left
                              ·intro w'
                               go_simp
                               with_reducible rfl
                              rotate_left
                              ·simp only [Act.put, List.setIfInBounds_toArray, List.set_cons_zero, List.set_cons_succ, i64_w, i32_w]
                               rfl
                              refine pure_ (i := 1) (N := some 132) (v := ?_) (a' := ?_) #[true, true, false, false, false, false, false, false, false, false, false, false, false, false, false, false, false, false, false, false, false, false, false, false, false, false, false, false, false, false, false] rfl rfl (any_of HT_.out (by kernel_rfl)) (fun _ _ _ h => h) (Or.inl ⟨by rfl, ?_⟩) ?_ ?_
                              rotate_left
                              ·intro w'
                               go_simp
                               with_reducible rfl
                              rotate_left
                              ·simp only [Act.put, List.setIfInBounds_toArray, List.set_cons_zero, List.set_cons_succ, i64_w, i32_w]
                               rfl
                              refine take_ (i := 2) (N := some 133) (v := ?_) (a' := ?_) #[true, true, true, false, false, false, false, false, false, false, false, false, false, false, false, false, false, false, false, false, false, false, false, false, false, false, false, false, false, false, false] rfl rfl (take_ofW HT_.out HW_.out (by kernel_rfl)) (fun _ _ _ h => h) (Or.inl ⟨by rfl, ?_⟩) hHeld ?_ ?_
                              rotate_left
                              ·rintro w' ⟨s0, s1, s2, s3, s4, s5, s6, s7, s8⟩
                               go_simp
                               with_reducible rfl
                              rotate_left
                              ·simp only [Act.put, List.setIfInBounds_toArray, List.set_cons_zero, List.set_cons_succ, i64_w, i32_w]
                               rfl
                              refine pure_ (i := 3) (N := some 134) (v := ?_) (a' := ?_) #[true, true, true, true, false, false, false, false, false, false, false, false, false, false, false, false, false, false, false, false, false, false, false, false, false, false, false, false, false, false, false] rfl rfl (any_of HT_.out (by kernel_rfl)) (fun _ _ _ h => h) (Or.inl ⟨by rfl, ?_⟩) ?_ ?_
                              rotate_left
                              ·intro w'
                               go_simp
                               with_reducible rfl
                              rotate_left
                              ·simp only [Act.put, List.setIfInBounds_toArray, List.set_cons_zero, List.set_cons_succ, i64_w, i32_w]
                               rfl
                              refine pure_ (i := 4) (N := some 135) (v := ?_) (a' := ?_) #[true, true, true, true, true, false, false, false, false, false, false, false, false, false, false, false, false, false, false, false, false, false, false, false, false, false, false, false, false, false, false] rfl rfl (any_of HT_.out (by kernel_rfl)) (fun _ _ _ h => h) (Or.inl ⟨by rfl, ?_⟩) ?_ ?_
                              rotate_left
                              ·intro w'
                               go_simp
                               with_reducible rfl
                              rotate_left
                              ·simp only [Act.put, List.setIfInBounds_toArray, List.set_cons_zero, List.set_cons_succ, i64_w, i32_w]
                               rfl
                              refine pure_ (i := 5) (N := some 136) (v := ?_) (a' := ?_) #[true, true, true, true, true, true, false, false, false, false, false, false, false, false, false, false, false, false, false, false, false, false, false, false, false, false, false, false, false, false, false] rfl rfl (any_of HT_.out (by kernel_rfl)) (fun _ _ _ h => h) (Or.inl ⟨by rfl, ?_⟩) ?_ ?_
                              rotate_left
                              ·intro w'
                               go_simp
                               with_reducible rfl
                              rotate_left
                              ·simp only [Act.put, List.setIfInBounds_toArray, List.set_cons_zero, List.set_cons_succ, i64_w, i32_w]
                               rfl
                              refine pure_ (i := 6) (N := some 137) (v := ?_) (a' := ?_) #[true, true, true, true, true, true, true, false, false, false, false, false, false, false, false, false, false, false, false, false, false, false, false, false, false, false, false, false, false, false, false] rfl rfl (any_of HT_.out (by kernel_rfl)) (fun _ _ _ h => h) (Or.inl ⟨by rfl, ?_⟩) ?_ ?_
                              rotate_left
                              ·intro w'
                               go_simp
                               with_reducible rfl
                              rotate_left
                              ·simp only [Act.put, List.setIfInBounds_toArray, List.set_cons_zero, List.set_cons_succ, i64_w, i32_w]
                               rfl
                              refine pure_ (i := 7) (N := some 138) (v := ?_) (a' := ?_) #[true, true, true, true, true, true, true, true, false, false, false, false, false, false, false, false, false, false, false, false, false, false, false, false, false, false, false, false, false, false, false] rfl rfl (any_of HT_.out (by kernel_rfl)) (fun _ _ _ h => h) (Or.inl ⟨by rfl, ?_⟩) ?_ ?_
                              rotate_left
                              ·intro w'
                               go_simp
                               with_reducible rfl
                              rotate_left
                              ·simp only [Act.put, List.setIfInBounds_toArray, List.set_cons_zero, List.set_cons_succ, i64_w, i32_w]
                               rfl
                              refine pure_ (i := 8) (N := some 139) (v := ?_) (a' := ?_) #[true, true, true, true, true, true, true, true, true, false, false, false, false, false, false, false, false, false, false, false, false, false, false, false, false, false, false, false, false, false, false] rfl rfl (any_of HT_.out (by kernel_rfl)) (fun _ _ _ h => h) (Or.inl ⟨by rfl, ?_⟩) ?_ ?_
                              rotate_left
                              ·intro w'
                               go_simp
                               with_reducible rfl
                              rotate_left
                              ·simp only [Act.put, List.setIfInBounds_toArray, List.set_cons_zero, List.set_cons_succ, i64_w, i32_w]
                               rfl
                              refine pure_ (i := 10) (N := some 141) (v := ?_) (a' := ?_) #[true, true, true, true, true, true, true, true, true, false, true, false, false, false, false, false, false, false, false, false, false, false, false, false, false, false, false, false, false, false, false] rfl rfl (any_of HT_.out (by kernel_rfl)) (fun _ _ _ h => h) (Or.inl ⟨by rfl, ?_⟩) ?_ ?_
                              rotate_left
                              ·intro w'
                               go_simp
                               with_reducible rfl
                              rotate_left
                              ·simp only [Act.put, List.setIfInBounds_toArray, List.set_cons_zero, List.set_cons_succ, i64_w, i32_w]
                               rfl
                              refine pure_ (i := 12) (N := some 143) (v := ?_) (a' := ?_) #[true, true, true, true, true, true, true, true, true, false, true, false, true, false, false, false, false, false, false, false, false, false, false, false, false, false, false, false, false, false, false] rfl rfl (any_of HT_.out (by kernel_rfl)) (fun _ _ _ h => h) (Or.inl ⟨by rfl, ?_⟩) ?_ ?_
                              rotate_left
                              ·intro w'
                               go_simp
                               with_reducible rfl
                              rotate_left
                              ·simp only [Act.put, List.setIfInBounds_toArray, List.set_cons_zero, List.set_cons_succ, i64_w, i32_w]
                               rfl
                              refine take_ (i := 9) (N := some 140) (v := ?_) (a' := ?_) #[true, true, true, true, true, true, true, true, true, true, true, false, true, false, false, false, false, false, false, false, false, false, false, false, false, false, false, false, false, false, false] rfl rfl (take_ofW HT_.out HW_.out (by kernel_rfl)) (fun _ _ _ h => h) (Or.inl ⟨by rfl, ?_⟩) hHeld ?_ ?_
                              rotate_left
                              ·rintro w' ⟨s0, s1, s2, s3, s4, s5, s6, s7, s8⟩
                               go_simp
                               with_reducible rfl
                              rotate_left
                              ·simp only [Act.put, List.setIfInBounds_toArray, List.set_cons_zero, List.set_cons_succ, i64_w, i32_w]
                               rfl
                              refine take_ (i := 11) (N := some 142) (v := ?_) (a' := ?_) #[true, true, true, true, true, true, true, true, true, true, true, true, true, false, false, false, false, false, false, false, false, false, false, false, false, false, false, false, false, false, false] rfl rfl (take_ofW HT_.out HW_.out (by kernel_rfl)) (fun _ _ _ h => h) (Or.inl ⟨by rfl, ?_⟩) hHeld ?_ ?_
                              rotate_left
                              ·rintro w' ⟨s0, s1, s2, s3, s4, s5, s6, s7, s8⟩
                               go_simp
                               with_reducible rfl
                              rotate_left
                              ·simp only [Act.put, List.setIfInBounds_toArray, List.set_cons_zero, List.set_cons_succ, i64_w, i32_w]
                               rfl
                              refine pure_ (i := 13) (N := some 144) (v := ?_) (a' := ?_) #[true, true, true, true, true, true, true, true, true, true, true, true, true, true, false, false, false, false, false, false, false, false, false, false, false, false, false, false, false, false, false] rfl rfl (any_of HT_.out (by kernel_rfl)) (fun _ _ _ h => h) (Or.inl ⟨by rfl, ?_⟩) ?_ ?_
                              rotate_left
                              ·intro w'
                               go_simp
                               with_reducible rfl
                              rotate_left
                              ·simp only [Act.put, List.setIfInBounds_toArray, List.set_cons_zero, List.set_cons_succ, i64_w, i32_w]
                               rfl
                              refine take_ (i := 14) (N := some 145) (v := ?_) (a' := ?_) #[true, true, true, true, true, true, true, true, true, true, true, true, true, true, true, false, false, false, false, false, false, false, false, false, false, false, false, false, false, false, false] rfl rfl (take_ofW HT_.out HW_.out (by kernel_rfl)) (fun _ _ _ h => h) (Or.inl ⟨by rfl, ?_⟩) hHeld ?_ ?_
                              rotate_left
                              ·rintro w' ⟨s0, s1, s2, s3, s4, s5, s6, s7, s8⟩
                               go_simp
                               with_reducible rfl
                              rotate_left
                              ·simp only [Act.put, List.setIfInBounds_toArray, List.set_cons_zero, List.set_cons_succ, i64_w, i32_w]
                               rfl
                              refine pure_ (i := 15) (N := some 146) (v := ?_) (a' := ?_) #[true, true, true, true, true, true, true, true, true, true, true, true, true, true, true, true, false, false, false, false, false, false, false, false, false, false, false, false, false, false, false] rfl rfl (any_of HT_.out (by kernel_rfl)) (fun _ _ _ h => h) (Or.inl ⟨by rfl, ?_⟩) ?_ ?_
                              rotate_left
                              ·intro w'
                               go_simp
                               with_reducible rfl
                              rotate_left
                              ·simp only [Act.put, List.setIfInBounds_toArray, List.set_cons_zero, List.set_cons_succ, i64_w, i32_w]
                               rfl
                              refine pure_ (i := 16) (N := some 147) (v := ?_) (a' := ?_) #[true, true, true, true, true, true, true, true, true, true, true, true, true, true, true, true, true, false, false, false, false, false, false, false, false, false, false, false, false, false, false] rfl rfl (any_of HT_.out (by kernel_rfl)) (fun _ _ _ h => h) (Or.inl ⟨by rfl, ?_⟩) ?_ ?_
                              rotate_left
                              ·intro w'
                               go_simp
                               with_reducible rfl
                              rotate_left
                              ·simp only [Act.put, List.setIfInBounds_toArray, List.set_cons_zero, List.set_cons_succ, i64_w, i32_w]
                               rfl
                              refine pure_ (i := 17) (N := some 148) (v := ?_) (a' := ?_) #[true, true, true, true, true, true, true, true, true, true, true, true, true, true, true, true, true, true, false, false, false, false, false, false, false, false, false, false, false, false, false] rfl rfl (any_of HT_.out (by kernel_rfl)) (fun _ _ _ h => h) (Or.inl ⟨by rfl, ?_⟩) ?_ ?_
                              rotate_left
                              ·intro w'
                               go_simp
                               with_reducible rfl
                              rotate_left
                              ·simp only [Act.put, List.setIfInBounds_toArray, List.set_cons_zero, List.set_cons_succ, i64_w, i32_w]
                               rfl
                              refine pure_ (i := 18) (N := some 149) (v := ?_) (a' := ?_) #[true, true, true, true, true, true, true, true, true, true, true, true, true, true, true, true, true, true, true, false, false, false, false, false, false, false, false, false, false, false, false] rfl rfl (any_of HT_.out (by kernel_rfl)) (fun _ _ _ h => h) (Or.inl ⟨by rfl, ?_⟩) ?_ ?_
                              rotate_left
                              ·intro w'
                               go_simp
                               with_reducible rfl
                              rotate_left
                              ·simp only [Act.put, List.setIfInBounds_toArray, List.set_cons_zero, List.set_cons_succ, i64_w, i32_w]
                               rfl
                              refine pure_ (i := 19) (N := some 150) (v := ?_) (a' := ?_) #[true, true, true, true, true, true, true, true, true, true, true, true, true, true, true, true, true, true, true, true, false, false, false, false, false, false, false, false, false, false, false] rfl rfl (any_of HT_.out (by kernel_rfl)) (fun _ _ _ h => h) (Or.inl ⟨by rfl, ?_⟩) ?_ ?_
                              rotate_left
                              ·intro w'
                               go_simp
                               with_reducible rfl
                              rotate_left
                              ·simp only [Act.put, List.setIfInBounds_toArray, List.set_cons_zero, List.set_cons_succ, i64_w, i32_w]
                               rfl
                              refine take_ (i := 20) (N := some 151) (v := ?_) (a' := ?_) #[true, true, true, true, true, true, true, true, true, true, true, true, true, true, true, true, true, true, true, true, true, false, false, false, false, false, false, false, false, false, false] rfl rfl (take_ofW HT_.out HW_.out (by kernel_rfl)) (fun _ _ _ h => h) (Or.inl ⟨by rfl, ?_⟩) hHeld ?_ ?_
                              rotate_left
                              ·rintro w' ⟨s0, s1, s2, s3, s4, s5, s6, s7, s8⟩
                               go_simp
                               with_reducible rfl
                              rotate_left
                              ·simp only [Act.put, List.setIfInBounds_toArray, List.set_cons_zero, List.set_cons_succ, i64_w, i32_w]
                               rfl
                              refine pure_ (i := 21) (N := some 152) (v := ?_) (a' := ?_) #[true, true, true, true, true, true, true, true, true, true, true, true, true, true, true, true, true, true, true, true, true, true, false, false, false, false, false, false, false, false, false] rfl rfl (any_of HT_.out (by kernel_rfl)) (fun _ _ _ h => h) (Or.inl ⟨by rfl, ?_⟩) ?_ ?_
                              rotate_left
                              ·intro w'
                               go_simp
                               with_reducible rfl
                              rotate_left
                              ·simp only [Act.put, List.setIfInBounds_toArray, List.set_cons_zero, List.set_cons_succ, i64_w, i32_w]
                               rfl
                              refine pure_ (i := 22) (N := some 153) (v := ?_) (a' := ?_) #[true, true, true, true, true, true, true, true, true, true, true, true, true, true, true, true, true, true, true, true, true, true, true, false, false, false, false, false, false, false, false] rfl rfl (any_of HT_.out (by kernel_rfl)) (fun _ _ _ h => h) (Or.inl ⟨by rfl, ?_⟩) ?_ ?_
                              rotate_left
                              ·intro w'
                               go_simp
                               with_reducible rfl
                              rotate_left
                              ·simp only [Act.put, List.setIfInBounds_toArray, List.set_cons_zero, List.set_cons_succ, i64_w, i32_w]
                               rfl
                              refine pure_ (i := 23) (N := some 154) (v := ?_) (a' := ?_) #[true, true, true, true, true, true, true, true, true, true, true, true, true, true, true, true, true, true, true, true, true, true, true, true, false, false, false, false, false, false, false] rfl rfl (any_of HT_.out (by kernel_rfl)) (fun _ _ _ h => h) (Or.inl ⟨by rfl, ?_⟩) ?_ ?_
                              rotate_left
                              ·intro w'
                               go_simp
                               with_reducible rfl
                              rotate_left
                              ·simp only [Act.put, List.setIfInBounds_toArray, List.set_cons_zero, List.set_cons_succ, i64_w, i32_w]
                               rfl
                              refine pure_ (i := 24) (N := some 155) (v := undef) (a' := ?_) #[true, true, true, true, true, true, true, true, true, true, true, true, true, true, true, true, true, true, true, true, true, true, true, true, true, false, false, false, false, false, false] rfl rfl (any_of HT_.out (by kernel_rfl)) (fun _ _ _ h => h) (Or.inr ⟨by rfl, rfl⟩) ?_ ?_
                              rotate_left
                              ·simp only [Act.put, List.setIfInBounds_toArray, List.set_cons_zero, List.set_cons_succ, i64_w, i32_w]
                               rfl
                              refine pure_ (i := 25) (N := some 156) (v := undef) (a' := ?_) #[true, true, true, true, true, true, true, true, true, true, true, true, true, true, true, true, true, true, true, true, true, true, true, true, true, true, false, false, false, false, false] rfl rfl (any_of HT_.out (by kernel_rfl)) (fun _ _ _ h => h) (Or.inr ⟨by rfl, rfl⟩) ?_ ?_
                              rotate_left
                              ·simp only [Act.put, List.setIfInBounds_toArray, List.set_cons_zero, List.set_cons_succ, i64_w, i32_w]
                               rfl
                              refine pure_ (i := 26) (N := some 157) (v := undef) (a' := ?_) #[true, true, true, true, true, true, true, true, true, true, true, true, true, true, true, true, true, true, true, true, true, true, true, true, true, true, true, false, false, false, false] rfl rfl (any_of HT_.out (by kernel_rfl)) (fun _ _ _ h => h) (Or.inr ⟨by rfl, rfl⟩) ?_ ?_
                              rotate_left
                              ·simp only [Act.put, List.setIfInBounds_toArray, List.set_cons_zero, List.set_cons_succ, i64_w, i32_w]
                               rfl
                              refine pure_ (i := 27) (N := some 158) (v := undef) (a' := ?_) #[true, true, true, true, true, true, true, true, true, true, true, true, true, true, true, true, true, true, true, true, true, true, true, true, true, true, true, true, false, false, false] rfl rfl (any_of HT_.out (by kernel_rfl)) (fun _ _ _ h => h) (Or.inr ⟨by rfl, rfl⟩) ?_ ?_
                              rotate_left
                              ·simp only [Act.put, List.setIfInBounds_toArray, List.set_cons_zero, List.set_cons_succ, i64_w, i32_w]
                               rfl
                              refine pure_ (i := 28) (N := some 159) (v := undef) (a' := ?_) #[true, true, true, true, true, true, true, true, true, true, true, true, true, true, true, true, true, true, true, true, true, true, true, true, true, true, true, true, true, false, false] rfl rfl (any_of HT_.out (by kernel_rfl)) (fun _ _ _ h => h) (Or.inr ⟨by rfl, rfl⟩) ?_ ?_
                              rotate_left
                              ·simp only [Act.put, List.setIfInBounds_toArray, List.set_cons_zero, List.set_cons_succ, i64_w, i32_w]
                               rfl
                              refine pure_ (i := 29) (N := some 160) (v := ?_) (a' := ?_) #[true, true, true, true, true, true, true, true, true, true, true, true, true, true, true, true, true, true, true, true, true, true, true, true, true, true, true, true, true, true, false] rfl rfl (any_of HT_.out (by kernel_rfl)) (fun _ _ _ h => h) (Or.inl ⟨by rfl, ?_⟩) ?_ ?_
                              rotate_left
                              ·intro w'
                               go_simp
                               with_reducible rfl
                              rotate_left
                              ·simp only [Act.put, List.setIfInBounds_toArray, List.set_cons_zero, List.set_cons_succ, i64_w, i32_w]
                               rfl
                              refine pure_ (i := 30) (N := some 161) (v := ?_) (a' := ?_) #[true, true, true, true, true, true, true, true, true, true, true, true, true, true, true, true, true, true, true, true, true, true, true, true, true, true, true, true, true, true, true] rfl rfl (any_of HT_.out (by kernel_rfl)) (fun _ _ _ h => h) (Or.inl ⟨by rfl, ?_⟩) ?_ ?_
                              rotate_left
                              ·intro w'
                               go_simp
                               with_reducible rfl
                              rotate_left
                              ·simp only [Act.put, List.setIfInBounds_toArray, List.set_cons_zero, List.set_cons_succ, i64_w, i32_w]
                               rfl
                              refine done_ (done_of HT_.out (by kernel_rfl)) ?_
                              try go_wp2
                              go_roundg k6
                              case measure => have := HK1.out; have := HJ10.out; have := HJ15.out; have := HK4.out; have := HJ49.out; have := HK6.out; omega
                              case rel => exact ⟨(wrap64 (x15_6 + 1)), (by first | rfl | (simp; done) | (simp [*]; done)), H', ⟨by have := HK1.out; have := HJ10.out; have := HJ15.out; have := HK4.out; have := HJ49.out; have := HK6.out; omega⟩, ⟨by (with_reducible repeat (first | apply Kd.S_alloc | apply Kd.S_drewN | apply Kd.S_drew)); exact HO_3.out⟩, ⟨by (with_reducible repeat (first | apply Kd.R_alloc | apply Kd.R_drewN | apply Kd.R_drew)); exact HO_7.out⟩, ⟨by (with_reducible repeat (first | refine blk_drewN ?_ _ | refine blk_drew ?_ | refine blk_alloc ?_ _)); exact BK164.out⟩, ⟨by repeat (first | (with_reducible first | exact HB.out | apply below_alloc | apply pw_below_drewN | apply below_drew1 | refine below_set ?_ GE164.out) | exact HB.out)⟩⟩
                            ·rw [if_neg c70] at H
                             have c70b0 : ((rdOf ByteArray.empty x7_4 x15_6).toList == (rdOf ByteArray.empty ((rd_T29 l0 x5_1).f5) x15_6).toList) = false := beq_eq_false_iff_ne.mpr c70
                             have c70b1 : ((rdOf ByteArray.empty x7_4 x15_6).toList != (rdOf ByteArray.empty ((rd_T29 l0 x5_1).f5) x15_6).toList) = true := bne_iff_ne.mpr c70
                             exact absurd H (by simp)
                           ·rw [if_neg c69] at H
                            exact absurd H (by simp)
                          ·rw [if_neg c68] at H
                           have c68b0 : decide (x15_6 < (((rd_T29 l0 x5_1).f5).length : Int)) = false := decide_eq_false c68
                           clear c68
                           by_cases c75 : x15_6 ≥ (((rd_T29 l0 x5_1).f5).length : Int)
                           ·rw [if_pos c75] at H
                            have c75b0 : decide ((((rd_T29 l0 x5_1).f5).length : Int) ≤ x15_6) = true := decide_eq_true c75
                            clear c75
                            by_cases c76 : 0 ≤ x15_6
                            ·rw [if_pos c76] at H
                             have c76b0 : decide (0 ≤ x15_6) = true := decide_eq_true c76
                             clear c76
                             by_cases c77 : (rdOf ByteArray.empty x7_4 x15_6).toList = ([115, 112, 97, 114, 101] : List UInt8)
                             ·rw [if_pos c77] at H
                              have c77b0 : ((rdOf ByteArray.empty x7_4 x15_6).toList == ([115, 112, 97, 114, 101] : List UInt8)) = true := beq_iff_eq.mpr c77
                              have c77b1 : ((rdOf ByteArray.empty x7_4 x15_6).toList != ([115, 112, 97, 114, 101] : List UInt8)) = false := bne_eq_false_iff_eq.mpr c77
                              clear c77
                              have H' := Aside0.mk H
                              clear H
                              try go_wp2
                              have n0_ := Aside0.mk (Kd.S_drew HO_3.out)
                              have n1_ := Aside0.mk (Kd.R_drew HO_7.out)
                              have n2_ := Aside0.mk (blk_drew BK164.out)
                              have n3_ := Aside0.mk (below_drew1 HB.out)
                              clear HO_3
                              clear HO_7
                              clear BK164
                              clear HB
                              have HO_3 := n0_
                              have HO_7 := n1_
                              have BK164 := n2_
                              have HB := n3_
                              clear n0_ n1_ n2_ n3_
                              have p190 : 0 ≤ (x15_6 : Int) := of_decide_eq_true (by first | (with_reducible assumption) | assumption)
                              have q190 : x15_6 < (x7_4.length : Int) := of_decide_eq_true (by first | (with_reducible assumption) | assumption)
                              obtain ⟨ad190, e190, hx190_0⟩ := Kd.at_string (Kd.R_reads' HO_7.out).2.2 x15_6 p190 q190
                              cases e190
                              replace p190 := eq_true p190
                              replace q190 := eq_true q190
                              refine start_ (n := 31) (S := fun w' => w'.cell? ⟨gb164, 0, none⟩ = some (.string ((rd_T29 l0 x5_1).f0)) ∧ w'.cell? ⟨gb164, 1, none⟩ = some (.string ((rd_T29 l0 x5_1).f1)) ∧ w'.cell? ⟨gb164, 2, none⟩ = some (.string ((rd_T29 l0 x5_1).f2)) ∧ w'.cell? ⟨gb164, 3, none⟩ = some (.int .u64 ((rd_T29 l0 x5_1).f3)) ∧ w'.cell? ⟨gb164, 4, none⟩ = some (.int .u64 ((rd_T29 l0 x5_1).f4)) ∧ w'.cell? ⟨gb164, 5, none⟩ = some (.slice A163_5 ((rd_T29 l0 x5_1).f5).length c163_5) ∧ w'.cell? ⟨gb164, 6, none⟩ = some (.int .i64 ((rd_T29 l0 x5_1).f6)) ∧ w'.cell? (ad190.add (x15_6).toNat) = some (.string (rdOf ByteArray.empty x7_4 x15_6))) (ds := []) #[false, false, false, false, false, false, false, false, false, false, false, false, false, false, false, false, false, false, false, false, false, false, false, false, false, false, false, false, false, false, false] (by kernel_rfl) rfl rfl ⟨(blk_cell BK164.out 0).trans rfl, (blk_cell BK164.out 1).trans rfl, (blk_cell BK164.out 2).trans rfl, (blk_cell BK164.out 3).trans rfl, (blk_cell BK164.out 4).trans rfl, (blk_cell BK164.out 5).trans rfl, (blk_cell BK164.out 6).trans rfl, hx190_0⟩ (fun hHeld => ?_); refine with_tabW abacuslaw20_CharsKeeps.tab26 abacuslaw20_CharsKeeps.bits26 (fun HT_ HW_ => ?_)
                              generalize wr.drew = w78 at HO_3 HO_7 BK164 HB hx190_0 hHeld ⊢
                              refine pure_ (i := 0) (N := some 131) (v := ?_) (a' := ?_) #[true, false, false, false, false, false, false, false, false, false, false, false, false, false, false, false, false, false, false, false, false, false, false, false, false, false, false, false, false, false, false] rfl rfl (any_of HT_.out (by kernel_rfl)) (fun _ _ _ h => h) (Or.inl ⟨by rfl, ?_⟩) ?_ ?_
                              rotate_left
                              ·intro w'
                               go_simp
                               with_reducible rfl
                              rotate_left
                              ·simp only [Act.put, List.setIfInBounds_toArray, List.set_cons_zero, List.set_cons_succ, i64_w, i32_w]
                               rfl
                              refine pure_ (i := 1) (N := some 132) (v := ?_) (a' := ?_) #[true, true, false, false, false, false, false, false, false, false, false, false, false, false, false, false, false, false, false, false, false, false, false, false, false, false, false, false, false, false, false] rfl rfl (any_of HT_.out (by kernel_rfl)) (fun _ _ _ h => h) (Or.inl ⟨by rfl, ?_⟩) ?_ ?_
                              rotate_left
                              ·intro w'
                               go_simp
                               with_reducible rfl
                              rotate_left
                              ·simp only [Act.put, List.setIfInBounds_toArray, List.set_cons_zero, List.set_cons_succ, i64_w, i32_w]
                               rfl
                              refine take_ (i := 2) (N := some 133) (v := ?_) (a' := ?_) #[true, true, true, false, false, false, false, false, false, false, false, false, false, false, false, false, false, false, false, false, false, false, false, false, false, false, false, false, false, false, false] rfl rfl (take_ofW HT_.out HW_.out (by kernel_rfl)) (fun _ _ _ h => h) (Or.inl ⟨by rfl, ?_⟩) hHeld ?_ ?_
                              rotate_left
                              ·rintro w' ⟨s0, s1, s2, s3, s4, s5, s6, s7⟩
                               go_simp
                               with_reducible rfl
                              rotate_left
                              ·simp only [Act.put, List.setIfInBounds_toArray, List.set_cons_zero, List.set_cons_succ, i64_w, i32_w]
                               rfl
                              refine pure_ (i := 3) (N := some 134) (v := ?_) (a' := ?_) #[true, true, true, true, false, false, false, false, false, false, false, false, false, false, false, false, false, false, false, false, false, false, false, false, false, false, false, false, false, false, false] rfl rfl (any_of HT_.out (by kernel_rfl)) (fun _ _ _ h => h) (Or.inl ⟨by rfl, ?_⟩) ?_ ?_
                              rotate_left
                              ·intro w'
                               go_simp
                               with_reducible rfl
                              rotate_left
                              ·simp only [Act.put, List.setIfInBounds_toArray, List.set_cons_zero, List.set_cons_succ, i64_w, i32_w]
                               rfl
                              refine pure_ (i := 4) (N := some 135) (v := ?_) (a' := ?_) #[true, true, true, true, true, false, false, false, false, false, false, false, false, false, false, false, false, false, false, false, false, false, false, false, false, false, false, false, false, false, false] rfl rfl (any_of HT_.out (by kernel_rfl)) (fun _ _ _ h => h) (Or.inl ⟨by rfl, ?_⟩) ?_ ?_
                              rotate_left
                              ·intro w'
                               go_simp
                               with_reducible rfl
                              rotate_left
                              ·simp only [Act.put, List.setIfInBounds_toArray, List.set_cons_zero, List.set_cons_succ, i64_w, i32_w]
                               rfl
                              refine pure_ (i := 5) (N := some 136) (v := ?_) (a' := ?_) #[true, true, true, true, true, true, false, false, false, false, false, false, false, false, false, false, false, false, false, false, false, false, false, false, false, false, false, false, false, false, false] rfl rfl (any_of HT_.out (by kernel_rfl)) (fun _ _ _ h => h) (Or.inl ⟨by rfl, ?_⟩) ?_ ?_
                              rotate_left
                              ·intro w'
                               go_simp
                               with_reducible rfl
                              rotate_left
                              ·simp only [Act.put, List.setIfInBounds_toArray, List.set_cons_zero, List.set_cons_succ, i64_w, i32_w]
                               rfl
                              refine pure_ (i := 6) (N := some 137) (v := undef) (a' := ?_) #[true, true, true, true, true, true, true, false, false, false, false, false, false, false, false, false, false, false, false, false, false, false, false, false, false, false, false, false, false, false, false] rfl rfl (any_of HT_.out (by kernel_rfl)) (fun _ _ _ h => h) (Or.inr ⟨by rfl, rfl⟩) ?_ ?_
                              rotate_left
                              ·simp only [Act.put, List.setIfInBounds_toArray, List.set_cons_zero, List.set_cons_succ, i64_w, i32_w]
                               rfl
                              refine pure_ (i := 7) (N := some 138) (v := undef) (a' := ?_) #[true, true, true, true, true, true, true, true, false, false, false, false, false, false, false, false, false, false, false, false, false, false, false, false, false, false, false, false, false, false, false] rfl rfl (any_of HT_.out (by kernel_rfl)) (fun _ _ _ h => h) (Or.inr ⟨by rfl, rfl⟩) ?_ ?_
                              rotate_left
                              ·simp only [Act.put, List.setIfInBounds_toArray, List.set_cons_zero, List.set_cons_succ, i64_w, i32_w]
                               rfl
                              refine pure_ (i := 8) (N := some 139) (v := undef) (a' := ?_) #[true, true, true, true, true, true, true, true, true, false, false, false, false, false, false, false, false, false, false, false, false, false, false, false, false, false, false, false, false, false, false] rfl rfl (any_of HT_.out (by kernel_rfl)) (fun _ _ _ h => h) (Or.inr ⟨by rfl, rfl⟩) ?_ ?_
                              rotate_left
                              ·simp only [Act.put, List.setIfInBounds_toArray, List.set_cons_zero, List.set_cons_succ, i64_w, i32_w]
                               rfl
                              refine pure_ (i := 9) (N := some 140) (v := undef) (a' := ?_) #[true, true, true, true, true, true, true, true, true, true, false, false, false, false, false, false, false, false, false, false, false, false, false, false, false, false, false, false, false, false, false] rfl rfl (any_of HT_.out (by kernel_rfl)) (fun _ _ _ h => h) (Or.inr ⟨by rfl, rfl⟩) ?_ ?_
                              rotate_left
                              ·simp only [Act.put, List.setIfInBounds_toArray, List.set_cons_zero, List.set_cons_succ, i64_w, i32_w]
                               rfl
                              refine pure_ (i := 10) (N := some 141) (v := undef) (a' := ?_) #[true, true, true, true, true, true, true, true, true, true, true, false, false, false, false, false, false, false, false, false, false, false, false, false, false, false, false, false, false, false, false] rfl rfl (any_of HT_.out (by kernel_rfl)) (fun _ _ _ h => h) (Or.inr ⟨by rfl, rfl⟩) ?_ ?_
                              rotate_left
                              ·simp only [Act.put, List.setIfInBounds_toArray, List.set_cons_zero, List.set_cons_succ, i64_w, i32_w]
                               rfl
                              refine pure_ (i := 11) (N := some 142) (v := undef) (a' := ?_) #[true, true, true, true, true, true, true, true, true, true, true, true, false, false, false, false, false, false, false, false, false, false, false, false, false, false, false, false, false, false, false] rfl rfl (any_of HT_.out (by kernel_rfl)) (fun _ _ _ h => h) (Or.inr ⟨by rfl, rfl⟩) ?_ ?_
                              rotate_left
                              ·simp only [Act.put, List.setIfInBounds_toArray, List.set_cons_zero, List.set_cons_succ, i64_w, i32_w]
                               rfl
                              refine pure_ (i := 12) (N := some 143) (v := undef) (a' := ?_) #[true, true, true, true, true, true, true, true, true, true, true, true, true, false, false, false, false, false, false, false, false, false, false, false, false, false, false, false, false, false, false] rfl rfl (any_of HT_.out (by kernel_rfl)) (fun _ _ _ h => h) (Or.inr ⟨by rfl, rfl⟩) ?_ ?_
                              rotate_left
                              ·simp only [Act.put, List.setIfInBounds_toArray, List.set_cons_zero, List.set_cons_succ, i64_w, i32_w]
                               rfl
                              refine pure_ (i := 13) (N := some 144) (v := undef) (a' := ?_) #[true, true, true, true, true, true, true, true, true, true, true, true, true, true, false, false, false, false, false, false, false, false, false, false, false, false, false, false, false, false, false] rfl rfl (any_of HT_.out (by kernel_rfl)) (fun _ _ _ h => h) (Or.inr ⟨by rfl, rfl⟩) ?_ ?_
                              rotate_left
                              ·simp only [Act.put, List.setIfInBounds_toArray, List.set_cons_zero, List.set_cons_succ, i64_w, i32_w]
                               rfl
                              refine pure_ (i := 14) (N := some 145) (v := undef) (a' := ?_) #[true, true, true, true, true, true, true, true, true, true, true, true, true, true, true, false, false, false, false, false, false, false, false, false, false, false, false, false, false, false, false] rfl rfl (any_of HT_.out (by kernel_rfl)) (fun _ _ _ h => h) (Or.inr ⟨by rfl, rfl⟩) ?_ ?_
                              rotate_left
                              ·simp only [Act.put, List.setIfInBounds_toArray, List.set_cons_zero, List.set_cons_succ, i64_w, i32_w]
                               rfl
                              refine pure_ (i := 15) (N := some 146) (v := undef) (a' := ?_) #[true, true, true, true, true, true, true, true, true, true, true, true, true, true, true, true, false, false, false, false, false, false, false, false, false, false, false, false, false, false, false] rfl rfl (any_of HT_.out (by kernel_rfl)) (fun _ _ _ h => h) (Or.inr ⟨by rfl, rfl⟩) ?_ ?_
                              rotate_left
                              ·simp only [Act.put, List.setIfInBounds_toArray, List.set_cons_zero, List.set_cons_succ, i64_w, i32_w]
                               rfl
                              refine pure_ (i := 16) (N := some 147) (v := ?_) (a' := ?_) #[true, true, true, true, true, true, true, true, true, true, true, true, true, true, true, true, true, false, false, false, false, false, false, false, false, false, false, false, false, false, false] rfl rfl (any_of HT_.out (by kernel_rfl)) (fun _ _ _ h => h) (Or.inl ⟨by rfl, ?_⟩) ?_ ?_
                              rotate_left
                              ·intro w'
                               go_simp
                               with_reducible rfl
                              rotate_left
                              ·simp only [Act.put, List.setIfInBounds_toArray, List.set_cons_zero, List.set_cons_succ, i64_w, i32_w]
                               rfl
                              refine pure_ (i := 17) (N := some 148) (v := ?_) (a' := ?_) #[true, true, true, true, true, true, true, true, true, true, true, true, true, true, true, true, true, true, false, false, false, false, false, false, false, false, false, false, false, false, false] rfl rfl (any_of HT_.out (by kernel_rfl)) (fun _ _ _ h => h) (Or.inl ⟨by rfl, ?_⟩) ?_ ?_
                              rotate_left
                              ·intro w'
                               go_simp
                               with_reducible rfl
                              rotate_left
                              ·simp only [Act.put, List.setIfInBounds_toArray, List.set_cons_zero, List.set_cons_succ, i64_w, i32_w]
                               rfl
                              refine pure_ (i := 18) (N := some 149) (v := ?_) (a' := ?_) #[true, true, true, true, true, true, true, true, true, true, true, true, true, true, true, true, true, true, true, false, false, false, false, false, false, false, false, false, false, false, false] rfl rfl (any_of HT_.out (by kernel_rfl)) (fun _ _ _ h => h) (Or.inl ⟨by rfl, ?_⟩) ?_ ?_
                              rotate_left
                              ·intro w'
                               go_simp
                               with_reducible rfl
                              rotate_left
                              ·simp only [Act.put, List.setIfInBounds_toArray, List.set_cons_zero, List.set_cons_succ, i64_w, i32_w]
                               rfl
                              refine pure_ (i := 19) (N := some 150) (v := ?_) (a' := ?_) #[true, true, true, true, true, true, true, true, true, true, true, true, true, true, true, true, true, true, true, true, false, false, false, false, false, false, false, false, false, false, false] rfl rfl (any_of HT_.out (by kernel_rfl)) (fun _ _ _ h => h) (Or.inl ⟨by rfl, ?_⟩) ?_ ?_
                              rotate_left
                              ·intro w'
                               go_simp
                               with_reducible rfl
                              rotate_left
                              ·simp only [Act.put, List.setIfInBounds_toArray, List.set_cons_zero, List.set_cons_succ, i64_w, i32_w]
                               rfl
                              refine take_ (i := 20) (N := some 151) (v := ?_) (a' := ?_) #[true, true, true, true, true, true, true, true, true, true, true, true, true, true, true, true, true, true, true, true, true, false, false, false, false, false, false, false, false, false, false] rfl rfl (take_ofW HT_.out HW_.out (by kernel_rfl)) (fun _ _ _ h => h) (Or.inl ⟨by rfl, ?_⟩) hHeld ?_ ?_
                              rotate_left
                              ·rintro w' ⟨s0, s1, s2, s3, s4, s5, s6, s7⟩
                               go_simp
                               with_reducible rfl
                              rotate_left
                              ·simp only [Act.put, List.setIfInBounds_toArray, List.set_cons_zero, List.set_cons_succ, i64_w, i32_w]
                               rfl
                              refine pure_ (i := 21) (N := some 152) (v := ?_) (a' := ?_) #[true, true, true, true, true, true, true, true, true, true, true, true, true, true, true, true, true, true, true, true, true, true, false, false, false, false, false, false, false, false, false] rfl rfl (any_of HT_.out (by kernel_rfl)) (fun _ _ _ h => h) (Or.inl ⟨by rfl, ?_⟩) ?_ ?_
                              rotate_left
                              ·intro w'
                               go_simp
                               with_reducible rfl
                              rotate_left
                              ·simp only [Act.put, List.setIfInBounds_toArray, List.set_cons_zero, List.set_cons_succ, i64_w, i32_w]
                               rfl
                              refine pure_ (i := 22) (N := some 153) (v := ?_) (a' := ?_) #[true, true, true, true, true, true, true, true, true, true, true, true, true, true, true, true, true, true, true, true, true, true, true, false, false, false, false, false, false, false, false] rfl rfl (any_of HT_.out (by kernel_rfl)) (fun _ _ _ h => h) (Or.inl ⟨by rfl, ?_⟩) ?_ ?_
                              rotate_left
                              ·intro w'
                               go_simp
                               with_reducible rfl
                              rotate_left
                              ·simp only [Act.put, List.setIfInBounds_toArray, List.set_cons_zero, List.set_cons_succ, i64_w, i32_w]
                               rfl
                              refine pure_ (i := 23) (N := some 154) (v := ?_) (a' := ?_) #[true, true, true, true, true, true, true, true, true, true, true, true, true, true, true, true, true, true, true, true, true, true, true, true, false, false, false, false, false, false, false] rfl rfl (any_of HT_.out (by kernel_rfl)) (fun _ _ _ h => h) (Or.inl ⟨by rfl, ?_⟩) ?_ ?_
                              rotate_left
                              ·intro w'
                               go_simp
                               with_reducible rfl
                              rotate_left
                              ·simp only [Act.put, List.setIfInBounds_toArray, List.set_cons_zero, List.set_cons_succ, i64_w, i32_w]
                               rfl
                              refine pure_ (i := 24) (N := some 155) (v := ?_) (a' := ?_) #[true, true, true, true, true, true, true, true, true, true, true, true, true, true, true, true, true, true, true, true, true, true, true, true, true, false, false, false, false, false, false] rfl rfl (any_of HT_.out (by kernel_rfl)) (fun _ _ _ h => h) (Or.inl ⟨by rfl, ?_⟩) ?_ ?_
                              rotate_left
                              ·intro w'
                               go_simp
                               with_reducible rfl
                              rotate_left
                              ·simp only [Act.put, List.setIfInBounds_toArray, List.set_cons_zero, List.set_cons_succ, i64_w, i32_w]
                               rfl
                              refine pure_ (i := 25) (N := some 156) (v := ?_) (a' := ?_) #[true, true, true, true, true, true, true, true, true, true, true, true, true, true, true, true, true, true, true, true, true, true, true, true, true, true, false, false, false, false, false] rfl rfl (any_of HT_.out (by kernel_rfl)) (fun _ _ _ h => h) (Or.inl ⟨by rfl, ?_⟩) ?_ ?_
                              rotate_left
                              ·intro w'
                               go_simp
                               with_reducible rfl
                              rotate_left
                              ·simp only [Act.put, List.setIfInBounds_toArray, List.set_cons_zero, List.set_cons_succ, i64_w, i32_w]
                               rfl
                              refine pure_ (i := 26) (N := some 157) (v := ?_) (a' := ?_) #[true, true, true, true, true, true, true, true, true, true, true, true, true, true, true, true, true, true, true, true, true, true, true, true, true, true, true, false, false, false, false] rfl rfl (any_of HT_.out (by kernel_rfl)) (fun _ _ _ h => h) (Or.inl ⟨by rfl, ?_⟩) ?_ ?_
                              rotate_left
                              ·intro w'
                               go_simp
                               with_reducible rfl
                              rotate_left
                              ·simp only [Act.put, List.setIfInBounds_toArray, List.set_cons_zero, List.set_cons_succ, i64_w, i32_w]
                               rfl
                              refine take_ (i := 27) (N := some 158) (v := ?_) (a' := ?_) #[true, true, true, true, true, true, true, true, true, true, true, true, true, true, true, true, true, true, true, true, true, true, true, true, true, true, true, true, false, false, false] rfl rfl (take_ofW HT_.out HW_.out (by kernel_rfl)) (fun _ _ _ h => h) (Or.inl ⟨by rfl, ?_⟩) hHeld ?_ ?_
                              rotate_left
                              ·rintro w' ⟨s0, s1, s2, s3, s4, s5, s6, s7⟩
                               go_simp
                               with_reducible rfl
                              rotate_left
                              ·simp only [Act.put, List.setIfInBounds_toArray, List.set_cons_zero, List.set_cons_succ, i64_w, i32_w]
                               rfl
                              refine pure_ (i := 28) (N := some 159) (v := ?_) (a' := ?_) #[true, true, true, true, true, true, true, true, true, true, true, true, true, true, true, true, true, true, true, true, true, true, true, true, true, true, true, true, true, false, false] rfl rfl (any_of HT_.out (by kernel_rfl)) (fun _ _ _ h => h) (Or.inl ⟨by rfl, ?_⟩) ?_ ?_
                              rotate_left
                              ·intro w'
                               go_simp
                               with_reducible rfl
                              rotate_left
                              ·simp only [Act.put, List.setIfInBounds_toArray, List.set_cons_zero, List.set_cons_succ, i64_w, i32_w]
                               rfl
                              refine pure_ (i := 29) (N := some 160) (v := ?_) (a' := ?_) #[true, true, true, true, true, true, true, true, true, true, true, true, true, true, true, true, true, true, true, true, true, true, true, true, true, true, true, true, true, true, false] rfl rfl (any_of HT_.out (by kernel_rfl)) (fun _ _ _ h => h) (Or.inl ⟨by rfl, ?_⟩) ?_ ?_
                              rotate_left
                              ·intro w'
                               go_simp
                               with_reducible rfl
                              rotate_left
                              ·simp only [Act.put, List.setIfInBounds_toArray, List.set_cons_zero, List.set_cons_succ, i64_w, i32_w]
                               rfl
                              refine pure_ (i := 30) (N := some 161) (v := ?_) (a' := ?_) #[true, true, true, true, true, true, true, true, true, true, true, true, true, true, true, true, true, true, true, true, true, true, true, true, true, true, true, true, true, true, true] rfl rfl (any_of HT_.out (by kernel_rfl)) (fun _ _ _ h => h) (Or.inl ⟨by rfl, ?_⟩) ?_ ?_
                              rotate_left
                              ·intro w'
                               go_simp
                               with_reducible rfl
                              rotate_left
                              ·simp only [Act.put, List.setIfInBounds_toArray, List.set_cons_zero, List.set_cons_succ, i64_w, i32_w]
                               rfl
                              refine done_ (done_of HT_.out (by kernel_rfl)) ?_
                              try go_wp2
                              go_roundg k6
                              case measure => have := HK1.out; have := HJ10.out; have := HJ15.out; have := HK4.out; have := HJ49.out; have := HK6.out; omega
                              case rel => exact ⟨(wrap64 (x15_6 + 1)), (by first | rfl | (simp; done) | (simp [*]; done)), H', ⟨by have := HK1.out; have := HJ10.out; have := HJ15.out; have := HK4.out; have := HJ49.out; have := HK6.out; omega⟩, ⟨by (with_reducible repeat (first | apply Kd.S_alloc | apply Kd.S_drewN | apply Kd.S_drew)); exact HO_3.out⟩, ⟨by (with_reducible repeat (first | apply Kd.R_alloc | apply Kd.R_drewN | apply Kd.R_drew)); exact HO_7.out⟩, ⟨by (with_reducible repeat (first | refine blk_drewN ?_ _ | refine blk_drew ?_ | refine blk_alloc ?_ _)); exact BK164.out⟩, ⟨by repeat (first | (with_reducible first | exact HB.out | apply below_alloc | apply pw_below_drewN | apply below_drew1 | refine below_set ?_ GE164.out) | exact HB.out)⟩⟩
                             ·rw [if_neg c77] at H
                              have c77b0 : ((rdOf ByteArray.empty x7_4 x15_6).toList == ([115, 112, 97, 114, 101] : List UInt8)) = false := beq_eq_false_iff_ne.mpr c77
                              have c77b1 : ((rdOf ByteArray.empty x7_4 x15_6).toList != ([115, 112, 97, 114, 101] : List UInt8)) = true := bne_iff_ne.mpr c77
                              exact absurd H (by simp)
                            ·rw [if_neg c76] at H
                             exact absurd H (by simp)
                           ·exact absurd (show x15_6 ≥ _ by have h_ := of_decide_eq_false c68b0; omega) c75
                         ·rw [if_neg c67] at H
                          have c67b0 : decide (x15_6 < (x7_4.length : Int)) = false := decide_eq_false c67
                          clear c67
                          replace H := Option.bind_eq_some_iff.mp H
                          obtain ⟨t191, A800, H⟩ := H
                          replace H : ((chars_Split.f k6 ((rd_T29 l0 x5_1).f0) ((rd_T29 l0 x5_1).f1)).bind fun t194 => ((chars_Split.f k6 ((rd_T29 l0 x5_1).f0) (⟨#[32]⟩ : ByteArray)).bind fun t197 => ((chars_Split.f k6 ((rd_T29 l0 x5_1).f0) (⟨#[32]⟩ : ByteArray)).bind fun t200 => ((chars_Split.f k6 ((rd_T29 l0 x5_1).f0) (⟨#[]⟩ : ByteArray)).bind fun t203 => ((chars_Split.f k6 ((rd_T29 l0 x5_1).f0) (⟨#[]⟩ : ByteArray)).bind fun t206 => ((some (([t191, t194, t197, t200, t203, t206] : List (List ByteArray)) : List (List ByteArray))).bind fun y209 => (if x3_1.length + y209.length < 5864062014805 then (abacuslaw20_CharsKeeps.l0 k6 l0 (x3_1 ++ y209) (wrap64 (x4_1 + (((rd_T29 l0 x5_1).f0).size : Int))) (wrap64 (x5_1 + 1))) else (none)))))))) = some true := H
                          have A80 := Aside0.mk A800
                          clear A800
                          replace H := Option.bind_eq_some_iff.mp H
                          obtain ⟨t194, A810, H⟩ := H
                          replace H : ((chars_Split.f k6 ((rd_T29 l0 x5_1).f0) (⟨#[32]⟩ : ByteArray)).bind fun t197 => ((chars_Split.f k6 ((rd_T29 l0 x5_1).f0) (⟨#[32]⟩ : ByteArray)).bind fun t200 => ((chars_Split.f k6 ((rd_T29 l0 x5_1).f0) (⟨#[]⟩ : ByteArray)).bind fun t203 => ((chars_Split.f k6 ((rd_T29 l0 x5_1).f0) (⟨#[]⟩ : ByteArray)).bind fun t206 => ((some (([t191, t194, t197, t200, t203, t206] : List (List ByteArray)) : List (List ByteArray))).bind fun y209 => (if x3_1.length + y209.length < 5864062014805 then (abacuslaw20_CharsKeeps.l0 k6 l0 (x3_1 ++ y209) (wrap64 (x4_1 + (((rd_T29 l0 x5_1).f0).size : Int))) (wrap64 (x5_1 + 1))) else (none))))))) = some true := H
                          have A81 := Aside0.mk A810
                          clear A810
                          replace H := Option.bind_eq_some_iff.mp H
                          obtain ⟨t197, A820, H⟩ := H
                          replace H : ((chars_Split.f k6 ((rd_T29 l0 x5_1).f0) (⟨#[32]⟩ : ByteArray)).bind fun t200 => ((chars_Split.f k6 ((rd_T29 l0 x5_1).f0) (⟨#[]⟩ : ByteArray)).bind fun t203 => ((chars_Split.f k6 ((rd_T29 l0 x5_1).f0) (⟨#[]⟩ : ByteArray)).bind fun t206 => ((some (([t191, t194, t197, t200, t203, t206] : List (List ByteArray)) : List (List ByteArray))).bind fun y209 => (if x3_1.length + y209.length < 5864062014805 then (abacuslaw20_CharsKeeps.l0 k6 l0 (x3_1 ++ y209) (wrap64 (x4_1 + (((rd_T29 l0 x5_1).f0).size : Int))) (wrap64 (x5_1 + 1))) else (none)))))) = some true := H
                          have A82 := Aside0.mk A820
                          clear A820
                          replace H := Option.bind_eq_some_iff.mp H
                          obtain ⟨t200, A830, H⟩ := H
                          replace H : ((chars_Split.f k6 ((rd_T29 l0 x5_1).f0) (⟨#[]⟩ : ByteArray)).bind fun t203 => ((chars_Split.f k6 ((rd_T29 l0 x5_1).f0) (⟨#[]⟩ : ByteArray)).bind fun t206 => ((some (([t191, t194, t197, t200, t203, t206] : List (List ByteArray)) : List (List ByteArray))).bind fun y209 => (if x3_1.length + y209.length < 5864062014805 then (abacuslaw20_CharsKeeps.l0 k6 l0 (x3_1 ++ y209) (wrap64 (x4_1 + (((rd_T29 l0 x5_1).f0).size : Int))) (wrap64 (x5_1 + 1))) else (none))))) = some true := H
                          have A83 := Aside0.mk A830
                          clear A830
                          replace H := Option.bind_eq_some_iff.mp H
                          obtain ⟨t203, A840, H⟩ := H
                          replace H : ((chars_Split.f k6 ((rd_T29 l0 x5_1).f0) (⟨#[]⟩ : ByteArray)).bind fun t206 => ((some (([t191, t194, t197, t200, t203, t206] : List (List ByteArray)) : List (List ByteArray))).bind fun y209 => (if x3_1.length + y209.length < 5864062014805 then (abacuslaw20_CharsKeeps.l0 k6 l0 (x3_1 ++ y209) (wrap64 (x4_1 + (((rd_T29 l0 x5_1).f0).size : Int))) (wrap64 (x5_1 + 1))) else (none)))) = some true := H
                          have A84 := Aside0.mk A840
                          clear A840
                          replace H := Option.bind_eq_some_iff.mp H
                          obtain ⟨t206, A850, H⟩ := H
                          replace H : ((some (([t191, t194, t197, t200, t203, t206] : List (List ByteArray)) : List (List ByteArray))).bind fun y209 => (if x3_1.length + y209.length < 5864062014805 then (abacuslaw20_CharsKeeps.l0 k6 l0 (x3_1 ++ y209) (wrap64 (x4_1 + (((rd_T29 l0 x5_1).f0).size : Int))) (wrap64 (x5_1 + 1))) else (none))) = some true := H
                          have A85 := Aside0.mk A850
                          clear A850
                          obtain ⟨y209, hy209⟩ : ∃ y_ : List (List ByteArray), y_ = (([t191, t194, t197, t200, t203, t206] : List (List ByteArray))) := ⟨_, rfl⟩
                          replace H : (if x3_1.length + y209.length < 5864062014805 then (abacuslaw20_CharsKeeps.l0 k6 l0 (x3_1 ++ y209) (wrap64 (x4_1 + (((rd_T29 l0 x5_1).f0).size : Int))) (wrap64 (x5_1 + 1))) else (none)) = some true := by first | (rw [hy209]; with_reducible exact H) | (have H2_ := (Option.bind_some _ _).symm.trans H; rw [hy209]; with_reducible exact H2_) | (have H2_ := (Option.bind_some _ _).symm.trans H; with_reducible exact H2_) | with_reducible exact H | (rw [hy209]; exact H) | exact H
                          have Ny209 := Aside0.mk hy209
                          clear hy209
                          by_cases c86 : x3_1.length + y209.length < 5864062014805
                          ·rw [if_pos c86] at H
                           have LMc86 := Aside0.mk c86
                           clear c86
                           obtain ⟨y212, hy212⟩ : ∃ y_ : List (List ByteArray), y_ = (x3_1 ++ y209) := ⟨_, rfl⟩
                           replace H : (abacuslaw20_CharsKeeps.l0 k6 l0 y212 (wrap64 (x4_1 + (((rd_T29 l0 x5_1).f0).size : Int))) (wrap64 (x5_1 + 1))) = some true := by first | (rw [hy212]; with_reducible exact H) | (have H2_ := (Option.bind_some _ _).symm.trans H; rw [hy212]; with_reducible exact H2_) | (have H2_ := (Option.bind_some _ _).symm.trans H; with_reducible exact H2_) | with_reducible exact H | (rw [hy212]; exact H) | exact H
                           have Ny212 := Aside0.mk hy212
                           clear hy212
                           have H' := Aside0.mk H
                           clear H
                           try go_wp2
                           have n0_ := Aside0.mk (Kd.S_drew HO_3.out)
                           have n1_ := Aside0.mk (Kd.R_drew HO_7.out)
                           have n2_ := Aside0.mk (blk_drew BK164.out)
                           have n3_ := Aside0.mk (below_drew1 HB.out)
                           clear HO_3
                           clear HO_7
                           clear BK164
                           clear HB
                           have HO_3 := n0_
                           have HO_7 := n1_
                           have BK164 := n2_
                           have HB := n3_
                           clear n0_ n1_ n2_ n3_
                           refine start_ (n := 26) (S := fun w' => w'.cell? ⟨gb164, 0, none⟩ = some (.string ((rd_T29 l0 x5_1).f0)) ∧ w'.cell? ⟨gb164, 1, none⟩ = some (.string ((rd_T29 l0 x5_1).f1)) ∧ w'.cell? ⟨gb164, 2, none⟩ = some (.string ((rd_T29 l0 x5_1).f2)) ∧ w'.cell? ⟨gb164, 3, none⟩ = some (.int .u64 ((rd_T29 l0 x5_1).f3)) ∧ w'.cell? ⟨gb164, 4, none⟩ = some (.int .u64 ((rd_T29 l0 x5_1).f4)) ∧ w'.cell? ⟨gb164, 5, none⟩ = some (.slice A163_5 ((rd_T29 l0 x5_1).f5).length c163_5) ∧ w'.cell? ⟨gb164, 6, none⟩ = some (.int .i64 ((rd_T29 l0 x5_1).f6))) (ds := []) #[false, false, false, false, false, false, false, false, false, false, false, false, false, false, false, false, false, false, false, false, false, false, false, false, false, false] (by kernel_rfl) rfl rfl ⟨(blk_cell BK164.out 0).trans rfl, (blk_cell BK164.out 1).trans rfl, (blk_cell BK164.out 2).trans rfl, (blk_cell BK164.out 3).trans rfl, (blk_cell BK164.out 4).trans rfl, (blk_cell BK164.out 5).trans rfl, (blk_cell BK164.out 6).trans rfl⟩ (fun hHeld => ?_); refine with_tabW abacuslaw20_CharsKeeps.tab28 abacuslaw20_CharsKeeps.bits28 (fun HT_ HW_ => ?_)
                           generalize wr.drew = w87 at HO_3 HO_7 BK164 HB hHeld ⊢
                           refine pure_ (i := 0) (N := some 162) (v := ?_) (a' := ?_) #[true, false, false, false, false, false, false, false, false, false, false, false, false, false, false, false, false, false, false, false, false, false, false, false, false, false] rfl rfl (any_of HT_.out (by kernel_rfl)) (fun _ _ _ h => h) (Or.inl ⟨by rfl, ?_⟩) ?_ ?_
                           rotate_left
                           ·intro w'
                            go_simp
                            with_reducible rfl
                           rotate_left
                           ·simp only [Act.put, List.setIfInBounds_toArray, List.set_cons_zero, List.set_cons_succ, i64_w, i32_w]
                            rfl
                           refine pure_ (i := 1) (N := some 163) (v := ?_) (a' := ?_) #[true, true, false, false, false, false, false, false, false, false, false, false, false, false, false, false, false, false, false, false, false, false, false, false, false, false] rfl rfl (any_of HT_.out (by kernel_rfl)) (fun _ _ _ h => h) (Or.inl ⟨by rfl, ?_⟩) ?_ ?_
                           rotate_left
                           ·intro w'
                            go_simp
                            with_reducible rfl
                           rotate_left
                           ·simp only [Act.put, List.setIfInBounds_toArray, List.set_cons_zero, List.set_cons_succ, i64_w, i32_w]
                            rfl
                           refine pure_ (i := 3) (N := some 165) (v := ?_) (a' := ?_) #[true, true, false, true, false, false, false, false, false, false, false, false, false, false, false, false, false, false, false, false, false, false, false, false, false, false] rfl rfl (any_of HT_.out (by kernel_rfl)) (fun _ _ _ h => h) (Or.inl ⟨by rfl, ?_⟩) ?_ ?_
                           rotate_left
                           ·intro w'
                            go_simp
                            with_reducible rfl
                           rotate_left
                           ·simp only [Act.put, List.setIfInBounds_toArray, List.set_cons_zero, List.set_cons_succ, i64_w, i32_w]
                            rfl
                           refine pure_ (i := 6) (N := some 168) (v := ?_) (a' := ?_) #[true, true, false, true, false, false, true, false, false, false, false, false, false, false, false, false, false, false, false, false, false, false, false, false, false, false] rfl rfl (any_of HT_.out (by kernel_rfl)) (fun _ _ _ h => h) (Or.inl ⟨by rfl, ?_⟩) ?_ ?_
                           rotate_left
                           ·intro w'
                            go_simp
                            with_reducible rfl
                           rotate_left
                           ·simp only [Act.put, List.setIfInBounds_toArray, List.set_cons_zero, List.set_cons_succ, i64_w, i32_w]
                            rfl
                           refine pure_ (i := 8) (N := some 170) (v := ?_) (a' := ?_) #[true, true, false, true, false, false, true, false, true, false, false, false, false, false, false, false, false, false, false, false, false, false, false, false, false, false] rfl rfl (any_of HT_.out (by kernel_rfl)) (fun _ _ _ h => h) (Or.inl ⟨by rfl, ?_⟩) ?_ ?_
                           rotate_left
                           ·intro w'
                            go_simp
                            with_reducible rfl
                           rotate_left
                           ·simp only [Act.put, List.setIfInBounds_toArray, List.set_cons_zero, List.set_cons_succ, i64_w, i32_w]
                            rfl
                           refine pure_ (i := 11) (N := some 173) (v := ?_) (a' := ?_) #[true, true, false, true, false, false, true, false, true, false, false, true, false, false, false, false, false, false, false, false, false, false, false, false, false, false] rfl rfl (any_of HT_.out (by kernel_rfl)) (fun _ _ _ h => h) (Or.inl ⟨by rfl, ?_⟩) ?_ ?_
                           rotate_left
                           ·intro w'
                            go_simp
                            with_reducible rfl
                           rotate_left
                           ·simp only [Act.put, List.setIfInBounds_toArray, List.set_cons_zero, List.set_cons_succ, i64_w, i32_w]
                            rfl
                           refine pure_ (i := 14) (N := some 176) (v := ?_) (a' := ?_) #[true, true, false, true, false, false, true, false, true, false, false, true, false, false, true, false, false, false, false, false, false, false, false, false, false, false] rfl rfl (any_of HT_.out (by kernel_rfl)) (fun _ _ _ h => h) (Or.inl ⟨by rfl, ?_⟩) ?_ ?_
                           rotate_left
                           ·intro w'
                            go_simp
                            with_reducible rfl
                           rotate_left
                           ·simp only [Act.put, List.setIfInBounds_toArray, List.set_cons_zero, List.set_cons_succ, i64_w, i32_w]
                            rfl
                           refine pure_ (i := 17) (N := some 179) (v := ?_) (a' := ?_) #[true, true, false, true, false, false, true, false, true, false, false, true, false, false, true, false, false, true, false, false, false, false, false, false, false, false] rfl rfl (any_of HT_.out (by kernel_rfl)) (fun _ _ _ h => h) (Or.inl ⟨by rfl, ?_⟩) ?_ ?_
                           rotate_left
                           ·intro w'
                            go_simp
                            with_reducible rfl
                           rotate_left
                           ·simp only [Act.put, List.setIfInBounds_toArray, List.set_cons_zero, List.set_cons_succ, i64_w, i32_w]
                            rfl
                           refine pure_ (i := 20) (N := some 182) (v := ?_) (a' := ?_) #[true, true, false, true, false, false, true, false, true, false, false, true, false, false, true, false, false, true, false, false, true, false, false, false, false, false] rfl rfl (any_of HT_.out (by kernel_rfl)) (fun _ _ _ h => h) (Or.inl ⟨by rfl, ?_⟩) ?_ ?_
                           rotate_left
                           ·intro w'
                            go_simp
                            with_reducible rfl
                           rotate_left
                           ·simp only [Act.put, List.setIfInBounds_toArray, List.set_cons_zero, List.set_cons_succ, i64_w, i32_w]
                            rfl
                           refine take_ (i := 2) (N := some 164) (v := ?_) (a' := ?_) #[true, true, true, true, false, false, true, false, true, false, false, true, false, false, true, false, false, true, false, false, true, false, false, false, false, false] rfl rfl (take_ofW HT_.out HW_.out (by kernel_rfl)) (fun _ _ _ h => h) (Or.inl ⟨by rfl, ?_⟩) hHeld ?_ ?_
                           rotate_left
                           ·rintro w' ⟨s0, s1, s2, s3, s4, s5, s6⟩
                            go_simp
                            with_reducible rfl
                           rotate_left
                           ·simp only [Act.put, List.setIfInBounds_toArray, List.set_cons_zero, List.set_cons_succ, i64_w, i32_w]
                            rfl
                           refine take_ (i := 4) (N := some 166) (v := ?_) (a' := ?_) #[true, true, true, true, true, false, true, false, true, false, false, true, false, false, true, false, false, true, false, false, true, false, false, false, false, false] rfl rfl (take_ofW HT_.out HW_.out (by kernel_rfl)) (fun _ _ _ h => h) (Or.inl ⟨by rfl, ?_⟩) hHeld ?_ ?_
                           rotate_left
                           ·rintro w' ⟨s0, s1, s2, s3, s4, s5, s6⟩
                            go_simp
                            with_reducible rfl
                           rotate_left
                           ·simp only [Act.put, List.setIfInBounds_toArray, List.set_cons_zero, List.set_cons_succ, i64_w, i32_w]
                            rfl
                           refine take_ (i := 7) (N := some 169) (v := ?_) (a' := ?_) #[true, true, true, true, true, false, true, true, true, false, false, true, false, false, true, false, false, true, false, false, true, false, false, false, false, false] rfl rfl (take_ofW HT_.out HW_.out (by kernel_rfl)) (fun _ _ _ h => h) (Or.inl ⟨by rfl, ?_⟩) hHeld ?_ ?_
                           rotate_left
                           ·rintro w' ⟨s0, s1, s2, s3, s4, s5, s6⟩
                            go_simp
                            with_reducible rfl
                           rotate_left
                           ·simp only [Act.put, List.setIfInBounds_toArray, List.set_cons_zero, List.set_cons_succ, i64_w, i32_w]
                            rfl
                           refine take_ (i := 9) (N := some 171) (v := ?_) (a' := ?_) #[true, true, true, true, true, false, true, true, true, true, false, true, false, false, true, false, false, true, false, false, true, false, false, false, false, false] rfl rfl (take_ofW HT_.out HW_.out (by kernel_rfl)) (fun _ _ _ h => h) (Or.inl ⟨by rfl, ?_⟩) hHeld ?_ ?_
                           rotate_left
                           ·rintro w' ⟨s0, s1, s2, s3, s4, s5, s6⟩
                            go_simp
                            with_reducible rfl
                           rotate_left
                           ·simp only [Act.put, List.setIfInBounds_toArray, List.set_cons_zero, List.set_cons_succ, i64_w, i32_w]
                            rfl
                           refine take_ (i := 12) (N := some 174) (v := ?_) (a' := ?_) #[true, true, true, true, true, false, true, true, true, true, false, true, true, false, true, false, false, true, false, false, true, false, false, false, false, false] rfl rfl (take_ofW HT_.out HW_.out (by kernel_rfl)) (fun _ _ _ h => h) (Or.inl ⟨by rfl, ?_⟩) hHeld ?_ ?_
                           rotate_left
                           ·rintro w' ⟨s0, s1, s2, s3, s4, s5, s6⟩
                            go_simp
                            with_reducible rfl
                           rotate_left
                           ·simp only [Act.put, List.setIfInBounds_toArray, List.set_cons_zero, List.set_cons_succ, i64_w, i32_w]
                            rfl
                           refine take_ (i := 15) (N := some 177) (v := ?_) (a' := ?_) #[true, true, true, true, true, false, true, true, true, true, false, true, true, false, true, true, false, true, false, false, true, false, false, false, false, false] rfl rfl (take_ofW HT_.out HW_.out (by kernel_rfl)) (fun _ _ _ h => h) (Or.inl ⟨by rfl, ?_⟩) hHeld ?_ ?_
                           rotate_left
                           ·rintro w' ⟨s0, s1, s2, s3, s4, s5, s6⟩
                            go_simp
                            with_reducible rfl
                           rotate_left
                           ·simp only [Act.put, List.setIfInBounds_toArray, List.set_cons_zero, List.set_cons_succ, i64_w, i32_w]
                            rfl
                           refine take_ (i := 18) (N := some 180) (v := ?_) (a' := ?_) #[true, true, true, true, true, false, true, true, true, true, false, true, true, false, true, true, false, true, true, false, true, false, false, false, false, false] rfl rfl (take_ofW HT_.out HW_.out (by kernel_rfl)) (fun _ _ _ h => h) (Or.inl ⟨by rfl, ?_⟩) hHeld ?_ ?_
                           rotate_left
                           ·rintro w' ⟨s0, s1, s2, s3, s4, s5, s6⟩
                            go_simp
                            with_reducible rfl
                           rotate_left
                           ·simp only [Act.put, List.setIfInBounds_toArray, List.set_cons_zero, List.set_cons_succ, i64_w, i32_w]
                            rfl
                           refine take_ (i := 21) (N := some 183) (v := ?_) (a' := ?_) #[true, true, true, true, true, false, true, true, true, true, false, true, true, false, true, true, false, true, true, false, true, true, false, false, false, false] rfl rfl (take_ofW HT_.out HW_.out (by kernel_rfl)) (fun _ _ _ h => h) (Or.inl ⟨by rfl, ?_⟩) hHeld ?_ ?_
                           rotate_left
                           ·rintro w' ⟨s0, s1, s2, s3, s4, s5, s6⟩
                            go_simp
                            with_reducible rfl
                           rotate_left
                           ·simp only [Act.put, List.setIfInBounds_toArray, List.set_cons_zero, List.set_cons_succ, i64_w, i32_w]
                            rfl
                           refine one_ (i := 5) (N := some 167) #[true, true, true, true, true, true, true, true, true, true, false, true, true, false, true, true, false, true, true, false, true, true, false, false, false, false] rfl rfl (one_of HT_.out (by kernel_rfl)) (by decide) (fun K hK => ?_)
                           refine goes_ Tryd.func10 (by kernel_rfl) rfl #[.string ((rd_T29 l0 x5_1).f0), .string ((rd_T29 l0 x5_1).f1)] (by rfl) rfl rfl (by (try simp only [List.map_toArray, List.map_cons, List.map_nil]); first | done | rfl | (simp only [List.length_drop, List.length_take]; rfl)) ?_
                           with_reducible refine (chars_Split.calls k6 ((rd_T29 l0 x5_1).f0) ((rd_T29 l0 x5_1).f1) t191 _ ?side1 A80.out).mono ?_
                           (case side1 => exact GW.below HG.out (by repeat (first | (with_reducible first | exact HB.out | apply below_alloc | apply pw_below_drewN | apply below_drew1 | refine below_set ?_ GE164.out) | exact HB.out)))
                           rintro e w88 ⟨v192, rfl, ho0, hb⟩
                           refine ⟨_, rfl, ?_⟩
                           have n0_ := Aside0.mk (Kd.S_elder' (by (with_reducible repeat (first | apply Kd.S_alloc | apply Kd.S_drewN | apply Kd.S_drew)); exact HO_3.out) (Kd.R_base ho0) hb)
                           have n1_ := Aside0.mk (Kd.R_elder' (by (with_reducible repeat (first | apply Kd.R_alloc | apply Kd.R_drewN | apply Kd.R_drew)); exact HO_7.out) (Kd.R_base ho0) hb)
                           have n2_ := Aside0.mk (Kd.R_lower (Kd.R_new' ho0 (Kd.R_lt (by (with_reducible repeat (first | apply Kd.R_alloc | apply Kd.R_drewN | apply Kd.R_drew)); exact HO_7.out))) (below_size (by repeat (first | (with_reducible first | exact HB.out | apply below_alloc | apply pw_below_drewN | apply below_drew1 | refine below_set ?_ GE164.out) | exact HB.out))))
                           have n3_ := Aside0.mk (blk_below (g := gb164) (o := .cells #[.string ((rd_T29 l0 x5_1).f0), .string ((rd_T29 l0 x5_1).f1), .string ((rd_T29 l0 x5_1).f2), .int .u64 ((rd_T29 l0 x5_1).f3), .int .u64 ((rd_T29 l0 x5_1).f4), .slice A163_5 ((rd_T29 l0 x5_1).f5).length c163_5, .int .i64 ((rd_T29 l0 x5_1).f6)] 29 (0, 0)) (by (with_reducible repeat (first | refine blk_drewN ?_ _ | refine blk_drew ?_ | refine blk_alloc ?_ _)); exact BK164.out) hb)
                           have n4_ := Aside0.mk (below_step (by repeat (first | (with_reducible first | exact HB.out | apply below_alloc | apply pw_below_drewN | apply below_drew1 | refine below_set ?_ GE164.out) | exact HB.out)) hb)
                           clear HO_3
                           clear HO_7
                           clear BK164
                           clear HB
                           have HO_3 := n0_
                           have HO_7 := n1_
                           have HO193 := n2_
                           have BK164 := n3_
                           have HB := n4_
                           clear n0_ n1_ n2_ n3_ n4_
                           (try clear hb)
                           (try clear hb2)
                           (try clear hk)
                           (try clear hi)
                           (try clear ho0)
                           refine hK.out _ _ ⟨(blk_cell BK164.out 0).trans rfl, (blk_cell BK164.out 1).trans rfl, (blk_cell BK164.out 2).trans rfl, (blk_cell BK164.out 3).trans rfl, (blk_cell BK164.out 4).trans rfl, (blk_cell BK164.out 5).trans rfl, (blk_cell BK164.out 6).trans rfl⟩ (fun hHeld => ?_)
                           clear hK K
                           refine norm_ (a' := ?_) ?_ ?_
                           rotate_left
                           ·show Act.put _ (some 167) _ = _
                            simp only [Act.put, List.setIfInBounds_toArray, List.set_cons_zero, List.set_cons_succ, i64_w, i32_w]
                            rfl
                           refine one_ (i := 10) (N := some 172) #[true, true, true, true, true, true, true, true, true, true, true, true, true, false, true, true, false, true, true, false, true, true, false, false, false, false] rfl rfl (one_of HT_.out (by kernel_rfl)) (by decide) (fun K hK => ?_)
                           refine goes_ Tryd.func10 (by kernel_rfl) rfl #[.string ((rd_T29 l0 x5_1).f0), .string ((rd_T29 l0 x5_1).f1)] (by rfl) rfl rfl (by (try simp only [List.map_toArray, List.map_cons, List.map_nil]); first | done | rfl | (simp only [List.length_drop, List.length_take]; rfl)) ?_
                           with_reducible refine (chars_Split.calls k6 ((rd_T29 l0 x5_1).f0) ((rd_T29 l0 x5_1).f1) t194 _ ?side1 A81.out).mono ?_
                           (case side1 => exact GW.below HG.out (by repeat (first | (with_reducible first | exact HB.out | apply below_alloc | apply pw_below_drewN | apply below_drew1 | refine below_set ?_ GE164.out) | exact HB.out)))
                           rintro e w89 ⟨v195, rfl, ho0, hb⟩
                           refine ⟨_, rfl, ?_⟩
                           have n0_ := Aside0.mk (Kd.S_elder' (by (with_reducible repeat (first | apply Kd.S_alloc | apply Kd.S_drewN | apply Kd.S_drew)); exact HO_3.out) (Kd.R_base ho0) hb)
                           have n1_ := Aside0.mk (Kd.R_elder' (by (with_reducible repeat (first | apply Kd.R_alloc | apply Kd.R_drewN | apply Kd.R_drew)); exact HO_7.out) (Kd.R_base ho0) hb)
                           have n2_ := Aside0.mk (Kd.R_elder' (by (with_reducible repeat (first | apply Kd.R_alloc | apply Kd.R_drewN | apply Kd.R_drew)); exact HO193.out) (Kd.R_base ho0) hb)
                           have n3_ := Aside0.mk (Kd.R_lower (Kd.R_new' (Kd.R_new' ho0 (Kd.R_lt (by (with_reducible repeat (first | apply Kd.R_alloc | apply Kd.R_drewN | apply Kd.R_drew)); exact HO_7.out))) (Kd.R_lt (by (with_reducible repeat (first | apply Kd.R_alloc | apply Kd.R_drewN | apply Kd.R_drew)); exact HO193.out))) (below_size (by repeat (first | (with_reducible first | exact HB.out | apply below_alloc | apply pw_below_drewN | apply below_drew1 | refine below_set ?_ GE164.out) | exact HB.out))))
                           have n4_ := Aside0.mk (blk_below (g := gb164) (o := .cells #[.string ((rd_T29 l0 x5_1).f0), .string ((rd_T29 l0 x5_1).f1), .string ((rd_T29 l0 x5_1).f2), .int .u64 ((rd_T29 l0 x5_1).f3), .int .u64 ((rd_T29 l0 x5_1).f4), .slice A163_5 ((rd_T29 l0 x5_1).f5).length c163_5, .int .i64 ((rd_T29 l0 x5_1).f6)] 29 (0, 0)) (by (with_reducible repeat (first | refine blk_drewN ?_ _ | refine blk_drew ?_ | refine blk_alloc ?_ _)); exact BK164.out) hb)
                           have n5_ := Aside0.mk (below_step (by repeat (first | (with_reducible first | exact HB.out | apply below_alloc | apply pw_below_drewN | apply below_drew1 | refine below_set ?_ GE164.out) | exact HB.out)) hb)
                           clear HO_3
                           clear HO_7
                           clear HO193
                           clear BK164
                           clear HB
                           have HO_3 := n0_
                           have HO_7 := n1_
                           have HO193 := n2_
                           have HO196 := n3_
                           have BK164 := n4_
                           have HB := n5_
                           clear n0_ n1_ n2_ n3_ n4_ n5_
                           (try clear hb)
                           (try clear hb2)
                           (try clear hk)
                           (try clear hi)
                           (try clear ho0)
                           refine hK.out _ _ ⟨(blk_cell BK164.out 0).trans rfl, (blk_cell BK164.out 1).trans rfl, (blk_cell BK164.out 2).trans rfl, (blk_cell BK164.out 3).trans rfl, (blk_cell BK164.out 4).trans rfl, (blk_cell BK164.out 5).trans rfl, (blk_cell BK164.out 6).trans rfl⟩ (fun hHeld => ?_)
                           clear hK K
                           refine norm_ (a' := ?_) ?_ ?_
                           rotate_left
                           ·show Act.put _ (some 172) _ = _
                            simp only [Act.put, List.setIfInBounds_toArray, List.set_cons_zero, List.set_cons_succ, i64_w, i32_w]
                            rfl
                           refine one_ (i := 13) (N := some 175) #[true, true, true, true, true, true, true, true, true, true, true, true, true, true, true, true, false, true, true, false, true, true, false, false, false, false] rfl rfl (one_of HT_.out (by kernel_rfl)) (by decide) (fun K hK => ?_)
                           refine goes_ Tryd.func10 (by kernel_rfl) rfl #[.string ((rd_T29 l0 x5_1).f0), .string (⟨#[32]⟩ : ByteArray)] (by rfl) rfl rfl (by (try simp only [List.map_toArray, List.map_cons, List.map_nil]); first | done | rfl | (simp only [List.length_drop, List.length_take]; rfl)) ?_
                           with_reducible refine (chars_Split.calls k6 ((rd_T29 l0 x5_1).f0) (⟨#[32]⟩ : ByteArray) t197 _ ?side1 A82.out).mono ?_
                           (case side1 => exact GW.below HG.out (by repeat (first | (with_reducible first | exact HB.out | apply below_alloc | apply pw_below_drewN | apply below_drew1 | refine below_set ?_ GE164.out) | exact HB.out)))
                           rintro e w90 ⟨v198, rfl, ho0, hb⟩
                           refine ⟨_, rfl, ?_⟩
                           have n0_ := Aside0.mk (Kd.S_elder' (by (with_reducible repeat (first | apply Kd.S_alloc | apply Kd.S_drewN | apply Kd.S_drew)); exact HO_3.out) (Kd.R_base ho0) hb)
                           have n1_ := Aside0.mk (Kd.R_elder' (by (with_reducible repeat (first | apply Kd.R_alloc | apply Kd.R_drewN | apply Kd.R_drew)); exact HO_7.out) (Kd.R_base ho0) hb)
                           have n2_ := Aside0.mk (Kd.R_elder' (by (with_reducible repeat (first | apply Kd.R_alloc | apply Kd.R_drewN | apply Kd.R_drew)); exact HO193.out) (Kd.R_base ho0) hb)
                           have n3_ := Aside0.mk (Kd.R_elder' (by (with_reducible repeat (first | apply Kd.R_alloc | apply Kd.R_drewN | apply Kd.R_drew)); exact HO196.out) (Kd.R_base ho0) hb)
                           have n4_ := Aside0.mk (Kd.R_lower (Kd.R_new' (Kd.R_new' (Kd.R_new' ho0 (Kd.R_lt (by (with_reducible repeat (first | apply Kd.R_alloc | apply Kd.R_drewN | apply Kd.R_drew)); exact HO_7.out))) (Kd.R_lt (by (with_reducible repeat (first | apply Kd.R_alloc | apply Kd.R_drewN | apply Kd.R_drew)); exact HO193.out))) (Kd.R_lt (by (with_reducible repeat (first | apply Kd.R_alloc | apply Kd.R_drewN | apply Kd.R_drew)); exact HO196.out))) (below_size (by repeat (first | (with_reducible first | exact HB.out | apply below_alloc | apply pw_below_drewN | apply below_drew1 | refine below_set ?_ GE164.out) | exact HB.out))))
                           have n5_ := Aside0.mk (blk_below (g := gb164) (o := .cells #[.string ((rd_T29 l0 x5_1).f0), .string ((rd_T29 l0 x5_1).f1), .string ((rd_T29 l0 x5_1).f2), .int .u64 ((rd_T29 l0 x5_1).f3), .int .u64 ((rd_T29 l0 x5_1).f4), .slice A163_5 ((rd_T29 l0 x5_1).f5).length c163_5, .int .i64 ((rd_T29 l0 x5_1).f6)] 29 (0, 0)) (by (with_reducible repeat (first | refine blk_drewN ?_ _ | refine blk_drew ?_ | refine blk_alloc ?_ _)); exact BK164.out) hb)
                           have n6_ := Aside0.mk (below_step (by repeat (first | (with_reducible first | exact HB.out | apply below_alloc | apply pw_below_drewN | apply below_drew1 | refine below_set ?_ GE164.out) | exact HB.out)) hb)
                           clear HO_3
                           clear HO_7
                           clear HO193
                           clear HO196
                           clear BK164
                           clear HB
                           have HO_3 := n0_
                           have HO_7 := n1_
                           have HO193 := n2_
                           have HO196 := n3_
                           have HO199 := n4_
                           have BK164 := n5_
                           have HB := n6_
                           clear n0_ n1_ n2_ n3_ n4_ n5_ n6_
                           (try clear hb)
                           (try clear hb2)
                           (try clear hk)
                           (try clear hi)
                           (try clear ho0)
                           refine hK.out _ _ ⟨(blk_cell BK164.out 0).trans rfl, (blk_cell BK164.out 1).trans rfl, (blk_cell BK164.out 2).trans rfl, (blk_cell BK164.out 3).trans rfl, (blk_cell BK164.out 4).trans rfl, (blk_cell BK164.out 5).trans rfl, (blk_cell BK164.out 6).trans rfl⟩ (fun hHeld => ?_)
                           clear hK K
                           refine norm_ (a' := ?_) ?_ ?_
                           rotate_left
                           ·show Act.put _ (some 175) _ = _
                            simp only [Act.put, List.setIfInBounds_toArray, List.set_cons_zero, List.set_cons_succ, i64_w, i32_w]
                            rfl
                           refine one_ (i := 16) (N := some 178) #[true, true, true, true, true, true, true, true, true, true, true, true, true, true, true, true, true, true, true, false, true, true, false, false, false, false] rfl rfl (one_of HT_.out (by kernel_rfl)) (by decide) (fun K hK => ?_)
                           refine goes_ Tryd.func10 (by kernel_rfl) rfl #[.string ((rd_T29 l0 x5_1).f0), .string (⟨#[32]⟩ : ByteArray)] (by rfl) rfl rfl (by (try simp only [List.map_toArray, List.map_cons, List.map_nil]); first | done | rfl | (simp only [List.length_drop, List.length_take]; rfl)) ?_
                           with_reducible refine (chars_Split.calls k6 ((rd_T29 l0 x5_1).f0) (⟨#[32]⟩ : ByteArray) t200 _ ?side1 A83.out).mono ?_
                           (case side1 => exact GW.below HG.out (by repeat (first | (with_reducible first | exact HB.out | apply below_alloc | apply pw_below_drewN | apply below_drew1 | refine below_set ?_ GE164.out) | exact HB.out)))
                           rintro e w91 ⟨v201, rfl, ho0, hb⟩
                           refine ⟨_, rfl, ?_⟩
                           have n0_ := Aside0.mk (Kd.S_elder' (by (with_reducible repeat (first | apply Kd.S_alloc | apply Kd.S_drewN | apply Kd.S_drew)); exact HO_3.out) (Kd.R_base ho0) hb)
                           have n1_ := Aside0.mk (Kd.R_elder' (by (with_reducible repeat (first | apply Kd.R_alloc | apply Kd.R_drewN | apply Kd.R_drew)); exact HO_7.out) (Kd.R_base ho0) hb)
                           have n2_ := Aside0.mk (Kd.R_elder' (by (with_reducible repeat (first | apply Kd.R_alloc | apply Kd.R_drewN | apply Kd.R_drew)); exact HO193.out) (Kd.R_base ho0) hb)
                           have n3_ := Aside0.mk (Kd.R_elder' (by (with_reducible repeat (first | apply Kd.R_alloc | apply Kd.R_drewN | apply Kd.R_drew)); exact HO196.out) (Kd.R_base ho0) hb)
                           have n4_ := Aside0.mk (Kd.R_elder' (by (with_reducible repeat (first | apply Kd.R_alloc | apply Kd.R_drewN | apply Kd.R_drew)); exact HO199.out) (Kd.R_base ho0) hb)
                           have n5_ := Aside0.mk (Kd.R_lower (Kd.R_new' (Kd.R_new' (Kd.R_new' (Kd.R_new' ho0 (Kd.R_lt (by (with_reducible repeat (first | apply Kd.R_alloc | apply Kd.R_drewN | apply Kd.R_drew)); exact HO_7.out))) (Kd.R_lt (by (with_reducible repeat (first | apply Kd.R_alloc | apply Kd.R_drewN | apply Kd.R_drew)); exact HO193.out))) (Kd.R_lt (by (with_reducible repeat (first | apply Kd.R_alloc | apply Kd.R_drewN | apply Kd.R_drew)); exact HO196.out))) (Kd.R_lt (by (with_reducible repeat (first | apply Kd.R_alloc | apply Kd.R_drewN | apply Kd.R_drew)); exact HO199.out))) (below_size (by repeat (first | (with_reducible first | exact HB.out | apply below_alloc | apply pw_below_drewN | apply below_drew1 | refine below_set ?_ GE164.out) | exact HB.out))))
                           have n6_ := Aside0.mk (blk_below (g := gb164) (o := .cells #[.string ((rd_T29 l0 x5_1).f0), .string ((rd_T29 l0 x5_1).f1), .string ((rd_T29 l0 x5_1).f2), .int .u64 ((rd_T29 l0 x5_1).f3), .int .u64 ((rd_T29 l0 x5_1).f4), .slice A163_5 ((rd_T29 l0 x5_1).f5).length c163_5, .int .i64 ((rd_T29 l0 x5_1).f6)] 29 (0, 0)) (by (with_reducible repeat (first | refine blk_drewN ?_ _ | refine blk_drew ?_ | refine blk_alloc ?_ _)); exact BK164.out) hb)
                           have n7_ := Aside0.mk (below_step (by repeat (first | (with_reducible first | exact HB.out | apply below_alloc | apply pw_below_drewN | apply below_drew1 | refine below_set ?_ GE164.out) | exact HB.out)) hb)
                           clear HO_3
                           clear HO_7
                           clear HO193
                           clear HO196
                           clear HO199
                           clear BK164
                           clear HB
                           have HO_3 := n0_
                           have HO_7 := n1_
                           have HO193 := n2_
                           have HO196 := n3_
                           have HO199 := n4_
                           have HO202 := n5_
                           have BK164 := n6_
                           have HB := n7_
                           clear n0_ n1_ n2_ n3_ n4_ n5_ n6_ n7_
                           (try clear hb)
                           (try clear hb2)
                           (try clear hk)
                           (try clear hi)
                           (try clear ho0)
                           refine hK.out _ _ ⟨(blk_cell BK164.out 0).trans rfl, (blk_cell BK164.out 1).trans rfl, (blk_cell BK164.out 2).trans rfl, (blk_cell BK164.out 3).trans rfl, (blk_cell BK164.out 4).trans rfl, (blk_cell BK164.out 5).trans rfl, (blk_cell BK164.out 6).trans rfl⟩ (fun hHeld => ?_)
                           clear hK K
                           refine norm_ (a' := ?_) ?_ ?_
                           rotate_left
                           ·show Act.put _ (some 178) _ = _
                            simp only [Act.put, List.setIfInBounds_toArray, List.set_cons_zero, List.set_cons_succ, i64_w, i32_w]
                            rfl
                           refine one_ (i := 19) (N := some 181) #[true, true, true, true, true, true, true, true, true, true, true, true, true, true, true, true, true, true, true, true, true, true, false, false, false, false] rfl rfl (one_of HT_.out (by kernel_rfl)) (by decide) (fun K hK => ?_)
                           refine goes_ Tryd.func10 (by kernel_rfl) rfl #[.string ((rd_T29 l0 x5_1).f0), .string (⟨#[]⟩ : ByteArray)] (by rfl) rfl rfl (by (try simp only [List.map_toArray, List.map_cons, List.map_nil]); first | done | rfl | (simp only [List.length_drop, List.length_take]; rfl)) ?_
                           with_reducible refine (chars_Split.calls k6 ((rd_T29 l0 x5_1).f0) (⟨#[]⟩ : ByteArray) t203 _ ?side1 A84.out).mono ?_
                           (case side1 => exact GW.below HG.out (by repeat (first | (with_reducible first | exact HB.out | apply below_alloc | apply pw_below_drewN | apply below_drew1 | refine below_set ?_ GE164.out) | exact HB.out)))
                           rintro e w92 ⟨v204, rfl, ho0, hb⟩
                           refine ⟨_, rfl, ?_⟩
                           have n0_ := Aside0.mk (Kd.S_elder' (by (with_reducible repeat (first | apply Kd.S_alloc | apply Kd.S_drewN | apply Kd.S_drew)); exact HO_3.out) (Kd.R_base ho0) hb)
                           have n1_ := Aside0.mk (Kd.R_elder' (by (with_reducible repeat (first | apply Kd.R_alloc | apply Kd.R_drewN | apply Kd.R_drew)); exact HO_7.out) (Kd.R_base ho0) hb)
                           have n2_ := Aside0.mk (Kd.R_elder' (by (with_reducible repeat (first | apply Kd.R_alloc | apply Kd.R_drewN | apply Kd.R_drew)); exact HO193.out) (Kd.R_base ho0) hb)
                           have n3_ := Aside0.mk (Kd.R_elder' (by (with_reducible repeat (first | apply Kd.R_alloc | apply Kd.R_drewN | apply Kd.R_drew)); exact HO196.out) (Kd.R_base ho0) hb)
                           have n4_ := Aside0.mk (Kd.R_elder' (by (with_reducible repeat (first | apply Kd.R_alloc | apply Kd.R_drewN | apply Kd.R_drew)); exact HO199.out) (Kd.R_base ho0) hb)
                           have n5_ := Aside0.mk (Kd.R_elder' (by (with_reducible repeat (first | apply Kd.R_alloc | apply Kd.R_drewN | apply Kd.R_drew)); exact HO202.out) (Kd.R_base ho0) hb)
                           have n6_ := Aside0.mk (Kd.R_lower (Kd.R_new' (Kd.R_new' (Kd.R_new' (Kd.R_new' (Kd.R_new' ho0 (Kd.R_lt (by (with_reducible repeat (first | apply Kd.R_alloc | apply Kd.R_drewN | apply Kd.R_drew)); exact HO_7.out))) (Kd.R_lt (by (with_reducible repeat (first | apply Kd.R_alloc | apply Kd.R_drewN | apply Kd.R_drew)); exact HO193.out))) (Kd.R_lt (by (with_reducible repeat (first | apply Kd.R_alloc | apply Kd.R_drewN | apply Kd.R_drew)); exact HO196.out))) (Kd.R_lt (by (with_reducible repeat (first | apply Kd.R_alloc | apply Kd.R_drewN | apply Kd.R_drew)); exact HO199.out))) (Kd.R_lt (by (with_reducible repeat (first | apply Kd.R_alloc | apply Kd.R_drewN | apply Kd.R_drew)); exact HO202.out))) (below_size (by repeat (first | (with_reducible first | exact HB.out | apply below_alloc | apply pw_below_drewN | apply below_drew1 | refine below_set ?_ GE164.out) | exact HB.out))))
                           have n7_ := Aside0.mk (blk_below (g := gb164) (o := .cells #[.string ((rd_T29 l0 x5_1).f0), .string ((rd_T29 l0 x5_1).f1), .string ((rd_T29 l0 x5_1).f2), .int .u64 ((rd_T29 l0 x5_1).f3), .int .u64 ((rd_T29 l0 x5_1).f4), .slice A163_5 ((rd_T29 l0 x5_1).f5).length c163_5, .int .i64 ((rd_T29 l0 x5_1).f6)] 29 (0, 0)) (by (with_reducible repeat (first | refine blk_drewN ?_ _ | refine blk_drew ?_ | refine blk_alloc ?_ _)); exact BK164.out) hb)
                           have n8_ := Aside0.mk (below_step (by repeat (first | (with_reducible first | exact HB.out | apply below_alloc | apply pw_below_drewN | apply below_drew1 | refine below_set ?_ GE164.out) | exact HB.out)) hb)
                           clear HO_3
                           clear HO_7
                           clear HO193
                           clear HO196
                           clear HO199
                           clear HO202
                           clear BK164
                           clear HB
                           have HO_3 := n0_
                           have HO_7 := n1_
                           have HO193 := n2_
                           have HO196 := n3_
                           have HO199 := n4_
                           have HO202 := n5_
                           have HO205 := n6_
                           have BK164 := n7_
                           have HB := n8_
                           clear n0_ n1_ n2_ n3_ n4_ n5_ n6_ n7_ n8_
                           (try clear hb)
                           (try clear hb2)
                           (try clear hk)
                           (try clear hi)
                           (try clear ho0)
                           refine hK.out _ _ ⟨(blk_cell BK164.out 0).trans rfl, (blk_cell BK164.out 1).trans rfl, (blk_cell BK164.out 2).trans rfl, (blk_cell BK164.out 3).trans rfl, (blk_cell BK164.out 4).trans rfl, (blk_cell BK164.out 5).trans rfl, (blk_cell BK164.out 6).trans rfl⟩ (fun hHeld => ?_)
                           clear hK K
                           refine norm_ (a' := ?_) ?_ ?_
                           rotate_left
                           ·show Act.put _ (some 181) _ = _
                            simp only [Act.put, List.setIfInBounds_toArray, List.set_cons_zero, List.set_cons_succ, i64_w, i32_w]
                            rfl
                           refine one_ (i := 22) (N := some 184) #[true, true, true, true, true, true, true, true, true, true, true, true, true, true, true, true, true, true, true, true, true, true, true, false, false, false] rfl rfl (one_of HT_.out (by kernel_rfl)) (by decide) (fun K hK => ?_)
                           refine goes_ Tryd.func10 (by kernel_rfl) rfl #[.string ((rd_T29 l0 x5_1).f0), .string (⟨#[]⟩ : ByteArray)] (by rfl) rfl rfl (by (try simp only [List.map_toArray, List.map_cons, List.map_nil]); first | done | rfl | (simp only [List.length_drop, List.length_take]; rfl)) ?_
                           with_reducible refine (chars_Split.calls k6 ((rd_T29 l0 x5_1).f0) (⟨#[]⟩ : ByteArray) t206 _ ?side1 A85.out).mono ?_
                           (case side1 => exact GW.below HG.out (by repeat (first | (with_reducible first | exact HB.out | apply below_alloc | apply pw_below_drewN | apply below_drew1 | refine below_set ?_ GE164.out) | exact HB.out)))
                           rintro e w93 ⟨v207, rfl, ho0, hb⟩
                           refine ⟨_, rfl, ?_⟩
                           have n0_ := Aside0.mk (Kd.S_elder' (by (with_reducible repeat (first | apply Kd.S_alloc | apply Kd.S_drewN | apply Kd.S_drew)); exact HO_3.out) (Kd.R_base ho0) hb)
                           have n1_ := Aside0.mk (Kd.R_elder' (by (with_reducible repeat (first | apply Kd.R_alloc | apply Kd.R_drewN | apply Kd.R_drew)); exact HO_7.out) (Kd.R_base ho0) hb)
                           have n2_ := Aside0.mk (Kd.R_elder' (by (with_reducible repeat (first | apply Kd.R_alloc | apply Kd.R_drewN | apply Kd.R_drew)); exact HO193.out) (Kd.R_base ho0) hb)
                           have n3_ := Aside0.mk (Kd.R_elder' (by (with_reducible repeat (first | apply Kd.R_alloc | apply Kd.R_drewN | apply Kd.R_drew)); exact HO196.out) (Kd.R_base ho0) hb)
                           have n4_ := Aside0.mk (Kd.R_elder' (by (with_reducible repeat (first | apply Kd.R_alloc | apply Kd.R_drewN | apply Kd.R_drew)); exact HO199.out) (Kd.R_base ho0) hb)
                           have n5_ := Aside0.mk (Kd.R_elder' (by (with_reducible repeat (first | apply Kd.R_alloc | apply Kd.R_drewN | apply Kd.R_drew)); exact HO202.out) (Kd.R_base ho0) hb)
                           have n6_ := Aside0.mk (Kd.R_elder' (by (with_reducible repeat (first | apply Kd.R_alloc | apply Kd.R_drewN | apply Kd.R_drew)); exact HO205.out) (Kd.R_base ho0) hb)
                           have n7_ := Aside0.mk (Kd.R_lower (Kd.R_new' (Kd.R_new' (Kd.R_new' (Kd.R_new' (Kd.R_new' (Kd.R_new' ho0 (Kd.R_lt (by (with_reducible repeat (first | apply Kd.R_alloc | apply Kd.R_drewN | apply Kd.R_drew)); exact HO_7.out))) (Kd.R_lt (by (with_reducible repeat (first | apply Kd.R_alloc | apply Kd.R_drewN | apply Kd.R_drew)); exact HO193.out))) (Kd.R_lt (by (with_reducible repeat (first | apply Kd.R_alloc | apply Kd.R_drewN | apply Kd.R_drew)); exact HO196.out))) (Kd.R_lt (by (with_reducible repeat (first | apply Kd.R_alloc | apply Kd.R_drewN | apply Kd.R_drew)); exact HO199.out))) (Kd.R_lt (by (with_reducible repeat (first | apply Kd.R_alloc | apply Kd.R_drewN | apply Kd.R_drew)); exact HO202.out))) (Kd.R_lt (by (with_reducible repeat (first | apply Kd.R_alloc | apply Kd.R_drewN | apply Kd.R_drew)); exact HO205.out))) (below_size (by repeat (first | (with_reducible first | exact HB.out | apply below_alloc | apply pw_below_drewN | apply below_drew1 | refine below_set ?_ GE164.out) | exact HB.out))))
                           have n8_ := Aside0.mk (blk_below (g := gb164) (o := .cells #[.string ((rd_T29 l0 x5_1).f0), .string ((rd_T29 l0 x5_1).f1), .string ((rd_T29 l0 x5_1).f2), .int .u64 ((rd_T29 l0 x5_1).f3), .int .u64 ((rd_T29 l0 x5_1).f4), .slice A163_5 ((rd_T29 l0 x5_1).f5).length c163_5, .int .i64 ((rd_T29 l0 x5_1).f6)] 29 (0, 0)) (by (with_reducible repeat (first | refine blk_drewN ?_ _ | refine blk_drew ?_ | refine blk_alloc ?_ _)); exact BK164.out) hb)
                           have n9_ := Aside0.mk (below_step (by repeat (first | (with_reducible first | exact HB.out | apply below_alloc | apply pw_below_drewN | apply below_drew1 | refine below_set ?_ GE164.out) | exact HB.out)) hb)
                           clear HO_3
                           clear HO_7
                           clear HO193
                           clear HO196
                           clear HO199
                           clear HO202
                           clear HO205
                           clear BK164
                           clear HB
                           have HO_3 := n0_
                           have HO_7 := n1_
                           have HO193 := n2_
                           have HO196 := n3_
                           have HO199 := n4_
                           have HO202 := n5_
                           have HO205 := n6_
                           have HO208 := n7_
                           have BK164 := n8_
                           have HB := n9_
                           clear n0_ n1_ n2_ n3_ n4_ n5_ n6_ n7_ n8_ n9_
                           (try clear hb)
                           (try clear hb2)
                           (try clear hk)
                           (try clear hi)
                           (try clear ho0)
                           obtain ⟨Ao94, co94, eo94⟩ := Kd.R_slice HO193.out
                           (first | subst eo94 | (injection eo94 with f1_ f2_ f3_; have f4_ := f1_.symm; have f5_ := f3_.symm; clear f1_ f2_ f3_; subst f4_; subst f5_))
                           obtain ⟨Ao95, co95, eo95⟩ := Kd.R_slice HO196.out
                           (first | subst eo95 | (injection eo95 with f1_ f2_ f3_; have f4_ := f1_.symm; have f5_ := f3_.symm; clear f1_ f2_ f3_; subst f4_; subst f5_))
                           obtain ⟨Ao96, co96, eo96⟩ := Kd.R_slice HO199.out
                           (first | subst eo96 | (injection eo96 with f1_ f2_ f3_; have f4_ := f1_.symm; have f5_ := f3_.symm; clear f1_ f2_ f3_; subst f4_; subst f5_))
                           obtain ⟨Ao97, co97, eo97⟩ := Kd.R_slice HO202.out
                           (first | subst eo97 | (injection eo97 with f1_ f2_ f3_; have f4_ := f1_.symm; have f5_ := f3_.symm; clear f1_ f2_ f3_; subst f4_; subst f5_))
                           obtain ⟨Ao98, co98, eo98⟩ := Kd.R_slice HO205.out
                           (first | subst eo98 | (injection eo98 with f1_ f2_ f3_; have f4_ := f1_.symm; have f5_ := f3_.symm; clear f1_ f2_ f3_; subst f4_; subst f5_))
                           obtain ⟨Ao99, co99, eo99⟩ := Kd.R_slice HO208.out
                           (first | subst eo99 | (injection eo99 with f1_ f2_ f3_; have f4_ := f1_.symm; have f5_ := f3_.symm; clear f1_ f2_ f3_; subst f4_; subst f5_))
                           refine hK.out _ _ ⟨(blk_cell BK164.out 0).trans rfl, (blk_cell BK164.out 1).trans rfl, (blk_cell BK164.out 2).trans rfl, (blk_cell BK164.out 3).trans rfl, (blk_cell BK164.out 4).trans rfl, (blk_cell BK164.out 5).trans rfl, (blk_cell BK164.out 6).trans rfl⟩ (fun hHeld => ?_)
                           clear hK K
                           refine norm_ (a' := ?_) ?_ ?_
                           rotate_left
                           ·show Act.put _ (some 184) _ = _
                            simp only [Act.put, List.setIfInBounds_toArray, List.set_cons_zero, List.set_cons_succ, i64_w, i32_w]
                            rfl
                           refine one_ (i := 23) (N := some 185) #[true, true, true, true, true, true, true, true, true, true, true, true, true, true, true, true, true, true, true, true, true, true, true, true, false, false] rfl rfl (one_of HT_.out (by kernel_rfl)) (by decide) (fun K hK => ?_)
                           have HNE : List.Pairwise (fun v v' : Value => ∀ k, v.ownBlock = some k → v'.ownBlock ≠ some k) [.slice Ao94 t191.length co94, .slice Ao95 t194.length co95, .slice Ao96 t197.length co96, .slice Ao97 t200.length co97, .slice Ao98 t203.length co98, .slice Ao99 t206.length co99] := by
                            refine .cons ?_ (.cons ?_ (.cons ?_ (.cons ?_ (.cons ?_ (.cons ?_ .nil)))))
                            ·intro v_ hv_ k_ hk_ e_
                             have q_ := HO193.out.1 k_ hk_
                             simp only [List.mem_cons, List.not_mem_nil, or_false] at hv_
                             rcases hv_ with rfl | rfl | rfl | rfl | rfl <;> exact absurd e_.symm (by first | with_reducible exact q_.2 | with_reducible exact q_.1.2 | with_reducible exact q_.1.1.2 | with_reducible exact q_.1.1.1.2 | with_reducible exact q_.1.1.1.1.2 | with_reducible exact q_.1.1.1.1.1.2 | with_reducible exact q_.1.1.1.1.1.1.2 | with_reducible exact q_.1.1.1.1.1.1.1.2 | with_reducible exact q_.1.1.1.1.1.1.1.1.2)
                            ·intro v_ hv_ k_ hk_ e_
                             have q_ := HO196.out.1 k_ hk_
                             simp only [List.mem_cons, List.not_mem_nil, or_false] at hv_
                             rcases hv_ with rfl | rfl | rfl | rfl <;> exact absurd e_.symm (by first | with_reducible exact q_.2 | with_reducible exact q_.1.2 | with_reducible exact q_.1.1.2 | with_reducible exact q_.1.1.1.2 | with_reducible exact q_.1.1.1.1.2 | with_reducible exact q_.1.1.1.1.1.2 | with_reducible exact q_.1.1.1.1.1.1.2 | with_reducible exact q_.1.1.1.1.1.1.1.2 | with_reducible exact q_.1.1.1.1.1.1.1.1.2)
                            ·intro v_ hv_ k_ hk_ e_
                             have q_ := HO199.out.1 k_ hk_
                             simp only [List.mem_cons, List.not_mem_nil, or_false] at hv_
                             rcases hv_ with rfl | rfl | rfl <;> exact absurd e_.symm (by first | with_reducible exact q_.2 | with_reducible exact q_.1.2 | with_reducible exact q_.1.1.2 | with_reducible exact q_.1.1.1.2 | with_reducible exact q_.1.1.1.1.2 | with_reducible exact q_.1.1.1.1.1.2 | with_reducible exact q_.1.1.1.1.1.1.2 | with_reducible exact q_.1.1.1.1.1.1.1.2 | with_reducible exact q_.1.1.1.1.1.1.1.1.2)
                            ·intro v_ hv_ k_ hk_ e_
                             have q_ := HO202.out.1 k_ hk_
                             simp only [List.mem_cons, List.not_mem_nil, or_false] at hv_
                             rcases hv_ with rfl | rfl <;> exact absurd e_.symm (by first | with_reducible exact q_.2 | with_reducible exact q_.1.2 | with_reducible exact q_.1.1.2 | with_reducible exact q_.1.1.1.2 | with_reducible exact q_.1.1.1.1.2 | with_reducible exact q_.1.1.1.1.1.2 | with_reducible exact q_.1.1.1.1.1.1.2 | with_reducible exact q_.1.1.1.1.1.1.1.2 | with_reducible exact q_.1.1.1.1.1.1.1.1.2)
                            ·intro v_ hv_ k_ hk_ e_
                             have q_ := HO205.out.1 k_ hk_
                             simp only [List.mem_cons, List.not_mem_nil, or_false] at hv_
                             subst hv_; exact absurd e_.symm (by first | with_reducible exact q_.2 | with_reducible exact q_.1.2 | with_reducible exact q_.1.1.2 | with_reducible exact q_.1.1.1.2 | with_reducible exact q_.1.1.1.1.2 | with_reducible exact q_.1.1.1.1.1.2 | with_reducible exact q_.1.1.1.1.1.1.2 | with_reducible exact q_.1.1.1.1.1.1.1.2 | with_reducible exact q_.1.1.1.1.1.1.1.1.2)
                            ·intro v_ hv_; simp at hv_
                           have HOKP : Aside0 (∀ k_, okV [.slice Ao94 t191.length co94, .slice Ao95 t194.length co95, .slice Ao96 t197.length co96, .slice Ao97 t200.length co97, .slice Ao98 t203.length co98, .slice Ao99 t206.length co99] k_ → (fun k_ => some k_ ≠ (.slice Ao51 x7_4.length co51 : Value).ownBlock ∧ k_ ≠ gb164) k_ ∧ some k_ ≠ (u3 : Value).ownBlock) := ⟨by
                            rintro k_ ⟨v_, hv_, e_⟩
                            simp only [List.mem_cons, List.not_mem_nil, or_false] at hv_
                            rcases hv_ with rfl | rfl | rfl | rfl | rfl | rfl
                            ·have hk := (Kd.R_types (Kd.R_apart' (HO193.out) (Kd.S_typed HO_3.out) (by decide)) BK164.out (by decide)).1 k_ e_; exact ⟨⟨hk.1.1.1.1.1.1.1.2, hk.2⟩, hk.1.2⟩
                            ·have hk := (Kd.R_types (Kd.R_apart' (HO196.out) (Kd.S_typed HO_3.out) (by decide)) BK164.out (by decide)).1 k_ e_; exact ⟨⟨hk.1.1.1.1.1.1.1.2, hk.2⟩, hk.1.2⟩
                            ·have hk := (Kd.R_types (Kd.R_apart' (HO199.out) (Kd.S_typed HO_3.out) (by decide)) BK164.out (by decide)).1 k_ e_; exact ⟨⟨hk.1.1.1.1.1.1.1.2, hk.2⟩, hk.1.2⟩
                            ·have hk := (Kd.R_types (Kd.R_apart' (HO202.out) (Kd.S_typed HO_3.out) (by decide)) BK164.out (by decide)).1 k_ e_; exact ⟨⟨hk.1.1.1.1.1.1.1.2, hk.2⟩, hk.1.2⟩
                            ·have hk := (Kd.R_types (Kd.R_apart' (HO205.out) (Kd.S_typed HO_3.out) (by decide)) BK164.out (by decide)).1 k_ e_; exact ⟨⟨hk.1.1.1.1.1.1.1.2, hk.2⟩, hk.1.2⟩
                            ·have hk := (Kd.R_types (Kd.R_apart' (HO208.out) (Kd.S_typed HO_3.out) (by decide)) BK164.out (by decide)).1 k_ e_; exact ⟨⟨hk.1.1.1.1.1.1.1.2, hk.2⟩, hk.1.2⟩⟩
                           refine lits_step (w0 := w) (B := w.heap.size) ?hg (N := 185) ?hd [.slice Ao94 t191.length co94, .slice Ao95 t194.length co95, .slice Ao96 t197.length co96, .slice Ao97 t200.length co97, .slice Ao98 t203.length co98, .slice Ao99 t206.length co99] ([t191, t194, t197, t200, t203, t206] : List (List ByteArray)) ?hr rfl ?hR (ne_list HNE) ?hB ?hS (by simp) ?_; (case hd => rfl); (case hg => rfl); (case hr => exact build6 (.tmp 167) (.tmp 172) (.tmp 175) (.tmp 178) (.tmp 181) (.tmp 184) _ _ _ _ _ _ _ _ _ _ _ _ _ _ _ _ _ _ rfl rfl rfl rfl rfl rfl rfl); (case hB => exact (by repeat (first | (with_reducible first | exact HB.out | apply below_alloc | apply pw_below_drewN | apply below_drew1 | refine below_set ?_ GE164.out) | exact HB.out))); (case hS => exact (below_size (by repeat (first | (with_reducible first | exact HB.out | apply below_alloc | apply pw_below_drewN | apply below_drew1 | refine below_set ?_ GE164.out) | exact HB.out))))
                           case hR =>
                            intro j_ x_ hx_
                            match j_, hx_ with
                            | 0, hx_ => obtain rfl := Option.some.inj hx_; exact ⟨_, rfl, Kd.R_mono HO193.out (fun _ _ => trivial)⟩
                            | 1, hx_ => obtain rfl := Option.some.inj hx_; exact ⟨_, rfl, Kd.R_mono HO196.out (fun _ _ => trivial)⟩
                            | 2, hx_ => obtain rfl := Option.some.inj hx_; exact ⟨_, rfl, Kd.R_mono HO199.out (fun _ _ => trivial)⟩
                            | 3, hx_ => obtain rfl := Option.some.inj hx_; exact ⟨_, rfl, Kd.R_mono HO202.out (fun _ _ => trivial)⟩
                            | 4, hx_ => obtain rfl := Option.some.inj hx_; exact ⟨_, rfl, Kd.R_mono HO205.out (fun _ _ => trivial)⟩
                            | 5, hx_ => obtain rfl := Option.some.inj hx_; exact ⟨_, rfl, Kd.R_mono HO208.out (fun _ _ => trivial)⟩
                            | j_ + 6, hx_ => simp at hx_
                           intro v210 w100 ho101 hb hbs_
                           (first | rw [← Ny209.out] at ho101 | (simp only [Int.reduceToNat] at ho101; rw [← Ny209.out] at ho101))
                           have n0_ := Aside0.mk (Kd.S_elder' (by (with_reducible repeat (first | apply Kd.S_alloc | apply Kd.S_drewN | apply Kd.S_drew)); exact HO_3.out) hbs_ hb)
                           have n1_ := Aside0.mk (Kd.R_below (by (with_reducible repeat (first | apply Kd.R_alloc | apply Kd.R_drewN | apply Kd.R_drew)); exact HO_7.out) hb)
                           have n2_ := Aside0.mk ho101
                           have n3_ := Aside0.mk (blk_below (g := gb164) (o := .cells #[.string ((rd_T29 l0 x5_1).f0), .string ((rd_T29 l0 x5_1).f1), .string ((rd_T29 l0 x5_1).f2), .int .u64 ((rd_T29 l0 x5_1).f3), .int .u64 ((rd_T29 l0 x5_1).f4), .slice A163_5 ((rd_T29 l0 x5_1).f5).length c163_5, .int .i64 ((rd_T29 l0 x5_1).f6)] 29 (0, 0)) (by (with_reducible repeat (first | refine blk_drewN ?_ _ | refine blk_drew ?_ | refine blk_alloc ?_ _)); exact BK164.out) hb)
                           have n4_ := Aside0.mk (below_step (by repeat (first | (with_reducible first | exact HB.out | apply below_alloc | apply pw_below_drewN | apply below_drew1 | refine below_set ?_ GE164.out) | exact HB.out)) hb)
                           clear HO_3
                           clear HO_7
                           clear BK164
                           clear HB
                           clear HO193
                           clear HO196
                           clear HO199
                           clear HO202
                           clear HO205
                           clear HO208
                           have HO_3 := n0_
                           have HO_7 := n1_
                           have HO211 := n2_
                           have BK164 := n3_
                           have HB := n4_
                           clear n0_ n1_ n2_ n3_ n4_
                           clear hb ho101 hbs_ HNE
                           obtain ⟨Ao103, co103, eo103⟩ := Kd.S_slice HO211.out
                           (first | subst eo103 | (injection eo103 with f1_ f2_ f3_; have f4_ := f1_.symm; have f5_ := f3_.symm; clear f1_ f2_ f3_; subst f4_; subst f5_))
                           refine hK.out _ _ ⟨(blk_cell BK164.out 0).trans rfl, (blk_cell BK164.out 1).trans rfl, (blk_cell BK164.out 2).trans rfl, (blk_cell BK164.out 3).trans rfl, (blk_cell BK164.out 4).trans rfl, (blk_cell BK164.out 5).trans rfl, (blk_cell BK164.out 6).trans rfl⟩ (fun hHeld => ?_)
                           clear hK K
                           refine norm_ (a' := ?_) ?_ ?_
                           rotate_left
                           ·show Act.put _ (some 185) _ = _
                            simp only [Act.put, List.setIfInBounds_toArray, List.set_cons_zero, List.set_cons_succ, i64_w, i32_w]
                            rfl
                           refine one_ (i := 24) (N := some 186) #[true, true, true, true, true, true, true, true, true, true, true, true, true, true, true, true, true, true, true, true, true, true, true, true, true, false] rfl rfl (one_of HT_.out (by kernel_rfl)) (by decide) (fun K hK => ?_)
                           refine rows_step (w0 := w) (B := w.heap.size) (by rfl) (.tmp 162) (.tmp 185) rfl u3 _ x3_1 y209 [.slice Ao94 t191.length co94, .slice Ao95 t194.length co95, .slice Ao96 t197.length co96, .slice Ao97 t200.length co97, .slice Ao98 t203.length co98, .slice Ao99 t206.length co99] (fun k_ => some k_ ≠ (.slice Ao51 x7_4.length co51 : Value).ownBlock ∧ k_ ≠ gb164) rfl rfl ?aO ?aR HOKP.out ?aF ?aB ?aS ?aL ?_
                           (case aR => exact HO211.out)
                           (case aB => exact (by repeat (first | (with_reducible first | exact HB.out | apply below_alloc | apply pw_below_drewN | apply below_drew1 | refine below_set ?_ GE164.out) | exact HB.out)))
                           (case aF => exact (fun k_ hk => ⟨Kd.fresh' (Kd.R_lt (by (with_reducible repeat (first | apply Kd.R_alloc | apply Kd.R_drewN | apply Kd.R_drew)); exact HO_7.out)) k_ hk, Kd.freshB (g := gb164) (o := .cells #[.string ((rd_T29 l0 x5_1).f0), .string ((rd_T29 l0 x5_1).f1), .string ((rd_T29 l0 x5_1).f2), .int .u64 ((rd_T29 l0 x5_1).f3), .int .u64 ((rd_T29 l0 x5_1).f4), .slice A163_5 ((rd_T29 l0 x5_1).f5).length c163_5, .int .i64 ((rd_T29 l0 x5_1).f6)] 29 (0, 0)) (by (with_reducible repeat (first | refine blk_drewN ?_ _ | refine blk_drew ?_ | refine blk_alloc ?_ _)); exact BK164.out) k_ hk⟩))
                           (case aO => exact (by (with_reducible repeat (first | apply Kd.S_alloc | apply Kd.S_drewN | apply Kd.S_drew)); exact Kd.S_mono HO_3.out (fun k_ hk => ⟨⟨hk.1.1.1.1.1.1.1.1, hk.1.1.1.1.1.1.1.2⟩, by rintro ⟨v_, hv_, e_⟩; simp only [List.mem_cons, List.not_mem_nil, or_false] at hv_; rcases hv_ with rfl | rfl | rfl | rfl | rfl | rfl <;> exact absurd e_.symm (by first | with_reducible exact hk.2 | with_reducible exact hk.1.2 | with_reducible exact hk.1.1.2 | with_reducible exact hk.1.1.1.2 | with_reducible exact hk.1.1.1.1.2 | with_reducible exact hk.1.1.1.1.1.2 | with_reducible exact hk.1.1.1.1.1.1.2 | with_reducible exact hk.1.1.1.1.1.1.1.2 | with_reducible exact hk.1.1.1.1.1.1.1.1.2)⟩)))
                           (case aS => exact (below_size (by repeat (first | (with_reducible first | exact HB.out | apply below_alloc | apply pw_below_drewN | apply below_drew1 | refine below_set ?_ GE164.out) | exact HB.out))))
                           (case aL => have := LMc86.out; omega)
                           intro v213 w102 ho hb hg hat
                           rw [← Ny212.out] at ho
                           have n0_ := Aside0.mk (Kd.R_over' (by (with_reducible repeat (first | apply Kd.R_alloc | apply Kd.R_drewN | apply Kd.R_drew)); exact HO_7.out) (Kd.S_typed (by (with_reducible repeat (first | apply Kd.S_alloc | apply Kd.S_drewN | apply Kd.S_drew)); exact HO_3.out)) (by decide) hg)
                           have n1_ := Aside0.mk (blk_grown (g := gb164) (o := .cells #[.string ((rd_T29 l0 x5_1).f0), .string ((rd_T29 l0 x5_1).f1), .string ((rd_T29 l0 x5_1).f2), .int .u64 ((rd_T29 l0 x5_1).f3), .int .u64 ((rd_T29 l0 x5_1).f4), .slice A163_5 ((rd_T29 l0 x5_1).f5).length c163_5, .int .i64 ((rd_T29 l0 x5_1).f6)] 29 (0, 0)) (by (with_reducible repeat (first | refine blk_drewN ?_ _ | refine blk_drew ?_ | refine blk_alloc ?_ _)); exact BK164.out) hg (Kd.S_ne HO_3.out BK164.out (by decide)))
                           have n2_ := HB
                           have n3_ := Aside0.mk (hb)
                           have n4_ := Aside0.mk (ho)
                           clear HO_7
                           clear BK164
                           clear HO211
                           clear HB
                           clear HO_3
                           have HO_7 := n0_
                           have BK164 := n1_
                           have HO211 := n2_
                           have HB := n3_
                           have HO214 := n4_
                           clear n0_ n1_ n2_ n3_ n4_
                           clear ho hb hg hat
                           refine hK.out _ _ ⟨(blk_cell BK164.out 0).trans rfl, (blk_cell BK164.out 1).trans rfl, (blk_cell BK164.out 2).trans rfl, (blk_cell BK164.out 3).trans rfl, (blk_cell BK164.out 4).trans rfl, (blk_cell BK164.out 5).trans rfl, (blk_cell BK164.out 6).trans rfl⟩ (fun hHeld => ?_)
                           clear hK K
                           refine norm_ (a' := ?_) ?_ ?_
                           rotate_left
                           ·show Act.put _ (some 186) _ = _
                            simp only [Act.put, List.setIfInBounds_toArray, List.set_cons_zero, List.set_cons_succ, i64_w, i32_w]
                            rfl
                           refine pure_ (i := 25) (N := some 3) (v := ?_) (a' := ?_) #[true, true, true, true, true, true, true, true, true, true, true, true, true, true, true, true, true, true, true, true, true, true, true, true, true, true] rfl rfl (any_of HT_.out (by kernel_rfl)) (fun _ _ _ h => h) (Or.inl ⟨by rfl, ?_⟩) ?_ ?_
                           rotate_left
                           ·intro w'
                            go_simp
                            with_reducible rfl
                           rotate_left
                           ·simp only [Act.put, List.setIfInBounds_toArray, List.set_cons_zero, List.set_cons_succ, i64_w, i32_w]
                            rfl
                           refine done_ (done_of HT_.out (by kernel_rfl)) ?_
                           try go_wp2
                           go_roundg k6
                           case measure => have := HK1.out; have := HJ10.out; have := HJ15.out; have := HK4.out; have := HJ49.out; have := HK6.out; omega
                           case rel => exact ⟨(y212), ((wrap64 (x4_1 + (((rd_T29 l0 x5_1).f0).size : Int)))), (wrap64 (x5_1 + 1)), (by first | rfl | (simp; done) | (simp [*]; done)), (by first | rfl | (simp; done) | (simp [*]; done)), H', ⟨by have := HK1.out; have := HJ10.out; have := HJ15.out; have := HK4.out; have := HJ49.out; have := HK6.out; omega⟩, ⟨by (with_reducible repeat (first | apply Kd.S_alloc | apply Kd.S_drewN | apply Kd.S_drew)); exact Kd.S_mono HO214.out (fun _ hk => trivial)⟩, ⟨by repeat (first | (with_reducible first | exact HB.out | apply below_alloc | apply pw_below_drewN | apply below_drew1 | refine below_set ?_ GE164.out) | exact HB.out)⟩⟩
                          ·rw [if_neg c86] at H
                           exact absurd H (by simp)
                   ·rw [if_neg c44] at H
                    exact absurd H (by simp)
                  ·rw [if_neg c43] at H
                   exact absurd H (by simp)
              ·rw [if_neg c24] at H
               exact absurd H (by simp)
             ·rw [if_neg c23] at H
              exact absurd H (by simp)
         ·rw [if_neg c15] at H
          exact absurd H (by simp)
        ·rw [if_neg c14] at H
         exact absurd H (by simp)
       ·replace c13 := Bool.eq_false_iff.mpr c13
        subst c13
        have H1 : (abacuslaw20_CharsKeeps.j6 kj10 x3_1) = some true := by rw [if_neg (show ¬ (false = true) by decide)] at H; exact H
        clear H
        have H := H1
        clear H1
        have H' := Aside0.mk H
        clear H
        go_wp2
        go_meet
        case rel => exact ⟨_, (x3_1), H', ⟨by have := HK1.out; have := HJ10.out; first | omega | exact Nat.le_refl _⟩, ⟨by (with_reducible repeat (first | apply Kd.S_alloc | apply Kd.S_drewN | apply Kd.S_drew)); exact HO_3.out⟩, ⟨by repeat (first | (with_reducible first | exact HB.out | apply below_alloc | apply pw_below_drewN | apply below_drew1) | exact HB.out)⟩⟩
  case rest =>
   clear HC5
   try clear c1
   try clear c2
   try clear p2
   try clear c4
   try clear c6
   try clear p6
   try clear c8
   try clear c10
   try clear c13
   try clear c14
   try clear c15
   try clear c16
   try clear c23
   try clear c24
   try clear c43
   try clear c44
   try clear p64
   try clear c67
   try clear c67b0
   try clear c86
   obtain ⟨kq, x3_4, HA, HJ4, HO_3, HB⟩ := hcut
   cases kq with
   | zero => exact absurd HA.out (by simp [abacuslaw20_CharsKeeps.j6])
   | succ kj4 =>
    have H := HA.out
    clear HA
    simp only [abacuslaw20_CharsKeeps.j6] at H
    have H' := Aside0.mk H
    clear H
    go_wp2
    go_loopg [16] kj4 (fun kq v16 w' => ∃ (x16_2 : Int), v16 = .int .i64 x16_2 ∧ Aside0 (abacuslaw20_CharsKeeps.l3 kq x3_4 x16_2 = some true) ∧ Aside0 (kq ≤ kj4) ∧ Aside0 (Kd.S (Kd.slice 9 Kd.string) 24 w' w.heap.size (fun _ => True) u3 x3_4) ∧ Aside0 (Below w.heap.size w w'))
    case atStart => exact ⟨(0), (by first | rfl | (simp; done) | (simp [*]; done)), H', ⟨Nat.le_refl _⟩, ⟨by (with_reducible repeat (first | apply Kd.S_alloc | apply Kd.S_drewN | apply Kd.S_drew)); exact HO_3.out⟩, ⟨by repeat (first | (with_reducible first | exact HB.out | apply below_alloc | apply pw_below_drewN | apply below_drew1) | exact HB.out)⟩⟩
    case round =>
     clear H'
     try clear c1
     try clear c2
     try clear p2
     try clear c4
     try clear c6
     try clear p6
     try clear c8
     try clear c10
     try clear c13
     try clear c14
     try clear c15
     try clear c16
     try clear c23
     try clear c24
     try clear c43
     try clear c44
     try clear p64
     try clear c67
     try clear c67b0
     try clear c86
     try clear p2
     try clear p6
     try clear p64
     obtain ⟨x16_2, rfl, HA, HK2, HO_3, HB⟩ := hrel
     cases gk with
     | zero => exact absurd HA.out (by simp [abacuslaw20_CharsKeeps.l3])
     | succ k2 =>
      have H := HA.out
      clear HA
      simp only [abacuslaw20_CharsKeeps.l3] at H
      by_cases c104 : (wrap64 (x16_2 + 1)) < (x3_4.length : Int)
      ·rw [if_pos c104] at H
       have c104b0 : decide ((wrap64 (x16_2 + 1)) < (x3_4.length : Int)) = true := decide_eq_true c104
       clear c104
       by_cases c105 : 0 ≤ x16_2
       ·rw [if_pos c105] at H
        have c105b0 : decide (0 ≤ x16_2) = true := decide_eq_true c105
        clear c105
        by_cases c106 : x16_2 < (x3_4.length : Int)
        ·rw [if_pos c106] at H
         have c106b0 : decide (x16_2 < (x3_4.length : Int)) = true := decide_eq_true c106
         clear c106
         obtain ⟨ji107, hji107⟩ : ∃ j_ : Int, (wrap64 (x16_2 + 1)) = j_ := ⟨_, rfl⟩
         replace H : (if 0 ≤ (ji107) then ((abacuslaw20_alike.f k2 (rd_L1 x3_4 x16_2) (rd_L1 x3_4 (ji107))).bind fun t217 => (if t217 = true then (abacuslaw20_CharsKeeps.l3 k2 x3_4 (wrap64 (x16_2 + 2))) else (some false))) else (none)) = some true := by first | (rw [hji107] at H; exact H) | (simp only [hji107] at H ⊢; exact H)
         (try rw [hji107] at c104b0)
         have hji107w : (IntKind.i64.wrap (x16_2 + 1)) = ji107 := (i64_w _).trans hji107
         by_cases c108 : 0 ≤ (ji107)
         ·rw [if_pos c108] at H
          have c108b0 : decide (0 ≤ (ji107)) = true := decide_eq_true c108
          clear c108
          replace H := Option.bind_eq_some_iff.mp H
          obtain ⟨t217, A1090, H⟩ := H
          replace H : (if t217 = true then (abacuslaw20_CharsKeeps.l3 k2 x3_4 (wrap64 (x16_2 + 2))) else (some false)) = some true := H
          have A109 := Aside0.mk A1090
          clear A1090
          by_cases c110 : t217 = true
          ·subst c110
           have H1 : (abacuslaw20_CharsKeeps.l3 k2 x3_4 (wrap64 (x16_2 + 2))) = some true := by rw [if_pos rfl] at H; exact H
           clear H
           have H := H1
           clear H1
           have H' := Aside0.mk H
           clear H
           obtain ⟨Ao111, co111, eo111⟩ := Kd.S_slice HO_3.out
           subst eo111
           try go_wp2
           have n0_ := Aside0.mk (Kd.S_drew HO_3.out)
           have n1_ := Aside0.mk (below_drew1 HB.out)
           clear HO_3
           clear HB
           have HO_3 := n0_
           have HB := n1_
           clear n0_ n1_
           have p215 : 0 ≤ (x16_2 : Int) := of_decide_eq_true (by first | (with_reducible assumption) | assumption)
           have q215 : x16_2 < (x3_4.length : Int) := of_decide_eq_true (by first | (with_reducible assumption) | assumption)
           obtain ⟨ad215, A215_0, c215_0, e215, hx215_0, hl215_0, hi215_0⟩ := at_L1 (Kd.S_reads' HO_3.out).2.2 x16_2 p215 q215
           cases e215
           obtain ⟨ce215, hce215, hMe215, hcc215⟩ := Kd.N_get (Kd.R_N (Kd.S_R HO_3.out)) [] x16_2 p215 (by first | exact q215 | exact of_decide_eq_true (by first | (with_reducible assumption) | assumption) | (have e_ := (Kd.S_reads' HO_3.out).1; omega))
           obtain ⟨ua215_0, uc215_0, rfl, ul215_0, ge215_0⟩ := Kd.FK_slice_open hMe215
           have hv215_0 := hcc215 0 _ rfl
           rw [Nat.add_zero, show ((Kd.slice 9 Kd.string)).sz = 1 from rfl, Nat.mul_one] at hv215_0
           replace hv215_0 := Option.some.inj (hv215_0.symm.trans hx215_0)
           injection hv215_0 with hva_ hvn_ hvc_
           rw [hva_] at ge215_0
           rw [hvc_] at ul215_0
           have HL215_0 := Aside0.mk (show Kd.V Kd.string 9 _ w.heap.size _ _ (rd_L1 x3_4 x16_2) from Kd.V_mk ul215_0 ge215_0)
           clear hva_ hvn_ hvc_ ge215_0 ul215_0
           clear hcc215 hce215
           have HR215_0 := Aside0.mk hi215_0
           have HC215_0 := Aside0.mk hl215_0
           clear hi215_0 hl215_0
           replace p215 := eq_true p215
           replace q215 := eq_true q215
           have p216 : 0 ≤ ((ji107) : Int) := of_decide_eq_true (by first | (with_reducible assumption) | assumption)
           have q216 : (ji107) < (x3_4.length : Int) := of_decide_eq_true (by first | (with_reducible assumption) | assumption)
           obtain ⟨ad216, A216_0, c216_0, e216, hx216_0, hl216_0, hi216_0⟩ := at_L1 (Kd.S_reads' HO_3.out).2.2 (ji107) p216 q216
           obtain rfl : ad215 = ad216 := (by injection e216)
           obtain ⟨ce216, hce216, hMe216, hcc216⟩ := Kd.N_get (Kd.R_N (Kd.S_R HO_3.out)) [] (ji107) p216 (by first | exact q216 | exact of_decide_eq_true (by first | (with_reducible assumption) | assumption) | (have e_ := (Kd.S_reads' HO_3.out).1; omega))
           obtain ⟨ua216_0, uc216_0, rfl, ul216_0, ge216_0⟩ := Kd.FK_slice_open hMe216
           have hv216_0 := hcc216 0 _ rfl
           rw [Nat.add_zero, show ((Kd.slice 9 Kd.string)).sz = 1 from rfl, Nat.mul_one] at hv216_0
           replace hv216_0 := Option.some.inj (hv216_0.symm.trans hx216_0)
           injection hv216_0 with hva_ hvn_ hvc_
           rw [hva_] at ge216_0
           rw [hvc_] at ul216_0
           have HL216_0 := Aside0.mk (show Kd.V Kd.string 9 _ w.heap.size _ _ (rd_L1 x3_4 (ji107)) from Kd.V_mk ul216_0 ge216_0)
           clear hva_ hvn_ hvc_ ge216_0 ul216_0
           clear hcc216 hce216
           have HR216_0 := Aside0.mk hi216_0
           have HC216_0 := Aside0.mk hl216_0
           clear hi216_0 hl216_0
           replace p216 := eq_true p216
           replace q216 := eq_true q216
           refine start_ (n := 11) (S := fun w' => w'.cell? (ad215.add (x16_2).toNat) = some (.slice A215_0 (rd_L1 x3_4 x16_2).length c215_0) ∧ w'.cell? (ad215.add ((ji107)).toNat) = some (.slice A216_0 (rd_L1 x3_4 (ji107)).length c216_0)) (ds := []) #[false, false, false, false, false, false, false, false, false, false, false] (by kernel_rfl) rfl rfl ⟨hx215_0, hx216_0⟩ (fun hHeld => ?_); refine with_tabW abacuslaw20_CharsKeeps.tab32 abacuslaw20_CharsKeeps.bits32 (fun HT_ HW_ => ?_)
           generalize wr.drew = w112 at HO_3 HB HL215_0 HL216_0 HR215_0 HR216_0 hx215_0 hx216_0 hHeld ⊢
           refine pure_ (i := 0) (N := some 194) (v := ?_) (a' := ?_) #[true, false, false, false, false, false, false, false, false, false, false] rfl rfl (any_of HT_.out (by kernel_rfl)) (fun _ _ _ h => h) (Or.inl ⟨by rfl, ?_⟩) ?_ ?_
           rotate_left
           ·intro w'
            go_simp
            with_reducible rfl
           rotate_left
           ·simp only [Act.put, List.setIfInBounds_toArray, List.set_cons_zero, List.set_cons_succ, i64_w, i32_w]
            rfl
           refine pure_ (i := 1) (N := some 195) (v := ?_) (a' := ?_) #[true, true, false, false, false, false, false, false, false, false, false] rfl rfl (any_of HT_.out (by kernel_rfl)) (fun _ _ _ h => h) (Or.inl ⟨by rfl, ?_⟩) ?_ ?_
           rotate_left
           ·intro w'
            go_simp
            with_reducible rfl
           rotate_left
           ·simp only [Act.put, List.setIfInBounds_toArray, List.set_cons_zero, List.set_cons_succ, i64_w, i32_w]
            rfl
           refine pure_ (i := 2) (N := some 196) (v := ?_) (a' := ?_) #[true, true, true, false, false, false, false, false, false, false, false] rfl rfl (any_of HT_.out (by kernel_rfl)) (fun _ _ _ h => h) (Or.inl ⟨by rfl, ?_⟩) ?_ ?_
           rotate_left
           ·intro w'
            go_simp
            with_reducible rfl
           rotate_left
           ·simp only [Act.put, List.setIfInBounds_toArray, List.set_cons_zero, List.set_cons_succ, i64_w, i32_w]
            rfl
           refine pure_ (i := 4) (N := some 198) (v := ?_) (a' := ?_) #[true, true, true, false, true, false, false, false, false, false, false] rfl rfl (any_of HT_.out (by kernel_rfl)) (fun _ _ _ h => h) (Or.inl ⟨by rfl, ?_⟩) ?_ ?_
           rotate_left
           ·intro w'
            go_simp
            with_reducible rfl
           rotate_left
           ·simp only [Act.put, List.setIfInBounds_toArray, List.set_cons_zero, List.set_cons_succ, i64_w, i32_w]
            rfl
           refine pure_ (i := 5) (N := some 199) (v := ?_) (a' := ?_) #[true, true, true, false, true, true, false, false, false, false, false] rfl rfl (any_of HT_.out (by kernel_rfl)) (fun _ _ _ h => h) (Or.inl ⟨by rfl, ?_⟩) ?_ ?_
           rotate_left
           ·intro w'
            go_simp
            with_reducible rfl
           rotate_left
           ·simp only [Act.put, List.setIfInBounds_toArray, List.set_cons_zero, List.set_cons_succ, i64_w, i32_w]
            rfl
           refine pure_ (i := 6) (N := some 200) (v := ?_) (a' := ?_) #[true, true, true, false, true, true, true, false, false, false, false] rfl rfl (any_of HT_.out (by kernel_rfl)) (fun _ _ _ h => h) (Or.inl ⟨by rfl, ?_⟩) ?_ ?_
           rotate_left
           ·intro w'
            go_simp
            with_reducible rfl
           rotate_left
           ·simp only [Act.put, List.setIfInBounds_toArray, List.set_cons_zero, List.set_cons_succ, i64_w, i32_w]
            rfl
           refine pure_ (i := 7) (N := some 201) (v := ?_) (a' := ?_) #[true, true, true, false, true, true, true, true, false, false, false] rfl rfl (any_of HT_.out (by kernel_rfl)) (fun _ _ _ h => h) (Or.inl ⟨by rfl, ?_⟩) ?_ ?_
           rotate_left
           ·intro w'
            go_simp
            with_reducible rfl
           rotate_left
           ·simp only [Act.put, List.setIfInBounds_toArray, List.set_cons_zero, List.set_cons_succ, i64_w, i32_w]
            rfl
           refine take_ (i := 3) (N := some 197) (v := ?_) (a' := ?_) #[true, true, true, true, true, true, true, true, false, false, false] rfl rfl (take_ofW HT_.out HW_.out (by kernel_rfl)) (fun _ _ _ h => h) (Or.inl ⟨by rfl, ?_⟩) hHeld ?_ ?_
           rotate_left
           ·rintro w' ⟨s0, s1⟩
            go_simp
            with_reducible rfl
           rotate_left
           ·simp only [Act.put, List.setIfInBounds_toArray, List.set_cons_zero, List.set_cons_succ, i64_w, i32_w]
            rfl
           refine take_ (i := 8) (N := some 202) (v := ?_) (a' := ?_) #[true, true, true, true, true, true, true, true, true, false, false] rfl rfl (take_ofW HT_.out HW_.out (by kernel_rfl)) (fun _ _ _ h => h) (Or.inl ⟨by rfl, ?_⟩) hHeld ?_ ?_
           rotate_left
           ·rintro w' ⟨s0, s1⟩
            go_simp
            with_reducible rfl
           rotate_left
           ·simp only [Act.put, List.setIfInBounds_toArray, List.set_cons_zero, List.set_cons_succ, i64_w, i32_w]
            rfl
           refine one_ (i := 9) (N := some 203) #[true, true, true, true, true, true, true, true, true, true, false] rfl rfl (one_of HT_.out (by kernel_rfl)) (by decide) (fun K hK => ?_)
           refine goes_ Tryd.func9 (by kernel_rfl) rfl #[.slice A215_0 (rd_L1 x3_4 x16_2).length c215_0, .slice A216_0 (rd_L1 x3_4 (ji107)).length c216_0] (by rfl) rfl rfl (by (try simp only [List.map_toArray, List.map_cons, List.map_nil]); first | done | (simp only [hji107]; rfl) | rfl | (simp only [List.length_drop, List.length_take]; rfl)) ?_
           with_reducible refine (abacuslaw20_alike.calls k2 _ _ (rd_L1 x3_4 x16_2) _ _ (rd_L1 x3_4 (ji107)) true _ ?side1 ?side2 ?side3 ?side4 A109.out).mono ?_
           (case side1 => repeat (first | exact (by repeat (first | (with_reducible exact HR215_0.out) | (with_reducible refine Kd.C_alloc ?_ _) | (with_reducible refine Kd.C_drewN ?_ _) | (with_reducible refine Kd.C_drew ?_) | exact HR215_0.out)) | (with_reducible refine Kd.C_alloc ?_ _) | (with_reducible refine Kd.C_drewN ?_ _) | (with_reducible refine Kd.C_drew ?_)))
           (case side2 => exact HC215_0.out)
           (case side3 => repeat (first | exact (by repeat (first | (with_reducible exact HR216_0.out) | (with_reducible refine Kd.C_alloc ?_ _) | (with_reducible refine Kd.C_drewN ?_ _) | (with_reducible refine Kd.C_drew ?_) | exact HR216_0.out)) | (with_reducible refine Kd.C_alloc ?_ _) | (with_reducible refine Kd.C_drewN ?_ _) | (with_reducible refine Kd.C_drew ?_)))
           (case side4 => exact HC216_0.out)
           rintro e w' ⟨rfl, ⟨nd, rfl⟩⟩
           refine ⟨_, rfl, ?_⟩
           refine hK.out _ _ ⟨hHeld.1, hHeld.2⟩ (fun hHeld => ?_)
           clear hK K
           refine norm_ (a' := ?_) ?_ ?_
           rotate_left
           ·show Act.put _ (some 203) _ = _
            simp only [Act.put, List.setIfInBounds_toArray, List.set_cons_zero, List.set_cons_succ, i64_w, i32_w]
            rfl
           refine pure_ (i := 10) (N := some 204) (v := ?_) (a' := ?_) #[true, true, true, true, true, true, true, true, true, true, true] rfl rfl (any_of HT_.out (by kernel_rfl)) (fun _ _ _ h => h) (Or.inl ⟨by rfl, ?_⟩) ?_ ?_
           rotate_left
           ·intro w'
            go_simp
            with_reducible rfl
           rotate_left
           ·simp only [Act.put, List.setIfInBounds_toArray, List.set_cons_zero, List.set_cons_succ, i64_w, i32_w]
            rfl
           refine done_ (done_of HT_.out (by kernel_rfl)) ?_
           try go_wp2
           go_roundg k2
           case measure => have := HJ4.out; have := HK2.out; omega
           case rel => exact ⟨(wrap64 (x16_2 + 2)), (by first | rfl | (simp; done) | (simp [*]; done)), H', ⟨by have := HJ4.out; have := HK2.out; omega⟩, ⟨by (with_reducible repeat (first | apply Kd.S_alloc | apply Kd.S_drewN | apply Kd.S_drew)); exact HO_3.out⟩, ⟨by repeat (first | (with_reducible first | exact HB.out | apply below_alloc | apply pw_below_drewN | apply below_drew1) | exact HB.out)⟩⟩
          ·replace c110 := Bool.eq_false_iff.mpr c110
           subst c110
           have H1 : (some false) = some true := by rw [if_neg (show ¬ (false = true) by decide)] at H; exact H
           clear H
           have H := H1
           clear H1
           exact absurd H (by simp)
         ·rw [if_neg c108] at H
          exact absurd H (by simp)
        ·rw [if_neg c106] at H
         exact absurd H (by simp)
       ·rw [if_neg c105] at H
        exact absurd H (by simp)
      ·rw [if_neg c104] at H
       have c104b0 : decide ((wrap64 (x16_2 + 1)) < (x3_4.length : Int)) = false := decide_eq_false c104
       clear c104
       replace H := Option.bind_eq_some_iff.mp H
       obtain ⟨t218, A1130, H⟩ := H
       replace H : (some t218) = some true := H
       have A113 := Aside0.mk A1130
       clear A1130
       have HX := Aside0.mk (Option.some.inj H)
       clear H
       obtain ⟨Ao114, co114, eo114⟩ := Kd.S_slice HO_3.out
       subst eo114
       go_wp2_with (first | ((with_reducible refine gate_callee (f := 15) rfl ?_); refine goesL_ (some 206) rfl rfl Tryd.func15 (by kernel_rfl) rfl #[.slice Ao114 x3_4.length co114] rfl (by (try simp only [List.map_toArray, List.map_cons, List.map_nil]); first | done | rfl | (simp only [List.length_drop, List.length_take]; rfl)) ?_; (with_reducible refine (abacuslaw20_apart.calls k2 _ _ x3_4 t218 w _ ?side1 ?side2 A113.out).mono ?_); (case side1 => exact (by repeat (first | (with_reducible first | exact HB.out | apply below_alloc | apply pw_below_drewN | apply below_drew1) | exact HB.out))); (case side2 => exact (by (with_reducible repeat (first | apply Kd.S_alloc | apply Kd.S_drewN | apply Kd.S_drew)); exact Kd.S_mono HO_3.out (fun _ _ => trivial))); rintro e w115 ⟨rfl, hb⟩; refine ⟨_, rfl, ?_⟩; have n1_ := Aside0.mk hb; clear HO_3; clear HB; have HB := n1_; clear n1_; (try clear hb)))
       go_ret
       exact ⟨by first | exact congrArg (fun b_ => Ending.returned (Value.bool b_)) HX.out | (have hx_ := HX.out; simp at hx_ ⊢; done) | (have hx_ := HX.out; simp at hx_ ⊢; exact hx_) | (have hx_ := HX.out; simp_all) | (simp [*, errW_none, errW_some] <;> rfl), by repeat (first | (with_reducible first | exact HB.out | apply below_alloc | apply pw_below_drewN | apply below_drew1) | exact HB.out)⟩
 ·replace c4 := Bool.eq_false_iff.mpr c4
  subst c4
  have H1 : (some false) = some true := by rw [if_neg (show ¬ (false = true) by decide)] at H; exact H
  clear H
  have H := H1
  clear H1
  exact absurd H (by simp)
end Go.Proofs.YtdeannaaafffbaaDoor.ECd
