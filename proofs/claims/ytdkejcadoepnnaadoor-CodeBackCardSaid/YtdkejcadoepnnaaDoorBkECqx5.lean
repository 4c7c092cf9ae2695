/-
 A text of this session's own.
-/
import Derived.Test.YtdkejcadoepnnaaDoorBkA0
import Derived.Test.YtdkejcadoepnnaaDoorBkECqx0
import Derived.Test.YtdkejcadoepnnaaDoorBkXBld
set_option linter.unusedSimpArgs false
namespace Go.Proofs.YtdkejcadoepnnaaDoor.ECq
open Go.Proofs.YtdkejcadoepnnaaDoor.X
open Go.RowKit Go.Proofs.YtdkejcadoepnnaaDoorW.PrintWords Go.Proofs.YtdkejcadoepnnaaDoorW.PrintLast Go.Proofs.YtdkejcadoepnnaaDoorW.PrintMore
attribute [local go_sem] max2_int min2_int max_two min_two max_three min_three max_four min_four
set_option linter.unusedVariables false
def c_quoted.l0 : Nat → ByteArray → Int → Int → List Int → Option (List Int)
 | 0, _, _, _, _ => none
 | k + 1, x1, x9, x10, x48 => if x10 < x9 then (if 0 ≤ x10 then (if x10 < (x1.size : Int) then (if (bt x1 x10) ≥ 32 then (if (bt x1 x10) ≤ 126 then (if (bt x1 x10) = 34 then (if x48.length + 2 < 140737488355328 then ((some (x48 ++ bytesOf (⟨#[92, 120]⟩ : ByteArray) : List Int)).bind fun y104 => (if 0 ≤ ((bt x1 x10) / 16) then (if ((bt x1 x10) / 16) < 16 then (if y104.length < 140737488355328 then ((some (y104 ++ [bt (⟨#[48, 49, 50, 51, 52, 53, 54, 55, 56, 57, 97, 98, 99, 100, 101, 102]⟩ : ByteArray) ((bt x1 x10) / 16)] : List Int)).bind fun y107 => (if 0 ≤ (Go.bits .and .u8 (bt x1 x10) 15) then (if (Go.bits .and .u8 (bt x1 x10) 15) < 16 then (if y107.length < 140737488355328 then (c_quoted.l0 k x1 x9 (wrap64 (x10 + 1)) (y107 ++ [bt (⟨#[48, 49, 50, 51, 52, 53, 54, 55, 56, 57, 97, 98, 99, 100, 101, 102]⟩ : ByteArray) (Go.bits .and .u8 (bt x1 x10) 15)])) else (none)) else (none)) else (none))) else (none)) else (none)) else (none))) else (none)) else (if (bt x1 x10) = 92 then (if x48.length + 2 < 140737488355328 then ((some (x48 ++ bytesOf (⟨#[92, 120]⟩ : ByteArray) : List Int)).bind fun y113 => (if 0 ≤ ((bt x1 x10) / 16) then (if ((bt x1 x10) / 16) < 16 then (if y113.length < 140737488355328 then ((some (y113 ++ [bt (⟨#[48, 49, 50, 51, 52, 53, 54, 55, 56, 57, 97, 98, 99, 100, 101, 102]⟩ : ByteArray) ((bt x1 x10) / 16)] : List Int)).bind fun y116 => (if 0 ≤ (Go.bits .and .u8 (bt x1 x10) 15) then (if (Go.bits .and .u8 (bt x1 x10) 15) < 16 then (if y116.length < 140737488355328 then (c_quoted.l0 k x1 x9 (wrap64 (x10 + 1)) (y116 ++ [bt (⟨#[48, 49, 50, 51, 52, 53, 54, 55, 56, 57, 97, 98, 99, 100, 101, 102]⟩ : ByteArray) (Go.bits .and .u8 (bt x1 x10) 15)])) else (none)) else (none)) else (none))) else (none)) else (none)) else (none))) else (none)) else (if x48.length < 140737488355328 then (c_quoted.l0 k x1 x9 (wrap64 (x10 + 1)) (x48 ++ [bt x1 x10])) else (none)))) else (if x48.length + 2 < 140737488355328 then ((some (x48 ++ bytesOf (⟨#[92, 120]⟩ : ByteArray) : List Int)).bind fun y125 => (if 0 ≤ ((bt x1 x10) / 16) then (if ((bt x1 x10) / 16) < 16 then (if y125.length < 140737488355328 then ((some (y125 ++ [bt (⟨#[48, 49, 50, 51, 52, 53, 54, 55, 56, 57, 97, 98, 99, 100, 101, 102]⟩ : ByteArray) ((bt x1 x10) / 16)] : List Int)).bind fun y128 => (if 0 ≤ (Go.bits .and .u8 (bt x1 x10) 15) then (if (Go.bits .and .u8 (bt x1 x10) 15) < 16 then (if y128.length < 140737488355328 then (c_quoted.l0 k x1 x9 (wrap64 (x10 + 1)) (y128 ++ [bt (⟨#[48, 49, 50, 51, 52, 53, 54, 55, 56, 57, 97, 98, 99, 100, 101, 102]⟩ : ByteArray) (Go.bits .and .u8 (bt x1 x10) 15)])) else (none)) else (none)) else (none))) else (none)) else (none)) else (none))) else (none))) else (if x48.length + 2 < 140737488355328 then ((some (x48 ++ bytesOf (⟨#[92, 120]⟩ : ByteArray) : List Int)).bind fun y134 => (if 0 ≤ ((bt x1 x10) / 16) then (if ((bt x1 x10) / 16) < 16 then (if y134.length < 140737488355328 then ((some (y134 ++ [bt (⟨#[48, 49, 50, 51, 52, 53, 54, 55, 56, 57, 97, 98, 99, 100, 101, 102]⟩ : ByteArray) ((bt x1 x10) / 16)] : List Int)).bind fun y137 => (if 0 ≤ (Go.bits .and .u8 (bt x1 x10) 15) then (if (Go.bits .and .u8 (bt x1 x10) 15) < 16 then (if y137.length < 140737488355328 then (c_quoted.l0 k x1 x9 (wrap64 (x10 + 1)) (y137 ++ [bt (⟨#[48, 49, 50, 51, 52, 53, 54, 55, 56, 57, 97, 98, 99, 100, 101, 102]⟩ : ByteArray) (Go.bits .and .u8 (bt x1 x10) 15)])) else (none)) else (none)) else (none))) else (none)) else (none)) else (none))) else (none))) else (none)) else (none)) else (if x48.length < 140737488355328 then (some (x48 ++ [34])) else (none))
def c_quoted.f (k : Nat) (a0 : List Int) (a1 : ByteArray) : Option (List Int) := if a0.length < 140737488355328 then (c_quoted.l0 k a1 (a1.size : Int) 0 (a0 ++ [34])) else (none)
set_option maxHeartbeats 8000000 in
set_option maxRecDepth 100000 in
theorem c_quoted.calls (k : Nat) (a0 : List Int) (a1 : ByteArray) (r : List Int) (w0 : World) (gbb : Nat) (w : World) (hF0 : BR w w0.heap.size gbb a0) (hB0 : Below w0.heap.size w0 w) (h : c_quoted.f k a0 a1 = some r) :
  Calls Tryd.prog 46 #[.pointer (some ⟨gbb, 0, none⟩), .string a1] w fun e w' => e = .returned (.tuple #[]) ∧ BR w' w0.heap.size gbb r ∧ LB w0 w gbb w' := by
 have HB := am (lb_refl gbb hB0)
 have HF_ := am hF0
 have H : (if a0.length < 140737488355328 then (c_quoted.l0 k a1 (a1.size : Int) 0 (a0 ++ [34])) else (none)) = some r := h
 clear h
 by_cases c3 : a0.length < 140737488355328
 rotate_left
 ·rw [if_neg c3] at H
  exact absurd H (by simp)
 rw [if_pos c3] at H
 have LMc3 := am c3
 clear c3
 obtain ⟨y101, hy101⟩ : ∃ y_ : List Int, y_ = (a0 ++ [34]) := ⟨_, rfl⟩
 replace H : (c_quoted.l0 k a1 (a1.size : Int) 0 y101) = some r := by first | (rw [hy101]; with_reducible exact H) | (have H2_ := (Option.bind_some _ _).symm.trans H; rw [hy101]; with_reducible exact H2_) | (have H2_ := (Option.bind_some _ _).symm.trans H; with_reducible exact H2_) | with_reducible exact H | (rw [hy101]; exact H) | exact H
 have Ny101 := am hy101
 clear hy101
 have H' := am H
 clear H
 go_enter Tryd.func46, Tryd.ntmps46
 go_wp2_with (first | ((with_reducible refine gate_callee (f := 45) rfl ?_); refine goesL_ (some 7) rfl rfl Tryd.func45 (by kernel_rfl) rfl #[.pointer (some ⟨gbb, 0, none⟩), .int .u8 34] rfl ls ?_; refine (BR.byte (by (with_reducible repeat (first | apply BR.alloc | apply BR.drewN | apply BR.drew)); exact HF_.out) 34 (by have := LMc3.out; first | omega | (simp only [ByteArray.size, Array.size, List.length]; omega)) (lb_size0 (by repeat (first | (with_reducible first | exact HB.out | apply lb_alloc | apply lb_drewN | apply lb_drew1) | exact HB.out)))).mono ?_; rintro e w4 ⟨rfl, ho, hb, hg⟩; refine ⟨_, rfl, ?_⟩; replace hb := lb_bld (by repeat (first | (with_reducible first | exact HB.out | apply lb_alloc | apply lb_drewN | apply lb_drew1) | exact HB.out)) hb hg; rw [← Ny101.out] at ho; have n0_ := am (hb); have n1_ := am (ho); clear HB; (try clear HF_); have HB := n0_; have HO103 := n1_; clear n0_ n1_; clear ho hb hg))
 go_loopg [10] k (fun kq v10 w' => ∃ (x10_1 : Int) (x48_1 : List Int), v10 = .int .i64 x10_1 ∧ Aside0 (c_quoted.l0 kq a1 (a1.size : Int) x10_1 x48_1 = some r) ∧ Aside0 (kq ≤ k) ∧ Aside0 (BR w' w0.heap.size gbb x48_1) ∧ Aside0 (LB w0 w gbb w'))
 case atStart => exact ⟨(0), (y101), tv, H', ⟨Nat.le_refl _⟩, ⟨by (with_reducible repeat (first | apply BR.alloc | apply BR.drewN | apply BR.drew)); exact HO103.out⟩, ⟨by repeat (first | (with_reducible first | exact HB.out | apply lb_alloc | apply lb_drewN | apply lb_drew1) | exact HB.out)⟩⟩
 case round =>
  clear H'
  try clear p2
  try clear c3
  try clear c4
  obtain ⟨x10_1, x48_1, rfl, HA, HK1, HO_48, HB⟩ := hrel
  cases gk with
  | zero => exact absurd HA.out (by simp [c_quoted.l0])
  | succ k1 =>
   have H := HA.out
   clear HA
   simp only [c_quoted.l0] at H
   by_cases c5 : x10_1 < (a1.size : Int)
   rotate_left
   ·rw [if_neg c5] at H
    have c5b0 := decide_eq_false c5
    clear c5
    by_cases c67 : x48_1.length < 140737488355328
    rotate_left
    ·rw [if_neg c67] at H
     exact absurd H (by simp)
    rw [if_pos c67] at H
    have LMc67 := am c67
    clear c67
    obtain ⟨y143, hy143⟩ : ∃ y_ : List Int, y_ = (x48_1 ++ [34]) := ⟨_, rfl⟩
    replace H : (some y143) = some r := by first | (rw [hy143]; with_reducible exact H) | (have H2_ := (Option.bind_some _ _).symm.trans H; rw [hy143]; with_reducible exact H2_) | (have H2_ := (Option.bind_some _ _).symm.trans H; with_reducible exact H2_) | with_reducible exact H | (rw [hy143]; exact H) | exact H
    have Ny143 := am hy143
    clear hy143
    obtain rfl := Option.some.inj H
    go_wp2_with (first | ((with_reducible refine gate_callee (f := 45) rfl ?_); refine goesL_ (some 47) rfl rfl Tryd.func45 (by kernel_rfl) rfl #[.pointer (some ⟨gbb, 0, none⟩), .int .u8 34] rfl ls ?_; refine (BR.byte (by (with_reducible repeat (first | apply BR.alloc | apply BR.drewN | apply BR.drew)); exact HO_48.out) 34 (by have := LMc67.out; first | omega | (simp only [ByteArray.size, Array.size, List.length]; omega)) (lb_size0 (by repeat (first | (with_reducible first | exact HB.out | apply lb_alloc | apply lb_drewN | apply lb_drew1) | exact HB.out)))).mono ?_; rintro e w68 ⟨rfl, ho, hb, hg⟩; refine ⟨_, rfl, ?_⟩; replace hb := lb_bld (by repeat (first | (with_reducible first | exact HB.out | apply lb_alloc | apply lb_drewN | apply lb_drew1) | exact HB.out)) hb hg; rw [← Ny143.out] at ho; have n0_ := am (hb); have n1_ := am (ho); clear HB; clear HO_48; have HB := n0_; have HO145 := n1_; clear n0_ n1_; clear ho hb hg))
    go_end0
    exact ⟨rfl, by (with_reducible repeat (first | apply BR.alloc | apply BR.drewN | apply BR.drew)); exact HO145.out, by repeat (first | (with_reducible first | exact HB.out | apply lb_alloc | apply lb_drewN | apply lb_drew1) | exact HB.out)⟩
   rw [if_pos c5] at H
   have c5b0 := decide_eq_true c5
   clear c5
   by_cases c6 : 0 ≤ x10_1
   rotate_left
   ·rw [if_neg c6] at H
    exact absurd H (by simp)
   rw [if_pos c6] at H
   have c6b0 := decide_eq_true c6
   clear c6
   by_cases c7 : x10_1 < (a1.size : Int)
   rotate_left
   ·rw [if_neg c7] at H
    exact absurd H (by simp)
   rw [if_pos c7] at H
   have c7b0 := decide_eq_true c7
   clear c7
   by_cases c9 : (bt a1 x10_1) ≥ 32
   rotate_left
   ·rw [if_neg c9] at H
    have c9b0 : decide (32 ≤ (bt a1 x10_1)) = false := decide_eq_false c9
    clear c9
    by_cases c54 : x48_1.length + 2 < 140737488355328
    rotate_left
    ·rw [if_neg c54] at H
     exact absurd H (by simp)
    rw [if_pos c54] at H
    have LMc54 := am c54
    clear c54
    obtain ⟨y134, hy134⟩ : ∃ y_ : List Int, y_ = (x48_1 ++ bytesOf (⟨#[92, 120]⟩ : ByteArray)) := ⟨_, rfl⟩
    replace H : (if 0 ≤ ((bt a1 x10_1) / 16) then (if ((bt a1 x10_1) / 16) < 16 then (if y134.length < 140737488355328 then ((some (y134 ++ [bt (⟨#[48, 49, 50, 51, 52, 53, 54, 55, 56, 57, 97, 98, 99, 100, 101, 102]⟩ : ByteArray) ((bt a1 x10_1) / 16)] : List Int)).bind fun y137 => (if 0 ≤ (Go.bits .and .u8 (bt a1 x10_1) 15) then (if (Go.bits .and .u8 (bt a1 x10_1) 15) < 16 then (if y137.length < 140737488355328 then (c_quoted.l0 k1 a1 (a1.size : Int) (wrap64 (x10_1 + 1)) (y137 ++ [bt (⟨#[48, 49, 50, 51, 52, 53, 54, 55, 56, 57, 97, 98, 99, 100, 101, 102]⟩ : ByteArray) (Go.bits .and .u8 (bt a1 x10_1) 15)])) else (none)) else (none)) else (none))) else (none)) else (none)) else (none)) = some r := by first | (rw [hy134]; with_reducible exact H) | (have H2_ := (Option.bind_some _ _).symm.trans H; rw [hy134]; with_reducible exact H2_) | (have H2_ := (Option.bind_some _ _).symm.trans H; with_reducible exact H2_) | with_reducible exact H | (rw [hy134]; exact H) | exact H
    have Ny134 := am hy134
    clear hy134
    obtain ⟨ji55, hji55⟩ : ∃ j_ : Int, ((bt a1 x10_1) / 16) = j_ := ⟨_, rfl⟩
    replace H : (if 0 ≤ (ji55) then (if (ji55) < 16 then (if y134.length < 140737488355328 then ((some (y134 ++ [bt (⟨#[48, 49, 50, 51, 52, 53, 54, 55, 56, 57, 97, 98, 99, 100, 101, 102]⟩ : ByteArray) (ji55)] : List Int)).bind fun y137 => (if 0 ≤ (Go.bits .and .u8 (bt a1 x10_1) 15) then (if (Go.bits .and .u8 (bt a1 x10_1) 15) < 16 then (if y137.length < 140737488355328 then (c_quoted.l0 k1 a1 (a1.size : Int) (wrap64 (x10_1 + 1)) (y137 ++ [bt (⟨#[48, 49, 50, 51, 52, 53, 54, 55, 56, 57, 97, 98, 99, 100, 101, 102]⟩ : ByteArray) (Go.bits .and .u8 (bt a1 x10_1) 15)])) else (none)) else (none)) else (none))) else (none)) else (none)) else (none)) = some r := by first | (rw [hji55] at H; exact H) | (simp only [hji55] at H ⊢; exact H)
    by_cases c56 : 0 ≤ (ji55)
    rotate_left
    ·rw [if_neg c56] at H
     exact absurd H (by simp)
    rw [if_pos c56] at H
    have c56b0 := decide_eq_true c56
    clear c56
    by_cases c57 : (ji55) < 16
    rotate_left
    ·rw [if_neg c57] at H
     exact absurd H (by simp)
    rw [if_pos c57] at H
    have c57b0 := decide_eq_true c57
    clear c57
    by_cases c59 : y134.length < 140737488355328
    rotate_left
    ·rw [if_neg c59] at H
     exact absurd H (by simp)
    rw [if_pos c59] at H
    have LMc59 := am c59
    clear c59
    obtain ⟨y137, hy137⟩ : ∃ y_ : List Int, y_ = (y134 ++ [bt (⟨#[48, 49, 50, 51, 52, 53, 54, 55, 56, 57, 97, 98, 99, 100, 101, 102]⟩ : ByteArray) (ji55)]) := ⟨_, rfl⟩
    replace H : (if 0 ≤ (Go.bits .and .u8 (bt a1 x10_1) 15) then (if (Go.bits .and .u8 (bt a1 x10_1) 15) < 16 then (if y137.length < 140737488355328 then (c_quoted.l0 k1 a1 (a1.size : Int) (wrap64 (x10_1 + 1)) (y137 ++ [bt (⟨#[48, 49, 50, 51, 52, 53, 54, 55, 56, 57, 97, 98, 99, 100, 101, 102]⟩ : ByteArray) (Go.bits .and .u8 (bt a1 x10_1) 15)])) else (none)) else (none)) else (none)) = some r := by first | (rw [hy137]; with_reducible exact H) | (have H2_ := (Option.bind_some _ _).symm.trans H; rw [hy137]; with_reducible exact H2_) | (have H2_ := (Option.bind_some _ _).symm.trans H; with_reducible exact H2_) | with_reducible exact H | (rw [hy137]; exact H) | exact H
    have Ny137 := am hy137
    clear hy137
    by_cases c60 : 0 ≤ (Go.bits .and .u8 (bt a1 x10_1) 15)
    rotate_left
    ·rw [if_neg c60] at H
     exact absurd H (by simp)
    rw [if_pos c60] at H
    have c60b0 := decide_eq_true c60
    clear c60
    by_cases c61 : (Go.bits .and .u8 (bt a1 x10_1) 15) < 16
    rotate_left
    ·rw [if_neg c61] at H
     exact absurd H (by simp)
    rw [if_pos c61] at H
    have c61b0 := decide_eq_true c61
    clear c61
    by_cases c63 : y137.length < 140737488355328
    rotate_left
    ·rw [if_neg c63] at H
     exact absurd H (by simp)
    rw [if_pos c63] at H
    have LMc63 := am c63
    clear c63
    obtain ⟨y140, hy140⟩ : ∃ y_ : List Int, y_ = (y137 ++ [bt (⟨#[48, 49, 50, 51, 52, 53, 54, 55, 56, 57, 97, 98, 99, 100, 101, 102]⟩ : ByteArray) (Go.bits .and .u8 (bt a1 x10_1) 15)]) := ⟨_, rfl⟩
    replace H : (c_quoted.l0 k1 a1 (a1.size : Int) (wrap64 (x10_1 + 1)) y140) = some r := by first | (rw [hy140]; with_reducible exact H) | (have H2_ := (Option.bind_some _ _).symm.trans H; rw [hy140]; with_reducible exact H2_) | (have H2_ := (Option.bind_some _ _).symm.trans H; with_reducible exact H2_) | with_reducible exact H | (rw [hy140]; exact H) | exact H
    have Ny140 := am hy140
    clear hy140
    have H' := am H
    clear H
    have p8 : 0 ≤ (x10_1 : Int) := of_decide_eq_true od
    have q8 : x10_1 < (a1.size : Int) := of_decide_eq_true od
    have hx8 := bt_at a1 x10_1
    replace p8 := eq_true p8
    replace q8 := eq_true q8
    go_wp2_with (first | ((with_reducible refine gate_callee (f := 43) rfl ?_); refine goesL_ (some 34) rfl rfl Tryd.func43 (by kernel_rfl) rfl #[.pointer (some ⟨gbb, 0, none⟩), .string (⟨#[92, 120]⟩ : ByteArray)] rfl ls ?_; refine (BR.write (by (with_reducible repeat (first | apply BR.alloc | apply BR.drewN | apply BR.drew)); exact HO_48.out) (⟨#[92, 120]⟩ : ByteArray) (by have := LMc54.out; first | omega | (simp only [ByteArray.size, Array.size, List.length]; omega)) (lb_size0 (by repeat (first | (with_reducible first | exact HB.out | apply lb_alloc | apply lb_drewN | apply lb_drew1) | exact HB.out)))).mono ?_; rintro e w64 ⟨rfl, ho, hb, hg⟩; refine ⟨_, rfl, ?_⟩; replace hb := lb_bld (by repeat (first | (with_reducible first | exact HB.out | apply lb_alloc | apply lb_drewN | apply lb_drew1) | exact HB.out)) hb hg; rw [← Ny134.out] at ho; have n0_ := am (hb); have n1_ := am (ho); clear HB; clear HO_48; have HB := n0_; have HO136 := n1_; clear n0_ n1_; clear ho hb hg; have p58 : 0 ≤ ((ji55) : Int) := of_decide_eq_true od; have q58 : (ji55) < (16 : Int) := of_decide_eq_true od; have hx58 := bt_at (⟨#[48, 49, 50, 51, 52, 53, 54, 55, 56, 57, 97, 98, 99, 100, 101, 102]⟩ : ByteArray) (ji55); replace p58 := eq_true p58; replace q58 := eq_true q58) | ((with_reducible refine gate_callee (f := 45) rfl ?_); refine goesL_ (some 39) rfl rfl Tryd.func45 (by kernel_rfl) rfl #[.pointer (some ⟨gbb, 0, none⟩), .int .u8 (bt (⟨#[48, 49, 50, 51, 52, 53, 54, 55, 56, 57, 97, 98, 99, 100, 101, 102]⟩ : ByteArray) (ji55))] rfl ls ?_; refine (BR.byte (by (with_reducible repeat (first | apply BR.alloc | apply BR.drewN | apply BR.drew)); exact HO136.out) ((bt (⟨#[48, 49, 50, 51, 52, 53, 54, 55, 56, 57, 97, 98, 99, 100, 101, 102]⟩ : ByteArray) (ji55))) (by have := LMc59.out; first | omega | (simp only [ByteArray.size, Array.size, List.length]; omega)) (lb_size0 (by repeat (first | (with_reducible first | exact HB.out | apply lb_alloc | apply lb_drewN | apply lb_drew1) | exact HB.out)))).mono ?_; rintro e w65 ⟨rfl, ho, hb, hg⟩; refine ⟨_, rfl, ?_⟩; replace hb := lb_bld (by repeat (first | (with_reducible first | exact HB.out | apply lb_alloc | apply lb_drewN | apply lb_drew1) | exact HB.out)) hb hg; rw [← Ny137.out] at ho; have n0_ := am (hb); have n1_ := am (ho); clear HB; clear HO136; have HB := n0_; have HO139 := n1_; clear n0_ n1_; clear ho hb hg; have p62 : 0 ≤ ((Go.bits .and .u8 (bt a1 x10_1) 15) : Int) := of_decide_eq_true od; have q62 : (Go.bits .and .u8 (bt a1 x10_1) 15) < (16 : Int) := of_decide_eq_true od; have hx62 := bt_at (⟨#[48, 49, 50, 51, 52, 53, 54, 55, 56, 57, 97, 98, 99, 100, 101, 102]⟩ : ByteArray) (Go.bits .and .u8 (bt a1 x10_1) 15); replace p62 := eq_true p62; replace q62 := eq_true q62) | ((with_reducible refine gate_callee (f := 45) rfl ?_); refine goesL_ (some 44) rfl rfl Tryd.func45 (by kernel_rfl) rfl #[.pointer (some ⟨gbb, 0, none⟩), .int .u8 (bt (⟨#[48, 49, 50, 51, 52, 53, 54, 55, 56, 57, 97, 98, 99, 100, 101, 102]⟩ : ByteArray) (Go.bits .and .u8 (bt a1 x10_1) 15))] rfl ls ?_; refine (BR.byte (by (with_reducible repeat (first | apply BR.alloc | apply BR.drewN | apply BR.drew)); exact HO139.out) ((bt (⟨#[48, 49, 50, 51, 52, 53, 54, 55, 56, 57, 97, 98, 99, 100, 101, 102]⟩ : ByteArray) (Go.bits .and .u8 (bt a1 x10_1) 15))) (by have := LMc63.out; first | omega | (simp only [ByteArray.size, Array.size, List.length]; omega)) (lb_size0 (by repeat (first | (with_reducible first | exact HB.out | apply lb_alloc | apply lb_drewN | apply lb_drew1) | exact HB.out)))).mono ?_; rintro e w66 ⟨rfl, ho, hb, hg⟩; refine ⟨_, rfl, ?_⟩; replace hb := lb_bld (by repeat (first | (with_reducible first | exact HB.out | apply lb_alloc | apply lb_drewN | apply lb_drew1) | exact HB.out)) hb hg; rw [← Ny140.out] at ho; have n0_ := am (hb); have n1_ := am (ho); clear HB; clear HO139; have HB := n0_; have HO142 := n1_; clear n0_ n1_; clear ho hb hg))
    go_roundg k1
    case measure => have := HK1.out; omega
    case rel => exact ⟨(wrap64 (x10_1 + 1)), (y140), tv, H', ⟨by have := HK1.out; omega⟩, ⟨by (with_reducible repeat (first | apply BR.alloc | apply BR.drewN | apply BR.drew)); exact HO142.out⟩, ⟨by repeat (first | (with_reducible first | exact HB.out | apply lb_alloc | apply lb_drewN | apply lb_drew1) | exact HB.out)⟩⟩
   rw [if_pos c9] at H
   have c9b0 : decide (32 ≤ (bt a1 x10_1)) = true := decide_eq_true c9
   clear c9
   by_cases c10 : (bt a1 x10_1) ≤ 126
   rotate_left
   ·rw [if_neg c10] at H
    have c10b0 := decide_eq_false c10
    clear c10
    by_cases c41 : x48_1.length + 2 < 140737488355328
    rotate_left
    ·rw [if_neg c41] at H
     exact absurd H (by simp)
    rw [if_pos c41] at H
    have LMc41 := am c41
    clear c41
    obtain ⟨y125, hy125⟩ : ∃ y_ : List Int, y_ = (x48_1 ++ bytesOf (⟨#[92, 120]⟩ : ByteArray)) := ⟨_, rfl⟩
    replace H : (if 0 ≤ ((bt a1 x10_1) / 16) then (if ((bt a1 x10_1) / 16) < 16 then (if y125.length < 140737488355328 then ((some (y125 ++ [bt (⟨#[48, 49, 50, 51, 52, 53, 54, 55, 56, 57, 97, 98, 99, 100, 101, 102]⟩ : ByteArray) ((bt a1 x10_1) / 16)] : List Int)).bind fun y128 => (if 0 ≤ (Go.bits .and .u8 (bt a1 x10_1) 15) then (if (Go.bits .and .u8 (bt a1 x10_1) 15) < 16 then (if y128.length < 140737488355328 then (c_quoted.l0 k1 a1 (a1.size : Int) (wrap64 (x10_1 + 1)) (y128 ++ [bt (⟨#[48, 49, 50, 51, 52, 53, 54, 55, 56, 57, 97, 98, 99, 100, 101, 102]⟩ : ByteArray) (Go.bits .and .u8 (bt a1 x10_1) 15)])) else (none)) else (none)) else (none))) else (none)) else (none)) else (none)) = some r := by first | (rw [hy125]; with_reducible exact H) | (have H2_ := (Option.bind_some _ _).symm.trans H; rw [hy125]; with_reducible exact H2_) | (have H2_ := (Option.bind_some _ _).symm.trans H; with_reducible exact H2_) | with_reducible exact H | (rw [hy125]; exact H) | exact H
    have Ny125 := am hy125
    clear hy125
    obtain ⟨ji42, hji42⟩ : ∃ j_ : Int, ((bt a1 x10_1) / 16) = j_ := ⟨_, rfl⟩
    replace H : (if 0 ≤ (ji42) then (if (ji42) < 16 then (if y125.length < 140737488355328 then ((some (y125 ++ [bt (⟨#[48, 49, 50, 51, 52, 53, 54, 55, 56, 57, 97, 98, 99, 100, 101, 102]⟩ : ByteArray) (ji42)] : List Int)).bind fun y128 => (if 0 ≤ (Go.bits .and .u8 (bt a1 x10_1) 15) then (if (Go.bits .and .u8 (bt a1 x10_1) 15) < 16 then (if y128.length < 140737488355328 then (c_quoted.l0 k1 a1 (a1.size : Int) (wrap64 (x10_1 + 1)) (y128 ++ [bt (⟨#[48, 49, 50, 51, 52, 53, 54, 55, 56, 57, 97, 98, 99, 100, 101, 102]⟩ : ByteArray) (Go.bits .and .u8 (bt a1 x10_1) 15)])) else (none)) else (none)) else (none))) else (none)) else (none)) else (none)) = some r := by first | (rw [hji42] at H; exact H) | (simp only [hji42] at H ⊢; exact H)
    by_cases c43 : 0 ≤ (ji42)
    rotate_left
    ·rw [if_neg c43] at H
     exact absurd H (by simp)
    rw [if_pos c43] at H
    have c43b0 := decide_eq_true c43
    clear c43
    by_cases c44 : (ji42) < 16
    rotate_left
    ·rw [if_neg c44] at H
     exact absurd H (by simp)
    rw [if_pos c44] at H
    have c44b0 := decide_eq_true c44
    clear c44
    by_cases c46 : y125.length < 140737488355328
    rotate_left
    ·rw [if_neg c46] at H
     exact absurd H (by simp)
    rw [if_pos c46] at H
    have LMc46 := am c46
    clear c46
    obtain ⟨y128, hy128⟩ : ∃ y_ : List Int, y_ = (y125 ++ [bt (⟨#[48, 49, 50, 51, 52, 53, 54, 55, 56, 57, 97, 98, 99, 100, 101, 102]⟩ : ByteArray) (ji42)]) := ⟨_, rfl⟩
    replace H : (if 0 ≤ (Go.bits .and .u8 (bt a1 x10_1) 15) then (if (Go.bits .and .u8 (bt a1 x10_1) 15) < 16 then (if y128.length < 140737488355328 then (c_quoted.l0 k1 a1 (a1.size : Int) (wrap64 (x10_1 + 1)) (y128 ++ [bt (⟨#[48, 49, 50, 51, 52, 53, 54, 55, 56, 57, 97, 98, 99, 100, 101, 102]⟩ : ByteArray) (Go.bits .and .u8 (bt a1 x10_1) 15)])) else (none)) else (none)) else (none)) = some r := by first | (rw [hy128]; with_reducible exact H) | (have H2_ := (Option.bind_some _ _).symm.trans H; rw [hy128]; with_reducible exact H2_) | (have H2_ := (Option.bind_some _ _).symm.trans H; with_reducible exact H2_) | with_reducible exact H | (rw [hy128]; exact H) | exact H
    have Ny128 := am hy128
    clear hy128
    by_cases c47 : 0 ≤ (Go.bits .and .u8 (bt a1 x10_1) 15)
    rotate_left
    ·rw [if_neg c47] at H
     exact absurd H (by simp)
    rw [if_pos c47] at H
    have c47b0 := decide_eq_true c47
    clear c47
    by_cases c48 : (Go.bits .and .u8 (bt a1 x10_1) 15) < 16
    rotate_left
    ·rw [if_neg c48] at H
     exact absurd H (by simp)
    rw [if_pos c48] at H
    have c48b0 := decide_eq_true c48
    clear c48
    by_cases c50 : y128.length < 140737488355328
    rotate_left
    ·rw [if_neg c50] at H
     exact absurd H (by simp)
    rw [if_pos c50] at H
    have LMc50 := am c50
    clear c50
    obtain ⟨y131, hy131⟩ : ∃ y_ : List Int, y_ = (y128 ++ [bt (⟨#[48, 49, 50, 51, 52, 53, 54, 55, 56, 57, 97, 98, 99, 100, 101, 102]⟩ : ByteArray) (Go.bits .and .u8 (bt a1 x10_1) 15)]) := ⟨_, rfl⟩
    replace H : (c_quoted.l0 k1 a1 (a1.size : Int) (wrap64 (x10_1 + 1)) y131) = some r := by first | (rw [hy131]; with_reducible exact H) | (have H2_ := (Option.bind_some _ _).symm.trans H; rw [hy131]; with_reducible exact H2_) | (have H2_ := (Option.bind_some _ _).symm.trans H; with_reducible exact H2_) | with_reducible exact H | (rw [hy131]; exact H) | exact H
    have Ny131 := am hy131
    clear hy131
    have H' := am H
    clear H
    have p8 : 0 ≤ (x10_1 : Int) := of_decide_eq_true od
    have q8 : x10_1 < (a1.size : Int) := of_decide_eq_true od
    have hx8 := bt_at a1 x10_1
    replace p8 := eq_true p8
    replace q8 := eq_true q8
    go_wp2_with (first | ((with_reducible refine gate_callee (f := 43) rfl ?_); refine goesL_ (some 34) rfl rfl Tryd.func43 (by kernel_rfl) rfl #[.pointer (some ⟨gbb, 0, none⟩), .string (⟨#[92, 120]⟩ : ByteArray)] rfl ls ?_; refine (BR.write (by (with_reducible repeat (first | apply BR.alloc | apply BR.drewN | apply BR.drew)); exact HO_48.out) (⟨#[92, 120]⟩ : ByteArray) (by have := LMc41.out; first | omega | (simp only [ByteArray.size, Array.size, List.length]; omega)) (lb_size0 (by repeat (first | (with_reducible first | exact HB.out | apply lb_alloc | apply lb_drewN | apply lb_drew1) | exact HB.out)))).mono ?_; rintro e w51 ⟨rfl, ho, hb, hg⟩; refine ⟨_, rfl, ?_⟩; replace hb := lb_bld (by repeat (first | (with_reducible first | exact HB.out | apply lb_alloc | apply lb_drewN | apply lb_drew1) | exact HB.out)) hb hg; rw [← Ny125.out] at ho; have n0_ := am (hb); have n1_ := am (ho); clear HB; clear HO_48; have HB := n0_; have HO127 := n1_; clear n0_ n1_; clear ho hb hg; have p45 : 0 ≤ ((ji42) : Int) := of_decide_eq_true od; have q45 : (ji42) < (16 : Int) := of_decide_eq_true od; have hx45 := bt_at (⟨#[48, 49, 50, 51, 52, 53, 54, 55, 56, 57, 97, 98, 99, 100, 101, 102]⟩ : ByteArray) (ji42); replace p45 := eq_true p45; replace q45 := eq_true q45) | ((with_reducible refine gate_callee (f := 45) rfl ?_); refine goesL_ (some 39) rfl rfl Tryd.func45 (by kernel_rfl) rfl #[.pointer (some ⟨gbb, 0, none⟩), .int .u8 (bt (⟨#[48, 49, 50, 51, 52, 53, 54, 55, 56, 57, 97, 98, 99, 100, 101, 102]⟩ : ByteArray) (ji42))] rfl ls ?_; refine (BR.byte (by (with_reducible repeat (first | apply BR.alloc | apply BR.drewN | apply BR.drew)); exact HO127.out) ((bt (⟨#[48, 49, 50, 51, 52, 53, 54, 55, 56, 57, 97, 98, 99, 100, 101, 102]⟩ : ByteArray) (ji42))) (by have := LMc46.out; first | omega | (simp only [ByteArray.size, Array.size, List.length]; omega)) (lb_size0 (by repeat (first | (with_reducible first | exact HB.out | apply lb_alloc | apply lb_drewN | apply lb_drew1) | exact HB.out)))).mono ?_; rintro e w52 ⟨rfl, ho, hb, hg⟩; refine ⟨_, rfl, ?_⟩; replace hb := lb_bld (by repeat (first | (with_reducible first | exact HB.out | apply lb_alloc | apply lb_drewN | apply lb_drew1) | exact HB.out)) hb hg; rw [← Ny128.out] at ho; have n0_ := am (hb); have n1_ := am (ho); clear HB; clear HO127; have HB := n0_; have HO130 := n1_; clear n0_ n1_; clear ho hb hg; have p49 : 0 ≤ ((Go.bits .and .u8 (bt a1 x10_1) 15) : Int) := of_decide_eq_true od; have q49 : (Go.bits .and .u8 (bt a1 x10_1) 15) < (16 : Int) := of_decide_eq_true od; have hx49 := bt_at (⟨#[48, 49, 50, 51, 52, 53, 54, 55, 56, 57, 97, 98, 99, 100, 101, 102]⟩ : ByteArray) (Go.bits .and .u8 (bt a1 x10_1) 15); replace p49 := eq_true p49; replace q49 := eq_true q49) | ((with_reducible refine gate_callee (f := 45) rfl ?_); refine goesL_ (some 44) rfl rfl Tryd.func45 (by kernel_rfl) rfl #[.pointer (some ⟨gbb, 0, none⟩), .int .u8 (bt (⟨#[48, 49, 50, 51, 52, 53, 54, 55, 56, 57, 97, 98, 99, 100, 101, 102]⟩ : ByteArray) (Go.bits .and .u8 (bt a1 x10_1) 15))] rfl ls ?_; refine (BR.byte (by (with_reducible repeat (first | apply BR.alloc | apply BR.drewN | apply BR.drew)); exact HO130.out) ((bt (⟨#[48, 49, 50, 51, 52, 53, 54, 55, 56, 57, 97, 98, 99, 100, 101, 102]⟩ : ByteArray) (Go.bits .and .u8 (bt a1 x10_1) 15))) (by have := LMc50.out; first | omega | (simp only [ByteArray.size, Array.size, List.length]; omega)) (lb_size0 (by repeat (first | (with_reducible first | exact HB.out | apply lb_alloc | apply lb_drewN | apply lb_drew1) | exact HB.out)))).mono ?_; rintro e w53 ⟨rfl, ho, hb, hg⟩; refine ⟨_, rfl, ?_⟩; replace hb := lb_bld (by repeat (first | (with_reducible first | exact HB.out | apply lb_alloc | apply lb_drewN | apply lb_drew1) | exact HB.out)) hb hg; rw [← Ny131.out] at ho; have n0_ := am (hb); have n1_ := am (ho); clear HB; clear HO130; have HB := n0_; have HO133 := n1_; clear n0_ n1_; clear ho hb hg))
    go_roundg k1
    case measure => have := HK1.out; omega
    case rel => exact ⟨(wrap64 (x10_1 + 1)), (y131), tv, H', ⟨by have := HK1.out; omega⟩, ⟨by (with_reducible repeat (first | apply BR.alloc | apply BR.drewN | apply BR.drew)); exact HO133.out⟩, ⟨by repeat (first | (with_reducible first | exact HB.out | apply lb_alloc | apply lb_drewN | apply lb_drew1) | exact HB.out)⟩⟩
   rw [if_pos c10] at H
   have c10b0 := decide_eq_true c10
   clear c10
   by_cases c11 : (bt a1 x10_1) = 34
   ·rw [if_pos c11] at H
    have c11b0 : ((bt a1 x10_1) == 34) = true := beq_iff_eq.mpr c11
    have c11b1 : ((bt a1 x10_1) != 34) = false := bne_eq_false_iff_eq.mpr c11
    clear c11
    by_cases c12 : x48_1.length + 2 < 140737488355328
    rotate_left
    ·rw [if_neg c12] at H
     exact absurd H (by simp)
    rw [if_pos c12] at H
    have LMc12 := am c12
    clear c12
    obtain ⟨y104, hy104⟩ : ∃ y_ : List Int, y_ = (x48_1 ++ bytesOf (⟨#[92, 120]⟩ : ByteArray)) := ⟨_, rfl⟩
    replace H : (if 0 ≤ ((bt a1 x10_1) / 16) then (if ((bt a1 x10_1) / 16) < 16 then (if y104.length < 140737488355328 then ((some (y104 ++ [bt (⟨#[48, 49, 50, 51, 52, 53, 54, 55, 56, 57, 97, 98, 99, 100, 101, 102]⟩ : ByteArray) ((bt a1 x10_1) / 16)] : List Int)).bind fun y107 => (if 0 ≤ (Go.bits .and .u8 (bt a1 x10_1) 15) then (if (Go.bits .and .u8 (bt a1 x10_1) 15) < 16 then (if y107.length < 140737488355328 then (c_quoted.l0 k1 a1 (a1.size : Int) (wrap64 (x10_1 + 1)) (y107 ++ [bt (⟨#[48, 49, 50, 51, 52, 53, 54, 55, 56, 57, 97, 98, 99, 100, 101, 102]⟩ : ByteArray) (Go.bits .and .u8 (bt a1 x10_1) 15)])) else (none)) else (none)) else (none))) else (none)) else (none)) else (none)) = some r := by first | (rw [hy104]; with_reducible exact H) | (have H2_ := (Option.bind_some _ _).symm.trans H; rw [hy104]; with_reducible exact H2_) | (have H2_ := (Option.bind_some _ _).symm.trans H; with_reducible exact H2_) | with_reducible exact H | (rw [hy104]; exact H) | exact H
    have Ny104 := am hy104
    clear hy104
    obtain ⟨ji13, hji13⟩ : ∃ j_ : Int, ((bt a1 x10_1) / 16) = j_ := ⟨_, rfl⟩
    replace H : (if 0 ≤ (ji13) then (if (ji13) < 16 then (if y104.length < 140737488355328 then ((some (y104 ++ [bt (⟨#[48, 49, 50, 51, 52, 53, 54, 55, 56, 57, 97, 98, 99, 100, 101, 102]⟩ : ByteArray) (ji13)] : List Int)).bind fun y107 => (if 0 ≤ (Go.bits .and .u8 (bt a1 x10_1) 15) then (if (Go.bits .and .u8 (bt a1 x10_1) 15) < 16 then (if y107.length < 140737488355328 then (c_quoted.l0 k1 a1 (a1.size : Int) (wrap64 (x10_1 + 1)) (y107 ++ [bt (⟨#[48, 49, 50, 51, 52, 53, 54, 55, 56, 57, 97, 98, 99, 100, 101, 102]⟩ : ByteArray) (Go.bits .and .u8 (bt a1 x10_1) 15)])) else (none)) else (none)) else (none))) else (none)) else (none)) else (none)) = some r := by first | (rw [hji13] at H; exact H) | (simp only [hji13] at H ⊢; exact H)
    by_cases c14 : 0 ≤ (ji13)
    rotate_left
    ·rw [if_neg c14] at H
     exact absurd H (by simp)
    rw [if_pos c14] at H
    have c14b0 := decide_eq_true c14
    clear c14
    by_cases c15 : (ji13) < 16
    rotate_left
    ·rw [if_neg c15] at H
     exact absurd H (by simp)
    rw [if_pos c15] at H
    have c15b0 := decide_eq_true c15
    clear c15
    by_cases c17 : y104.length < 140737488355328
    rotate_left
    ·rw [if_neg c17] at H
     exact absurd H (by simp)
    rw [if_pos c17] at H
    have LMc17 := am c17
    clear c17
    obtain ⟨y107, hy107⟩ : ∃ y_ : List Int, y_ = (y104 ++ [bt (⟨#[48, 49, 50, 51, 52, 53, 54, 55, 56, 57, 97, 98, 99, 100, 101, 102]⟩ : ByteArray) (ji13)]) := ⟨_, rfl⟩
    replace H : (if 0 ≤ (Go.bits .and .u8 (bt a1 x10_1) 15) then (if (Go.bits .and .u8 (bt a1 x10_1) 15) < 16 then (if y107.length < 140737488355328 then (c_quoted.l0 k1 a1 (a1.size : Int) (wrap64 (x10_1 + 1)) (y107 ++ [bt (⟨#[48, 49, 50, 51, 52, 53, 54, 55, 56, 57, 97, 98, 99, 100, 101, 102]⟩ : ByteArray) (Go.bits .and .u8 (bt a1 x10_1) 15)])) else (none)) else (none)) else (none)) = some r := by first | (rw [hy107]; with_reducible exact H) | (have H2_ := (Option.bind_some _ _).symm.trans H; rw [hy107]; with_reducible exact H2_) | (have H2_ := (Option.bind_some _ _).symm.trans H; with_reducible exact H2_) | with_reducible exact H | (rw [hy107]; exact H) | exact H
    have Ny107 := am hy107
    clear hy107
    by_cases c18 : 0 ≤ (Go.bits .and .u8 (bt a1 x10_1) 15)
    rotate_left
    ·rw [if_neg c18] at H
     exact absurd H (by simp)
    rw [if_pos c18] at H
    have c18b0 := decide_eq_true c18
    clear c18
    by_cases c19 : (Go.bits .and .u8 (bt a1 x10_1) 15) < 16
    rotate_left
    ·rw [if_neg c19] at H
     exact absurd H (by simp)
    rw [if_pos c19] at H
    have c19b0 := decide_eq_true c19
    clear c19
    by_cases c21 : y107.length < 140737488355328
    rotate_left
    ·rw [if_neg c21] at H
     exact absurd H (by simp)
    rw [if_pos c21] at H
    have LMc21 := am c21
    clear c21
    obtain ⟨y110, hy110⟩ : ∃ y_ : List Int, y_ = (y107 ++ [bt (⟨#[48, 49, 50, 51, 52, 53, 54, 55, 56, 57, 97, 98, 99, 100, 101, 102]⟩ : ByteArray) (Go.bits .and .u8 (bt a1 x10_1) 15)]) := ⟨_, rfl⟩
    replace H : (c_quoted.l0 k1 a1 (a1.size : Int) (wrap64 (x10_1 + 1)) y110) = some r := by first | (rw [hy110]; with_reducible exact H) | (have H2_ := (Option.bind_some _ _).symm.trans H; rw [hy110]; with_reducible exact H2_) | (have H2_ := (Option.bind_some _ _).symm.trans H; with_reducible exact H2_) | with_reducible exact H | (rw [hy110]; exact H) | exact H
    have Ny110 := am hy110
    clear hy110
    have H' := am H
    clear H
    have p8 : 0 ≤ (x10_1 : Int) := of_decide_eq_true od
    have q8 : x10_1 < (a1.size : Int) := of_decide_eq_true od
    have hx8 := bt_at a1 x10_1
    replace p8 := eq_true p8
    replace q8 := eq_true q8
    go_wp2_with (first | ((with_reducible refine gate_callee (f := 43) rfl ?_); refine goesL_ (some 34) rfl rfl Tryd.func43 (by kernel_rfl) rfl #[.pointer (some ⟨gbb, 0, none⟩), .string (⟨#[92, 120]⟩ : ByteArray)] rfl ls ?_; refine (BR.write (by (with_reducible repeat (first | apply BR.alloc | apply BR.drewN | apply BR.drew)); exact HO_48.out) (⟨#[92, 120]⟩ : ByteArray) (by have := LMc12.out; first | omega | (simp only [ByteArray.size, Array.size, List.length]; omega)) (lb_size0 (by repeat (first | (with_reducible first | exact HB.out | apply lb_alloc | apply lb_drewN | apply lb_drew1) | exact HB.out)))).mono ?_; rintro e w22 ⟨rfl, ho, hb, hg⟩; refine ⟨_, rfl, ?_⟩; replace hb := lb_bld (by repeat (first | (with_reducible first | exact HB.out | apply lb_alloc | apply lb_drewN | apply lb_drew1) | exact HB.out)) hb hg; rw [← Ny104.out] at ho; have n0_ := am (hb); have n1_ := am (ho); clear HB; clear HO_48; have HB := n0_; have HO106 := n1_; clear n0_ n1_; clear ho hb hg; have p16 : 0 ≤ ((ji13) : Int) := of_decide_eq_true od; have q16 : (ji13) < (16 : Int) := of_decide_eq_true od; have hx16 := bt_at (⟨#[48, 49, 50, 51, 52, 53, 54, 55, 56, 57, 97, 98, 99, 100, 101, 102]⟩ : ByteArray) (ji13); replace p16 := eq_true p16; replace q16 := eq_true q16) | ((with_reducible refine gate_callee (f := 45) rfl ?_); refine goesL_ (some 39) rfl rfl Tryd.func45 (by kernel_rfl) rfl #[.pointer (some ⟨gbb, 0, none⟩), .int .u8 (bt (⟨#[48, 49, 50, 51, 52, 53, 54, 55, 56, 57, 97, 98, 99, 100, 101, 102]⟩ : ByteArray) (ji13))] rfl ls ?_; refine (BR.byte (by (with_reducible repeat (first | apply BR.alloc | apply BR.drewN | apply BR.drew)); exact HO106.out) ((bt (⟨#[48, 49, 50, 51, 52, 53, 54, 55, 56, 57, 97, 98, 99, 100, 101, 102]⟩ : ByteArray) (ji13))) (by have := LMc17.out; first | omega | (simp only [ByteArray.size, Array.size, List.length]; omega)) (lb_size0 (by repeat (first | (with_reducible first | exact HB.out | apply lb_alloc | apply lb_drewN | apply lb_drew1) | exact HB.out)))).mono ?_; rintro e w23 ⟨rfl, ho, hb, hg⟩; refine ⟨_, rfl, ?_⟩; replace hb := lb_bld (by repeat (first | (with_reducible first | exact HB.out | apply lb_alloc | apply lb_drewN | apply lb_drew1) | exact HB.out)) hb hg; rw [← Ny107.out] at ho; have n0_ := am (hb); have n1_ := am (ho); clear HB; clear HO106; have HB := n0_; have HO109 := n1_; clear n0_ n1_; clear ho hb hg; have p20 : 0 ≤ ((Go.bits .and .u8 (bt a1 x10_1) 15) : Int) := of_decide_eq_true od; have q20 : (Go.bits .and .u8 (bt a1 x10_1) 15) < (16 : Int) := of_decide_eq_true od; have hx20 := bt_at (⟨#[48, 49, 50, 51, 52, 53, 54, 55, 56, 57, 97, 98, 99, 100, 101, 102]⟩ : ByteArray) (Go.bits .and .u8 (bt a1 x10_1) 15); replace p20 := eq_true p20; replace q20 := eq_true q20) | ((with_reducible refine gate_callee (f := 45) rfl ?_); refine goesL_ (some 44) rfl rfl Tryd.func45 (by kernel_rfl) rfl #[.pointer (some ⟨gbb, 0, none⟩), .int .u8 (bt (⟨#[48, 49, 50, 51, 52, 53, 54, 55, 56, 57, 97, 98, 99, 100, 101, 102]⟩ : ByteArray) (Go.bits .and .u8 (bt a1 x10_1) 15))] rfl ls ?_; refine (BR.byte (by (with_reducible repeat (first | apply BR.alloc | apply BR.drewN | apply BR.drew)); exact HO109.out) ((bt (⟨#[48, 49, 50, 51, 52, 53, 54, 55, 56, 57, 97, 98, 99, 100, 101, 102]⟩ : ByteArray) (Go.bits .and .u8 (bt a1 x10_1) 15))) (by have := LMc21.out; first | omega | (simp only [ByteArray.size, Array.size, List.length]; omega)) (lb_size0 (by repeat (first | (with_reducible first | exact HB.out | apply lb_alloc | apply lb_drewN | apply lb_drew1) | exact HB.out)))).mono ?_; rintro e w24 ⟨rfl, ho, hb, hg⟩; refine ⟨_, rfl, ?_⟩; replace hb := lb_bld (by repeat (first | (with_reducible first | exact HB.out | apply lb_alloc | apply lb_drewN | apply lb_drew1) | exact HB.out)) hb hg; rw [← Ny110.out] at ho; have n0_ := am (hb); have n1_ := am (ho); clear HB; clear HO109; have HB := n0_; have HO112 := n1_; clear n0_ n1_; clear ho hb hg))
    go_roundg k1
    case measure => have := HK1.out; omega
    case rel => exact ⟨(wrap64 (x10_1 + 1)), (y110), tv, H', ⟨by have := HK1.out; omega⟩, ⟨by (with_reducible repeat (first | apply BR.alloc | apply BR.drewN | apply BR.drew)); exact HO112.out⟩, ⟨by repeat (first | (with_reducible first | exact HB.out | apply lb_alloc | apply lb_drewN | apply lb_drew1) | exact HB.out)⟩⟩
   rw [if_neg c11] at H
   have c11b0 : ((bt a1 x10_1) == 34) = false := beq_eq_false_iff_ne.mpr c11
   have c11b1 : ((bt a1 x10_1) != 34) = true := bne_iff_ne.mpr c11
   by_cases c25 : (bt a1 x10_1) = 92
   rotate_left
   ·rw [if_neg c25] at H
    have c25b0 : ((bt a1 x10_1) == 92) = false := beq_eq_false_iff_ne.mpr c25
    have c25b1 : ((bt a1 x10_1) != 92) = true := bne_iff_ne.mpr c25
    by_cases c39 : x48_1.length < 140737488355328
    rotate_left
    ·rw [if_neg c39] at H
     exact absurd H (by simp)
    rw [if_pos c39] at H
    have LMc39 := am c39
    clear c39
    obtain ⟨y122, hy122⟩ : ∃ y_ : List Int, y_ = (x48_1 ++ [bt a1 x10_1]) := ⟨_, rfl⟩
    replace H : (c_quoted.l0 k1 a1 (a1.size : Int) (wrap64 (x10_1 + 1)) y122) = some r := by first | (rw [hy122]; with_reducible exact H) | (have H2_ := (Option.bind_some _ _).symm.trans H; rw [hy122]; with_reducible exact H2_) | (have H2_ := (Option.bind_some _ _).symm.trans H; with_reducible exact H2_) | with_reducible exact H | (rw [hy122]; exact H) | exact H
    have Ny122 := am hy122
    clear hy122
    have H' := am H
    clear H
    have p8 : 0 ≤ (x10_1 : Int) := of_decide_eq_true od
    have q8 : x10_1 < (a1.size : Int) := of_decide_eq_true od
    have hx8 := bt_at a1 x10_1
    replace p8 := eq_true p8
    replace q8 := eq_true q8
    go_wp2_with (first | ((with_reducible refine gate_callee (f := 45) rfl ?_); refine goesL_ (some 32) rfl rfl Tryd.func45 (by kernel_rfl) rfl #[.pointer (some ⟨gbb, 0, none⟩), .int .u8 (bt a1 x10_1)] rfl ls ?_; refine (BR.byte (by (with_reducible repeat (first | apply BR.alloc | apply BR.drewN | apply BR.drew)); exact HO_48.out) ((bt a1 x10_1)) (by have := LMc39.out; first | omega | (simp only [ByteArray.size, Array.size, List.length]; omega)) (lb_size0 (by repeat (first | (with_reducible first | exact HB.out | apply lb_alloc | apply lb_drewN | apply lb_drew1) | exact HB.out)))).mono ?_; rintro e w40 ⟨rfl, ho, hb, hg⟩; refine ⟨_, rfl, ?_⟩; replace hb := lb_bld (by repeat (first | (with_reducible first | exact HB.out | apply lb_alloc | apply lb_drewN | apply lb_drew1) | exact HB.out)) hb hg; rw [← Ny122.out] at ho; have n0_ := am (hb); have n1_ := am (ho); clear HB; clear HO_48; have HB := n0_; have HO124 := n1_; clear n0_ n1_; clear ho hb hg))
    go_roundg k1
    case measure => have := HK1.out; omega
    case rel => exact ⟨(wrap64 (x10_1 + 1)), (y122), tv, H', ⟨by have := HK1.out; omega⟩, ⟨by (with_reducible repeat (first | apply BR.alloc | apply BR.drewN | apply BR.drew)); exact HO124.out⟩, ⟨by repeat (first | (with_reducible first | exact HB.out | apply lb_alloc | apply lb_drewN | apply lb_drew1) | exact HB.out)⟩⟩
   rw [if_pos c25] at H
   have c25b0 : ((bt a1 x10_1) == 92) = true := beq_iff_eq.mpr c25
   have c25b1 : ((bt a1 x10_1) != 92) = false := bne_eq_false_iff_eq.mpr c25
   clear c25
   by_cases c26 : x48_1.length + 2 < 140737488355328
   rotate_left
   ·rw [if_neg c26] at H
    exact absurd H (by simp)
   rw [if_pos c26] at H
   have LMc26 := am c26
   clear c26
   obtain ⟨y113, hy113⟩ : ∃ y_ : List Int, y_ = (x48_1 ++ bytesOf (⟨#[92, 120]⟩ : ByteArray)) := ⟨_, rfl⟩
   replace H : (if 0 ≤ ((bt a1 x10_1) / 16) then (if ((bt a1 x10_1) / 16) < 16 then (if y113.length < 140737488355328 then ((some (y113 ++ [bt (⟨#[48, 49, 50, 51, 52, 53, 54, 55, 56, 57, 97, 98, 99, 100, 101, 102]⟩ : ByteArray) ((bt a1 x10_1) / 16)] : List Int)).bind fun y116 => (if 0 ≤ (Go.bits .and .u8 (bt a1 x10_1) 15) then (if (Go.bits .and .u8 (bt a1 x10_1) 15) < 16 then (if y116.length < 140737488355328 then (c_quoted.l0 k1 a1 (a1.size : Int) (wrap64 (x10_1 + 1)) (y116 ++ [bt (⟨#[48, 49, 50, 51, 52, 53, 54, 55, 56, 57, 97, 98, 99, 100, 101, 102]⟩ : ByteArray) (Go.bits .and .u8 (bt a1 x10_1) 15)])) else (none)) else (none)) else (none))) else (none)) else (none)) else (none)) = some r := by first | (rw [hy113]; with_reducible exact H) | (have H2_ := (Option.bind_some _ _).symm.trans H; rw [hy113]; with_reducible exact H2_) | (have H2_ := (Option.bind_some _ _).symm.trans H; with_reducible exact H2_) | with_reducible exact H | (rw [hy113]; exact H) | exact H
   have Ny113 := am hy113
   clear hy113
   obtain ⟨ji27, hji27⟩ : ∃ j_ : Int, ((bt a1 x10_1) / 16) = j_ := ⟨_, rfl⟩
   replace H : (if 0 ≤ (ji27) then (if (ji27) < 16 then (if y113.length < 140737488355328 then ((some (y113 ++ [bt (⟨#[48, 49, 50, 51, 52, 53, 54, 55, 56, 57, 97, 98, 99, 100, 101, 102]⟩ : ByteArray) (ji27)] : List Int)).bind fun y116 => (if 0 ≤ (Go.bits .and .u8 (bt a1 x10_1) 15) then (if (Go.bits .and .u8 (bt a1 x10_1) 15) < 16 then (if y116.length < 140737488355328 then (c_quoted.l0 k1 a1 (a1.size : Int) (wrap64 (x10_1 + 1)) (y116 ++ [bt (⟨#[48, 49, 50, 51, 52, 53, 54, 55, 56, 57, 97, 98, 99, 100, 101, 102]⟩ : ByteArray) (Go.bits .and .u8 (bt a1 x10_1) 15)])) else (none)) else (none)) else (none))) else (none)) else (none)) else (none)) = some r := by first | (rw [hji27] at H; exact H) | (simp only [hji27] at H ⊢; exact H)
   by_cases c28 : 0 ≤ (ji27)
   rotate_left
   ·rw [if_neg c28] at H
    exact absurd H (by simp)
   rw [if_pos c28] at H
   have c28b0 := decide_eq_true c28
   clear c28
   by_cases c29 : (ji27) < 16
   rotate_left
   ·rw [if_neg c29] at H
    exact absurd H (by simp)
   rw [if_pos c29] at H
   have c29b0 := decide_eq_true c29
   clear c29
   by_cases c31 : y113.length < 140737488355328
   rotate_left
   ·rw [if_neg c31] at H
    exact absurd H (by simp)
   rw [if_pos c31] at H
   have LMc31 := am c31
   clear c31
   obtain ⟨y116, hy116⟩ : ∃ y_ : List Int, y_ = (y113 ++ [bt (⟨#[48, 49, 50, 51, 52, 53, 54, 55, 56, 57, 97, 98, 99, 100, 101, 102]⟩ : ByteArray) (ji27)]) := ⟨_, rfl⟩
   replace H : (if 0 ≤ (Go.bits .and .u8 (bt a1 x10_1) 15) then (if (Go.bits .and .u8 (bt a1 x10_1) 15) < 16 then (if y116.length < 140737488355328 then (c_quoted.l0 k1 a1 (a1.size : Int) (wrap64 (x10_1 + 1)) (y116 ++ [bt (⟨#[48, 49, 50, 51, 52, 53, 54, 55, 56, 57, 97, 98, 99, 100, 101, 102]⟩ : ByteArray) (Go.bits .and .u8 (bt a1 x10_1) 15)])) else (none)) else (none)) else (none)) = some r := by first | (rw [hy116]; with_reducible exact H) | (have H2_ := (Option.bind_some _ _).symm.trans H; rw [hy116]; with_reducible exact H2_) | (have H2_ := (Option.bind_some _ _).symm.trans H; with_reducible exact H2_) | with_reducible exact H | (rw [hy116]; exact H) | exact H
   have Ny116 := am hy116
   clear hy116
   by_cases c32 : 0 ≤ (Go.bits .and .u8 (bt a1 x10_1) 15)
   rotate_left
   ·rw [if_neg c32] at H
    exact absurd H (by simp)
   rw [if_pos c32] at H
   have c32b0 := decide_eq_true c32
   clear c32
   by_cases c33 : (Go.bits .and .u8 (bt a1 x10_1) 15) < 16
   rotate_left
   ·rw [if_neg c33] at H
    exact absurd H (by simp)
   rw [if_pos c33] at H
   have c33b0 := decide_eq_true c33
   clear c33
   by_cases c35 : y116.length < 140737488355328
   rotate_left
   ·rw [if_neg c35] at H
    exact absurd H (by simp)
   rw [if_pos c35] at H
   have LMc35 := am c35
   clear c35
   obtain ⟨y119, hy119⟩ : ∃ y_ : List Int, y_ = (y116 ++ [bt (⟨#[48, 49, 50, 51, 52, 53, 54, 55, 56, 57, 97, 98, 99, 100, 101, 102]⟩ : ByteArray) (Go.bits .and .u8 (bt a1 x10_1) 15)]) := ⟨_, rfl⟩
   replace H : (c_quoted.l0 k1 a1 (a1.size : Int) (wrap64 (x10_1 + 1)) y119) = some r := by first | (rw [hy119]; with_reducible exact H) | (have H2_ := (Option.bind_some _ _).symm.trans H; rw [hy119]; with_reducible exact H2_) | (have H2_ := (Option.bind_some _ _).symm.trans H; with_reducible exact H2_) | with_reducible exact H | (rw [hy119]; exact H) | exact H
   have Ny119 := am hy119
   clear hy119
   have H' := am H
   clear H
   have p8 : 0 ≤ (x10_1 : Int) := of_decide_eq_true od
   have q8 : x10_1 < (a1.size : Int) := of_decide_eq_true od
   have hx8 := bt_at a1 x10_1
   replace p8 := eq_true p8
   replace q8 := eq_true q8
   go_wp2_with (first | ((with_reducible refine gate_callee (f := 43) rfl ?_); refine goesL_ (some 34) rfl rfl Tryd.func43 (by kernel_rfl) rfl #[.pointer (some ⟨gbb, 0, none⟩), .string (⟨#[92, 120]⟩ : ByteArray)] rfl ls ?_; refine (BR.write (by (with_reducible repeat (first | apply BR.alloc | apply BR.drewN | apply BR.drew)); exact HO_48.out) (⟨#[92, 120]⟩ : ByteArray) (by have := LMc26.out; first | omega | (simp only [ByteArray.size, Array.size, List.length]; omega)) (lb_size0 (by repeat (first | (with_reducible first | exact HB.out | apply lb_alloc | apply lb_drewN | apply lb_drew1) | exact HB.out)))).mono ?_; rintro e w36 ⟨rfl, ho, hb, hg⟩; refine ⟨_, rfl, ?_⟩; replace hb := lb_bld (by repeat (first | (with_reducible first | exact HB.out | apply lb_alloc | apply lb_drewN | apply lb_drew1) | exact HB.out)) hb hg; rw [← Ny113.out] at ho; have n0_ := am (hb); have n1_ := am (ho); clear HB; clear HO_48; have HB := n0_; have HO115 := n1_; clear n0_ n1_; clear ho hb hg; have p30 : 0 ≤ ((ji27) : Int) := of_decide_eq_true od; have q30 : (ji27) < (16 : Int) := of_decide_eq_true od; have hx30 := bt_at (⟨#[48, 49, 50, 51, 52, 53, 54, 55, 56, 57, 97, 98, 99, 100, 101, 102]⟩ : ByteArray) (ji27); replace p30 := eq_true p30; replace q30 := eq_true q30) | ((with_reducible refine gate_callee (f := 45) rfl ?_); refine goesL_ (some 39) rfl rfl Tryd.func45 (by kernel_rfl) rfl #[.pointer (some ⟨gbb, 0, none⟩), .int .u8 (bt (⟨#[48, 49, 50, 51, 52, 53, 54, 55, 56, 57, 97, 98, 99, 100, 101, 102]⟩ : ByteArray) (ji27))] rfl ls ?_; refine (BR.byte (by (with_reducible repeat (first | apply BR.alloc | apply BR.drewN | apply BR.drew)); exact HO115.out) ((bt (⟨#[48, 49, 50, 51, 52, 53, 54, 55, 56, 57, 97, 98, 99, 100, 101, 102]⟩ : ByteArray) (ji27))) (by have := LMc31.out; first | omega | (simp only [ByteArray.size, Array.size, List.length]; omega)) (lb_size0 (by repeat (first | (with_reducible first | exact HB.out | apply lb_alloc | apply lb_drewN | apply lb_drew1) | exact HB.out)))).mono ?_; rintro e w37 ⟨rfl, ho, hb, hg⟩; refine ⟨_, rfl, ?_⟩; replace hb := lb_bld (by repeat (first | (with_reducible first | exact HB.out | apply lb_alloc | apply lb_drewN | apply lb_drew1) | exact HB.out)) hb hg; rw [← Ny116.out] at ho; have n0_ := am (hb); have n1_ := am (ho); clear HB; clear HO115; have HB := n0_; have HO118 := n1_; clear n0_ n1_; clear ho hb hg; have p34 : 0 ≤ ((Go.bits .and .u8 (bt a1 x10_1) 15) : Int) := of_decide_eq_true od; have q34 : (Go.bits .and .u8 (bt a1 x10_1) 15) < (16 : Int) := of_decide_eq_true od; have hx34 := bt_at (⟨#[48, 49, 50, 51, 52, 53, 54, 55, 56, 57, 97, 98, 99, 100, 101, 102]⟩ : ByteArray) (Go.bits .and .u8 (bt a1 x10_1) 15); replace p34 := eq_true p34; replace q34 := eq_true q34) | ((with_reducible refine gate_callee (f := 45) rfl ?_); refine goesL_ (some 44) rfl rfl Tryd.func45 (by kernel_rfl) rfl #[.pointer (some ⟨gbb, 0, none⟩), .int .u8 (bt (⟨#[48, 49, 50, 51, 52, 53, 54, 55, 56, 57, 97, 98, 99, 100, 101, 102]⟩ : ByteArray) (Go.bits .and .u8 (bt a1 x10_1) 15))] rfl ls ?_; refine (BR.byte (by (with_reducible repeat (first | apply BR.alloc | apply BR.drewN | apply BR.drew)); exact HO118.out) ((bt (⟨#[48, 49, 50, 51, 52, 53, 54, 55, 56, 57, 97, 98, 99, 100, 101, 102]⟩ : ByteArray) (Go.bits .and .u8 (bt a1 x10_1) 15))) (by have := LMc35.out; first | omega | (simp only [ByteArray.size, Array.size, List.length]; omega)) (lb_size0 (by repeat (first | (with_reducible first | exact HB.out | apply lb_alloc | apply lb_drewN | apply lb_drew1) | exact HB.out)))).mono ?_; rintro e w38 ⟨rfl, ho, hb, hg⟩; refine ⟨_, rfl, ?_⟩; replace hb := lb_bld (by repeat (first | (with_reducible first | exact HB.out | apply lb_alloc | apply lb_drewN | apply lb_drew1) | exact HB.out)) hb hg; rw [← Ny119.out] at ho; have n0_ := am (hb); have n1_ := am (ho); clear HB; clear HO118; have HB := n0_; have HO121 := n1_; clear n0_ n1_; clear ho hb hg))
   go_roundg k1
   case measure => have := HK1.out; omega
   case rel => exact ⟨(wrap64 (x10_1 + 1)), (y119), tv, H', ⟨by have := HK1.out; omega⟩, ⟨by (with_reducible repeat (first | apply BR.alloc | apply BR.drewN | apply BR.drew)); exact HO121.out⟩, ⟨by repeat (first | (with_reducible first | exact HB.out | apply lb_alloc | apply lb_drewN | apply lb_drew1) | exact HB.out)⟩⟩
end Go.Proofs.YtdkejcadoepnnaaDoor.ECq
