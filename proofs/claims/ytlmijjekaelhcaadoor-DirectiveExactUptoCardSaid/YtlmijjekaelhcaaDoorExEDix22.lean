/-
 A text of this session's own.
-/
import Derived.Test.YtlmijjekaelhcaaDoorExA0
import Derived.Test.YtlmijjekaelhcaaDoorExEDpx0
import Derived.Test.YtlmijjekaelhcaaDoorExEDix14
import Derived.Test.YtlmijjekaelhcaaDoorExEDix18
import Derived.Test.YtlmijjekaelhcaaDoorExEDix21
import Derived.Test.YtlmijjekaelhcaaDoorExX
namespace Go.Proofs.YtlmijjekaelhcaaDoor.EDi
open Go.RowKit Go.Proofs.YtlmijjekaelhcaaDoorW.PrintWords Go.Proofs.YtlmijjekaelhcaaDoorW.PrintLast Go.Proofs.YtlmijjekaelhcaaDoorW.PrintMore
attribute [local go_sem] max2_int min2_int max_two min_two max_three min_three max_four min_four
set_option linter.unusedVariables false
set_option linter.unusedSimpArgs false
open Go.Proofs.YtlmijjekaelhcaaDoor.X
def d_Parse.l0 : Nat → ByteArray → List (S25) → Int → Option ((List (S25)) × Int × Int)
 | 0, _, _, _ => none
 | k + 1, x0, x5, x6 => if x6 < (x0.size : Int) then (if 0 ≤ x6 then (if x6 ≤ (x0.size : Int) then ((xIndexByte.f (x0.extract (x6 : Int).toNat x0.size) 37).bind fun t344 => (if t344 < 0 then (if 0 ≤ ((x0.extract (x6 : Int).toNat x0.size).size : Int) then (if ((x0.extract (x6 : Int).toNat x0.size).size : Int) ≤ ((x0.extract (x6 : Int).toNat x0.size).size : Int) then (if x5.length < 2199023255552 then (d_Parse.l0 k x0 (x5 ++ [(⟨(x0.extract (x6 : Int).toNat x0.size).extract 0 (((x0.extract (x6 : Int).toNat x0.size).size : Int) : Int).toNat, 0, 0, 0, 0, 0, 0⟩ : S25)]) (wrap64 (x6 + ((x0.extract (x6 : Int).toNat x0.size).size : Int)))) else (none)) else (none)) else (none)) else (if t344 > 0 then (if 0 ≤ t344 then (if t344 ≤ ((x0.extract (x6 : Int).toNat x0.size).size : Int) then (if x5.length < 2199023255552 then (d_Parse.l0 k x0 (x5 ++ [(⟨(x0.extract (x6 : Int).toNat x0.size).extract 0 (t344 : Int).toNat, 0, 0, 0, 0, 0, 0⟩ : S25)]) (wrap64 (x6 + t344))) else (none)) else (none)) else (none)) else ((strings_HasPrefix.f (x0.extract (x6 : Int).toNat x0.size) (⟨#[37, 37]⟩ : ByteArray)).bind fun t351 => (if t351 = true then (if x5.length < 2199023255552 then (d_Parse.l0 k x0 (x5 ++ [(⟨(⟨#[]⟩ : ByteArray), 37, 0, 0, 0, 0, 0⟩ : S25)]) (wrap64 (x6 + 2))) else (none)) else ((xReader.f x0 (wrap64 (x6 + 1))).bind fun bt355 => ((d_reader_read.f k bt355.1 bt355.2.1 bt355.2.2.1 bt355.2.2.2.1 bt355.2.2.2.2.1 bt355.2.2.2.2.2.1 bt355.2.2.2.2.2.2.1 bt355.2.2.2.2.2.2.2.1 bt355.2.2.2.2.2.2.2.2.1 bt355.2.2.2.2.2.2.2.2.2.1 bt355.2.2.2.2.2.2.2.2.2.2).bind fun bt367 => (if bt367.2.2.2.1 = 0 then (if x5.length < 2199023255552 then (d_Parse.l0 k x0 (x5 ++ [(⟨bt367.2.2.2.2.1, bt367.2.2.2.2.2.1, bt367.2.2.2.2.2.2.1, bt367.2.2.2.2.2.2.2.1, bt367.2.2.2.2.2.2.2.2.1, bt367.2.2.2.2.2.2.2.2.2.1, bt367.2.2.2.2.2.2.2.2.2.2⟩ : S25)]) bt367.2.1) else (none)) else (some (([] : List (S25)), bt367.2.2.1, bt367.2.2.2.1)))))))))) else (none)) else (none)) else (some (x5, 0, 0))
def d_Parse.f (k : Nat) (a0 : ByteArray) : Option ((List (S25)) × Int × Int) := d_Parse.l0 k a0 ([] : List (S25)) 0
theorem d_Parse.mono_l : ∀ k, (∀ y0 y1 y2, LeO (d_Parse.l0 k y0 y1 y2) (d_Parse.l0 (k + 1) y0 y1 y2))
 | 0 => fun _ _ _ r h => by simp [d_Parse.l0] at h
 | k + 1 => by
  have ih0 := d_Parse.mono_l k
  ·intro y0 y1 y2
   unfold d_Parse.l0
   repeat' first
   | (with_reducible exact ih0 _ _ _)
   | (with_reducible exact d_reader_read.mono _ _ _ _ _ _ _ _ _ _ _ _)
   | (with_reducible exact LeO.refl _)
   | (with_reducible exact LeO.none _)
   | (with_reducible refine LeO.ite ?_ ?_)
   | (with_reducible refine LeO.bind ?_ (fun _ => ?_))
   | exact ih0 _ _ _
   | exact d_reader_read.mono _ _ _ _ _ _ _ _ _ _ _ _
   | exact LeO.none _
   | refine LeO.ite ?_ ?_
   | refine LeO.bind ?_ (fun _ => ?_)
theorem d_Parse.mono : ∀ a0 k, LeO (d_Parse.f k a0) (d_Parse.f (k + 1) a0) := by
 intro a0 k
 have ih0 := d_Parse.mono_l k
 unfold d_Parse.f
 repeat' first
   | (with_reducible exact ih0 _ _ _)
   | (with_reducible exact d_reader_read.mono _ _ _ _ _ _ _ _ _ _ _ _)
   | (with_reducible exact LeO.refl _)
   | (with_reducible exact LeO.none _)
   | (with_reducible refine LeO.ite ?_ ?_)
   | (with_reducible refine LeO.bind ?_ (fun _ => ?_))
   | exact ih0 _ _ _
   | exact d_reader_read.mono _ _ _ _ _ _ _ _ _ _ _ _
   | exact LeO.none _
   | refine LeO.ite ?_ ?_
   | refine LeO.bind ?_ (fun _ => ?_)
theorem xReader_eq {s : ByteArray} {p : Int} {t0 : ByteArray} {t1 t2 t3 : Int} {t4 : ByteArray} {t5 t6 t7 t8 t9 t10 : Int} (h : xReader.f s p = some (t0, t1, t2, t3, t4, t5, t6, t7, t8, t9, t10)) :
  t0 = s ∧ t1 = p ∧ t2 = 0 ∧ t3 = 0 ∧ t4 = ⟨#[]⟩ ∧ t5 = 0 ∧ t6 = 0 ∧ t7 = 0 ∧ t8 = 0 ∧ t9 = 0 ∧ t10 = 0 := by
 simp only [xReader.f, Option.some.injEq, Prod.mk.injEq] at h
 obtain ⟨a, b, c, d, e, f, g, i, j, k, l⟩ := h
 exact ⟨a.symm, b.symm, c.symm, d.symm, e.symm, f.symm, g.symm, i.symm, j.symm, k.symm, l.symm⟩
set_option maxHeartbeats 8000000 in
set_option maxRecDepth 100000 in
theorem d_Parse.calls (k : Nat) (a0 : ByteArray) (r1 : List (S25)) (r2 : Int) (r3 : Int) (w : World) (h : d_Parse.f k a0 = some (r1, r2, r3)) :
  Calls Tryd.prog 13 #[.string a0] w fun e w' => ∃ v0_ : Value, e = .returned (.tuple #[v0_, .int .i64 r2, .int .i64 r3]) ∧ Kd.R k25 25 w' w.heap.size (fun _ => True) v0_ r1 ∧ Below w.heap.size w w' := by
 have hu25 := Tryd.underlying25
 have HB := am (Below.refl w.heap.size w)
 have H : (d_Parse.l0 k a0 ([] : List (S25)) 0) = some (r1, r2, r3) := h
 clear h
 have H' := am H
 clear H
 go_enter Tryd.func13, Tryd.ntmps13
 go_wp2
 go_loopg [5, 6] k (fun kq v5 v6 w' => ∃ (x5_1 : List (S25)) (x6_1 : Int), v6 = .int .i64 x6_1 ∧ Aside0 (d_Parse.l0 kq a0 x5_1 x6_1 = some (r1, r2, r3)) ∧ Aside0 (kq ≤ k) ∧ Aside0 (Kd.R k25 25 w' w.heap.size (fun _ => True) v5 x5_1) ∧ Aside0 (Below w.heap.size w w'))
 case atStart => exact ⟨(([] : List (S25))), (0), tv, H', ⟨Nat.le_refl _⟩, ⟨by first | exact Kd.R_nil _ _ _ _ _ | exact Kd.N_nil _ _ _ _ _ | exact Kd.V_nil _ _ _ _ _ | exact Kd.Q_nil _ _ _ _ _ | exact Kd.S_nil _ _ _ _ _⟩, ⟨bl⟩⟩
 case round =>
  clear H'
  try clear c1
  obtain ⟨x5_1, x6_1, rfl, HA, HK1, HO_5, HB⟩ := hrel
  cases gk with
  | zero => exact absurd HA.out (by simp [d_Parse.l0])
  | succ k1 =>
   have H := HA.out
   clear HA
   simp only [d_Parse.l0] at H
   by_cases c2 : x6_1 < (a0.size : Int)
   rotate_left
   ·rw [if_neg c2] at H
    have c2b0 := decide_eq_false c2
    clear c2
    simp only [Option.some.injEq, Prod.mk.injEq] at H
    obtain ⟨rfl, rfl, rfl⟩ := H
    go_wp2
    go_ret3
    exact ⟨_, er, by (with_reducible repeat (first | apply Kd.R_alloc | apply Kd.R_drewN | apply Kd.R_drew)); exact HO_5.out, bl⟩
   rw [if_pos c2] at H
   have c2b0 := decide_eq_true c2
   clear c2
   by_cases c3 : 0 ≤ x6_1
   rotate_left
   ·rw [if_neg c3] at H
    exact absurd H (by simp)
   rw [if_pos c3] at H
   have c3b0 := eq_true c3
   have c3b1 := decide_eq_true c3
   clear c3
   by_cases c4 : x6_1 ≤ (a0.size : Int)
   rotate_left
   ·rw [if_neg c4] at H
    exact absurd H (by simp)
   rw [if_pos c4] at H
   have c4b0 := eq_true c4
   have c4b1 := decide_eq_true c4
   clear c4
   replace H := Option.bind_eq_some_iff.mp H
   obtain ⟨t344, A50, H⟩ := H
   replace H : (if t344 < 0 then (if 0 ≤ ((a0.extract (x6_1 : Int).toNat a0.size).size : Int) then (if ((a0.extract (x6_1 : Int).toNat a0.size).size : Int) ≤ ((a0.extract (x6_1 : Int).toNat a0.size).size : Int) then (if x5_1.length < 2199023255552 then (d_Parse.l0 k1 a0 (x5_1 ++ [(⟨(a0.extract (x6_1 : Int).toNat a0.size).extract 0 (((a0.extract (x6_1 : Int).toNat a0.size).size : Int) : Int).toNat, 0, 0, 0, 0, 0, 0⟩ : S25)]) (wrap64 (x6_1 + ((a0.extract (x6_1 : Int).toNat a0.size).size : Int)))) else (none)) else (none)) else (none)) else (if t344 > 0 then (if 0 ≤ t344 then (if t344 ≤ ((a0.extract (x6_1 : Int).toNat a0.size).size : Int) then (if x5_1.length < 2199023255552 then (d_Parse.l0 k1 a0 (x5_1 ++ [(⟨(a0.extract (x6_1 : Int).toNat a0.size).extract 0 (t344 : Int).toNat, 0, 0, 0, 0, 0, 0⟩ : S25)]) (wrap64 (x6_1 + t344))) else (none)) else (none)) else (none)) else ((strings_HasPrefix.f (a0.extract (x6_1 : Int).toNat a0.size) (⟨#[37, 37]⟩ : ByteArray)).bind fun t351 => (if t351 = true then (if x5_1.length < 2199023255552 then (d_Parse.l0 k1 a0 (x5_1 ++ [(⟨(⟨#[]⟩ : ByteArray), 37, 0, 0, 0, 0, 0⟩ : S25)]) (wrap64 (x6_1 + 2))) else (none)) else ((xReader.f a0 (wrap64 (x6_1 + 1))).bind fun bt355 => ((d_reader_read.f k1 bt355.1 bt355.2.1 bt355.2.2.1 bt355.2.2.2.1 bt355.2.2.2.2.1 bt355.2.2.2.2.2.1 bt355.2.2.2.2.2.2.1 bt355.2.2.2.2.2.2.2.1 bt355.2.2.2.2.2.2.2.2.1 bt355.2.2.2.2.2.2.2.2.2.1 bt355.2.2.2.2.2.2.2.2.2.2).bind fun bt367 => (if bt367.2.2.2.1 = 0 then (if x5_1.length < 2199023255552 then (d_Parse.l0 k1 a0 (x5_1 ++ [(⟨bt367.2.2.2.2.1, bt367.2.2.2.2.2.1, bt367.2.2.2.2.2.2.1, bt367.2.2.2.2.2.2.2.1, bt367.2.2.2.2.2.2.2.2.1, bt367.2.2.2.2.2.2.2.2.2.1, bt367.2.2.2.2.2.2.2.2.2.2⟩ : S25)]) bt367.2.1) else (none)) else (some (([] : List (S25)), bt367.2.2.1, bt367.2.2.2.1))))))))) = some (r1, r2, r3) := H
   have A5 := am A50
   clear A50
   by_cases c6 : t344 < 0
   ·rw [if_pos c6] at H
    have c6b0 := decide_eq_true c6
    clear c6
    by_cases c7 : 0 ≤ ((a0.extract (x6_1 : Int).toNat a0.size).size : Int)
    rotate_left
    ·rw [if_neg c7] at H
     exact absurd H (by simp)
    rw [if_pos c7] at H
    have c7b0 := eq_true c7
    have c7b1 := decide_eq_true c7
    clear c7
    by_cases c8 : ((a0.extract (x6_1 : Int).toNat a0.size).size : Int) ≤ ((a0.extract (x6_1 : Int).toNat a0.size).size : Int)
    rotate_left
    ·rw [if_neg c8] at H
     exact absurd H (by simp)
    rw [if_pos c8] at H
    have c8b0 := eq_true c8
    have c8b1 := decide_eq_true c8
    clear c8
    by_cases c9 : x5_1.length < 2199023255552
    rotate_left
    ·rw [if_neg c9] at H
     exact absurd H (by simp)
    rw [if_pos c9] at H
    have LMc9 := am c9
    clear c9
    obtain ⟨y345, hy345⟩ : ∃ y_ : List (S25), y_ = (x5_1 ++ [(⟨(a0.extract (x6_1 : Int).toNat a0.size).extract 0 (((a0.extract (x6_1 : Int).toNat a0.size).size : Int) : Int).toNat, 0, 0, 0, 0, 0, 0⟩ : S25)]) := ⟨_, rfl⟩
    replace H : (d_Parse.l0 k1 a0 y345 (wrap64 (x6_1 + ((a0.extract (x6_1 : Int).toNat a0.size).size : Int)))) = some (r1, r2, r3) := by first | (rw [hy345]; with_reducible exact H) | (have H2_ := (Option.bind_some _ _).symm.trans H; rw [hy345]; with_reducible exact H2_) | (have H2_ := (Option.bind_some _ _).symm.trans H; with_reducible exact H2_) | with_reducible exact H | (rw [hy345]; exact H) | exact H
    have Ny345 := am hy345
    clear hy345
    have H' := am H
    clear H
    have hE_ : (((a0.extract (x6_1 : Int).toNat a0.size).size : Int) : Int).toNat = a0.size - x6_1.toNat := (by rw [Int.toNat_natCast, ByteArray.size_extract, Nat.min_self])
    have Ny_ := Ny345.out
    rw [hE_] at Ny_
    clear Ny345 hE_
    have Ny345 := am Ny_
    clear Ny_
    go_wp2_with (first | ((with_reducible refine gate_callee (f := 25) rfl ?_); refine goesL_ (some 18) rfl rfl Tryd.func25 (by kernel_rfl) rfl #[.string (a0.extract (x6_1 : Int).toNat a0.size), .int .u8 37] rfl ls ?_; (with_reducible refine (xIndexByte.calls (a0.extract (x6_1 : Int).toNat a0.size) 37 t344 _ A5.out).mono ?_); rintro e w10 ⟨rfl, hb⟩; refine ⟨_, rfl, ?_⟩; have n0_ := am (Kd.R_below (by (with_reducible repeat (first | apply Kd.R_alloc | apply Kd.R_drewN | apply Kd.R_drew)); exact HO_5.out) hb); have n1_ := am (below_step bl hb); clear HO_5; clear HB; have HO_5 := n0_; have HB := n1_; clear n0_ n1_; (try clear hb); (try clear hb2); (try clear hk); (try clear hi)) | ((with_reducible refine gate_builtin (b := .append) (xs := #[.tmp 30, .tmp 35]) rfl ?_); at_builtin; refine Kd.R_append k25 (w0 := w) w.heap.size rfl (.tmp 30) (.tmp 35) 22 25 (.agg #[(.string ⟨#[]⟩), (.int .u8 0), (.int .i64 0), (.int .i64 0), (.int .i64 0), (.int .i64 0), (.int .i64 0)]) 64 rfl Tryd.underlying22 info25 rfl (by decide) (by omega) u5 x5_1 (⟨(a0.extract (x6_1 : Int).toNat a0.size).extract 0 (a0.size - x6_1.toNat), 0, 0, 0, 0, 0, 0⟩ : S25) [.string ((a0.extract (x6_1 : Int).toNat a0.size).extract 0 (a0.size - x6_1.toNat)), .int .u8 0, .int .i64 0, .int .i64 0, .int .i64 0, .int .i64 0, .int .i64 0] (fun _ => True) (fun _ => False) rfl rfl ?aP (fun _ hk => hk.elim) ?aF ?aO ?aB ?aS ?aL ?_; (case aP => exact k25_mkM _ _ _ (⟨(a0.extract (x6_1 : Int).toNat a0.size).extract 0 (a0.size - x6_1.toNat), 0, 0, 0, 0, 0, 0⟩ : S25)); (case aB => exact bl); (case aF => exact (fun _ _ => trivial)); (case aO => exact (by (with_reducible repeat (first | apply Kd.R_alloc | apply Kd.R_drewN | apply Kd.R_drew)); exact HO_5.out)); (case aS => exact (below_size bl)); (case aL => have := LMc9.out; omega); intro v346 w11 ho hb hg hat; rw [← Ny345.out] at ho; have n0_ := am (hb); have n1_ := am (ho); clear HB; clear HO_5; have HB := n0_; have HO347 := n1_; clear n0_ n1_; clear ho hb hg hat))
    go_roundg k1
    case measure => have := HK1.out; omega
    case rel => exact ⟨(y345), (wrap64 (x6_1 + ((a0.extract (x6_1 : Int).toNat a0.size).size : Int))), tv, H', ⟨by have := HK1.out; omega⟩, ⟨by (with_reducible repeat (first | apply Kd.R_alloc | apply Kd.R_drewN | apply Kd.R_drew)); exact HO347.out⟩, ⟨bl⟩⟩
   rw [if_neg c6] at H
   have c6b0 := decide_eq_false c6
   clear c6
   by_cases c12 : t344 > 0
   ·rw [if_pos c12] at H
    have c12b0 : decide (0 < t344) = true := decide_eq_true c12
    clear c12
    by_cases c13 : 0 ≤ t344
    rotate_left
    ·rw [if_neg c13] at H
     exact absurd H (by simp)
    rw [if_pos c13] at H
    have c13b0 := eq_true c13
    have c13b1 := decide_eq_true c13
    clear c13
    by_cases c14 : t344 ≤ ((a0.extract (x6_1 : Int).toNat a0.size).size : Int)
    rotate_left
    ·rw [if_neg c14] at H
     exact absurd H (by simp)
    rw [if_pos c14] at H
    have c14b0 := eq_true c14
    have c14b2 : (((a0.size - x6_1.toNat : Nat) : Int) < t344) = False := eq_false (by have h_ := c14; rw [ByteArray.size_extract, Nat.min_self] at h_; omega)
    have c14b3 : (t344 ≤ ((a0.size - x6_1.toNat : Nat) : Int)) = True := eq_true (by have h_ := c14; rw [ByteArray.size_extract, Nat.min_self] at h_; omega)
    have c14b4 : decide (t344 ≤ ((a0.size - x6_1.toNat : Nat) : Int)) = true := decide_eq_true (of_eq_true c14b3)
    have c14b1 := decide_eq_true c14
    clear c14
    by_cases c15 : x5_1.length < 2199023255552
    rotate_left
    ·rw [if_neg c15] at H
     exact absurd H (by simp)
    rw [if_pos c15] at H
    have LMc15 := am c15
    clear c15
    obtain ⟨y348, hy348⟩ : ∃ y_ : List (S25), y_ = (x5_1 ++ [(⟨(a0.extract (x6_1 : Int).toNat a0.size).extract 0 (t344 : Int).toNat, 0, 0, 0, 0, 0, 0⟩ : S25)]) := ⟨_, rfl⟩
    replace H : (d_Parse.l0 k1 a0 y348 (wrap64 (x6_1 + t344))) = some (r1, r2, r3) := by first | (rw [hy348]; with_reducible exact H) | (have H2_ := (Option.bind_some _ _).symm.trans H; rw [hy348]; with_reducible exact H2_) | (have H2_ := (Option.bind_some _ _).symm.trans H; with_reducible exact H2_) | with_reducible exact H | (rw [hy348]; exact H) | exact H
    have Ny348 := am hy348
    clear hy348
    have H' := am H
    clear H
    go_wp2_with (first | ((with_reducible refine gate_callee (f := 25) rfl ?_); refine goesL_ (some 18) rfl rfl Tryd.func25 (by kernel_rfl) rfl #[.string (a0.extract (x6_1 : Int).toNat a0.size), .int .u8 37] rfl ls ?_; (with_reducible refine (xIndexByte.calls (a0.extract (x6_1 : Int).toNat a0.size) 37 t344 _ A5.out).mono ?_); rintro e w16 ⟨rfl, hb⟩; refine ⟨_, rfl, ?_⟩; have n0_ := am (Kd.R_below (by (with_reducible repeat (first | apply Kd.R_alloc | apply Kd.R_drewN | apply Kd.R_drew)); exact HO_5.out) hb); have n1_ := am (below_step bl hb); clear HO_5; clear HB; have HO_5 := n0_; have HB := n1_; clear n0_ n1_; (try clear hb); (try clear hb2); (try clear hk); (try clear hi)) | ((with_reducible refine gate_builtin (b := .append) (xs := #[.tmp 30, .tmp 35]) rfl ?_); at_builtin; refine Kd.R_append k25 (w0 := w) w.heap.size rfl (.tmp 30) (.tmp 35) 22 25 (.agg #[(.string ⟨#[]⟩), (.int .u8 0), (.int .i64 0), (.int .i64 0), (.int .i64 0), (.int .i64 0), (.int .i64 0)]) 64 rfl Tryd.underlying22 info25 rfl (by decide) (by omega) u5 x5_1 (⟨(a0.extract (x6_1 : Int).toNat a0.size).extract 0 (t344 : Int).toNat, 0, 0, 0, 0, 0, 0⟩ : S25) [.string ((a0.extract (x6_1 : Int).toNat a0.size).extract 0 (t344 : Int).toNat), .int .u8 0, .int .i64 0, .int .i64 0, .int .i64 0, .int .i64 0, .int .i64 0] (fun _ => True) (fun _ => False) rfl rfl ?aP (fun _ hk => hk.elim) ?aF ?aO ?aB ?aS ?aL ?_; (case aP => exact k25_mkM _ _ _ (⟨(a0.extract (x6_1 : Int).toNat a0.size).extract 0 (t344 : Int).toNat, 0, 0, 0, 0, 0, 0⟩ : S25)); (case aB => exact bl); (case aF => exact (fun _ _ => trivial)); (case aO => exact (by (with_reducible repeat (first | apply Kd.R_alloc | apply Kd.R_drewN | apply Kd.R_drew)); exact HO_5.out)); (case aS => exact (below_size bl)); (case aL => have := LMc15.out; omega); intro v349 w17 ho hb hg hat; rw [← Ny348.out] at ho; have n0_ := am (hb); have n1_ := am (ho); clear HB; clear HO_5; have HB := n0_; have HO350 := n1_; clear n0_ n1_; clear ho hb hg hat))
    go_roundg k1
    case measure => have := HK1.out; omega
    case rel => exact ⟨(y348), (wrap64 (x6_1 + t344)), tv, H', ⟨by have := HK1.out; omega⟩, ⟨by (with_reducible repeat (first | apply Kd.R_alloc | apply Kd.R_drewN | apply Kd.R_drew)); exact HO350.out⟩, ⟨bl⟩⟩
   rw [if_neg c12] at H
   have c12b0 : decide (0 < t344) = false := decide_eq_false c12
   clear c12
   replace H := Option.bind_eq_some_iff.mp H
   obtain ⟨t351, A180, H⟩ := H
   replace H : (if t351 = true then (if x5_1.length < 2199023255552 then (d_Parse.l0 k1 a0 (x5_1 ++ [(⟨(⟨#[]⟩ : ByteArray), 37, 0, 0, 0, 0, 0⟩ : S25)]) (wrap64 (x6_1 + 2))) else (none)) else ((xReader.f a0 (wrap64 (x6_1 + 1))).bind fun bt355 => ((d_reader_read.f k1 bt355.1 bt355.2.1 bt355.2.2.1 bt355.2.2.2.1 bt355.2.2.2.2.1 bt355.2.2.2.2.2.1 bt355.2.2.2.2.2.2.1 bt355.2.2.2.2.2.2.2.1 bt355.2.2.2.2.2.2.2.2.1 bt355.2.2.2.2.2.2.2.2.2.1 bt355.2.2.2.2.2.2.2.2.2.2).bind fun bt367 => (if bt367.2.2.2.1 = 0 then (if x5_1.length < 2199023255552 then (d_Parse.l0 k1 a0 (x5_1 ++ [(⟨bt367.2.2.2.2.1, bt367.2.2.2.2.2.1, bt367.2.2.2.2.2.2.1, bt367.2.2.2.2.2.2.2.1, bt367.2.2.2.2.2.2.2.2.1, bt367.2.2.2.2.2.2.2.2.2.1, bt367.2.2.2.2.2.2.2.2.2.2⟩ : S25)]) bt367.2.1) else (none)) else (some (([] : List (S25)), bt367.2.2.1, bt367.2.2.2.1)))))) = some (r1, r2, r3) := H
   have A18 := am A180
   clear A180
   by_cases c19 : t351 = true
   ·subst c19
    have H1 : (if x5_1.length < 2199023255552 then (d_Parse.l0 k1 a0 (x5_1 ++ [(⟨(⟨#[]⟩ : ByteArray), 37, 0, 0, 0, 0, 0⟩ : S25)]) (wrap64 (x6_1 + 2))) else (none)) = some (r1, r2, r3) := by rw [if_pos rfl] at H; exact H
    clear H
    have H := H1
    clear H1
    by_cases c20 : x5_1.length < 2199023255552
    rotate_left
    ·rw [if_neg c20] at H
     exact absurd H (by simp)
    rw [if_pos c20] at H
    have LMc20 := am c20
    clear c20
    obtain ⟨y352, hy352⟩ : ∃ y_ : List (S25), y_ = (x5_1 ++ [(⟨(⟨#[]⟩ : ByteArray), 37, 0, 0, 0, 0, 0⟩ : S25)]) := ⟨_, rfl⟩
    replace H : (d_Parse.l0 k1 a0 y352 (wrap64 (x6_1 + 2))) = some (r1, r2, r3) := by first | (rw [hy352]; with_reducible exact H) | (have H2_ := (Option.bind_some _ _).symm.trans H; rw [hy352]; with_reducible exact H2_) | (have H2_ := (Option.bind_some _ _).symm.trans H; with_reducible exact H2_) | with_reducible exact H | (rw [hy352]; exact H) | exact H
    have Ny352 := am hy352
    clear hy352
    have H' := am H
    clear H
    go_wp2_with (first | ((with_reducible refine gate_callee (f := 25) rfl ?_); refine goesL_ (some 18) rfl rfl Tryd.func25 (by kernel_rfl) rfl #[.string (a0.extract (x6_1 : Int).toNat a0.size), .int .u8 37] rfl ls ?_; (with_reducible refine (xIndexByte.calls (a0.extract (x6_1 : Int).toNat a0.size) 37 t344 _ A5.out).mono ?_); rintro e w21 ⟨rfl, hb⟩; refine ⟨_, rfl, ?_⟩; have n0_ := am (Kd.R_below (by (with_reducible repeat (first | apply Kd.R_alloc | apply Kd.R_drewN | apply Kd.R_drew)); exact HO_5.out) hb); have n1_ := am (below_step bl hb); clear HO_5; clear HB; have HO_5 := n0_; have HB := n1_; clear n0_ n1_; (try clear hb); (try clear hb2); (try clear hk); (try clear hi)) | ((with_reducible refine gate_callee (f := 29) rfl ?_); refine goesL_ (some 27) rfl rfl Tryd.func29 (by kernel_rfl) rfl #[.string (a0.extract (x6_1 : Int).toNat a0.size), .string (⟨#[37, 37]⟩ : ByteArray)] rfl ls ?_; (with_reducible refine (strings_HasPrefix.calls (a0.extract (x6_1 : Int).toNat a0.size) (⟨#[37, 37]⟩ : ByteArray) true _ A18.out).mono ?_); rintro e w' ⟨rfl, ⟨nd, rfl⟩⟩; refine ⟨_, rfl, ?_⟩) | ((with_reducible refine gate_builtin (b := .append) (xs := #[.tmp 40, .tmp 42]) rfl ?_); at_builtin; refine Kd.R_append k25 (w0 := w) w.heap.size rfl (.tmp 40) (.tmp 42) 22 25 (.agg #[(.string ⟨#[]⟩), (.int .u8 0), (.int .i64 0), (.int .i64 0), (.int .i64 0), (.int .i64 0), (.int .i64 0)]) 64 rfl Tryd.underlying22 info25 rfl (by decide) (by omega) u5 x5_1 (⟨(⟨#[]⟩ : ByteArray), 37, 0, 0, 0, 0, 0⟩ : S25) [.string (⟨#[]⟩ : ByteArray), .int .u8 37, .int .i64 0, .int .i64 0, .int .i64 0, .int .i64 0, .int .i64 0] (fun _ => True) (fun _ => False) rfl rfl ?aP (fun _ hk => hk.elim) ?aF ?aO ?aB ?aS ?aL ?_; (case aP => exact k25_mkM _ _ _ (⟨(⟨#[]⟩ : ByteArray), 37, 0, 0, 0, 0, 0⟩ : S25)); (case aB => exact bl); (case aF => exact (fun _ _ => trivial)); (case aO => exact (by (with_reducible repeat (first | apply Kd.R_alloc | apply Kd.R_drewN | apply Kd.R_drew)); exact HO_5.out)); (case aS => exact (below_size bl)); (case aL => have := LMc20.out; omega); intro v353 w22 ho hb hg hat; rw [← Ny352.out] at ho; have n0_ := am (hb); have n1_ := am (ho); clear HB; clear HO_5; have HB := n0_; have HO354 := n1_; clear n0_ n1_; clear ho hb hg hat))
    go_roundg k1
    case measure => have := HK1.out; omega
    case rel => exact ⟨(y352), (wrap64 (x6_1 + 2)), tv, H', ⟨by have := HK1.out; omega⟩, ⟨by (with_reducible repeat (first | apply Kd.R_alloc | apply Kd.R_drewN | apply Kd.R_drew)); exact HO354.out⟩, ⟨bl⟩⟩
   replace c19 := Bool.eq_false_iff.mpr c19
   subst c19
   have H1 : ((xReader.f a0 (wrap64 (x6_1 + 1))).bind fun bt355 => ((d_reader_read.f k1 bt355.1 bt355.2.1 bt355.2.2.1 bt355.2.2.2.1 bt355.2.2.2.2.1 bt355.2.2.2.2.2.1 bt355.2.2.2.2.2.2.1 bt355.2.2.2.2.2.2.2.1 bt355.2.2.2.2.2.2.2.2.1 bt355.2.2.2.2.2.2.2.2.2.1 bt355.2.2.2.2.2.2.2.2.2.2).bind fun bt367 => (if bt367.2.2.2.1 = 0 then (if x5_1.length < 2199023255552 then (d_Parse.l0 k1 a0 (x5_1 ++ [(⟨bt367.2.2.2.2.1, bt367.2.2.2.2.2.1, bt367.2.2.2.2.2.2.1, bt367.2.2.2.2.2.2.2.1, bt367.2.2.2.2.2.2.2.2.1, bt367.2.2.2.2.2.2.2.2.2.1, bt367.2.2.2.2.2.2.2.2.2.2⟩ : S25)]) bt367.2.1) else (none)) else (some (([] : List (S25)), bt367.2.2.1, bt367.2.2.2.1))))) = some (r1, r2, r3) := by rw [if_neg (show ¬ (false = true) by decide)] at H; exact H
   clear H
   have H := H1
   clear H1
   replace H := Option.bind_eq_some_iff.mp H
   obtain ⟨⟨t355, t356, t357, t358, t359, t360, t361, t362, t363, t364, t365⟩, A230, H⟩ := H
   replace H : ((d_reader_read.f k1 t355 t356 t357 t358 t359 t360 t361 t362 t363 t364 t365).bind fun bt367 => (if bt367.2.2.2.1 = 0 then (if x5_1.length < 2199023255552 then (d_Parse.l0 k1 a0 (x5_1 ++ [(⟨bt367.2.2.2.2.1, bt367.2.2.2.2.2.1, bt367.2.2.2.2.2.2.1, bt367.2.2.2.2.2.2.2.1, bt367.2.2.2.2.2.2.2.2.1, bt367.2.2.2.2.2.2.2.2.2.1, bt367.2.2.2.2.2.2.2.2.2.2⟩ : S25)]) bt367.2.1) else (none)) else (some (([] : List (S25)), bt367.2.2.1, bt367.2.2.2.1)))) = some (r1, r2, r3) := H
   have A23 := am A230
   clear A230
   replace H := Option.bind_eq_some_iff.mp H
   obtain ⟨⟨t367, t368, t369, t370, t371, t372, t373, t374, t375, t376, t377⟩, A240, H⟩ := H
   replace H : (if t370 = 0 then (if x5_1.length < 2199023255552 then (d_Parse.l0 k1 a0 (x5_1 ++ [(⟨t371, t372, t373, t374, t375, t376, t377⟩ : S25)]) t368) else (none)) else (some (([] : List (S25)), t369, t370))) = some (r1, r2, r3) := H
   have A24 := am A240
   clear A240
   by_cases c25 : t370 = 0
   rotate_left
   ·rw [if_neg c25] at H
    have c25b0 : (t370 == 0) = false := beq_eq_false_iff_ne.mpr c25
    have c25b1 : (t370 != 0) = true := bne_iff_ne.mpr c25
    simp only [Option.some.injEq, Prod.mk.injEq] at H
    obtain ⟨rfl, rfl, rfl⟩ := H
    go_wp2_with (first | ((with_reducible refine gate_callee (f := 25) rfl ?_); refine goesL_ (some 18) rfl rfl Tryd.func25 (by kernel_rfl) rfl #[.string (a0.extract (x6_1 : Int).toNat a0.size), .int .u8 37] rfl ls ?_; (with_reducible refine (xIndexByte.calls (a0.extract (x6_1 : Int).toNat a0.size) 37 t344 _ A5.out).mono ?_); rintro e w33 ⟨rfl, hb⟩; refine ⟨_, rfl, ?_⟩; have n0_ := am (Kd.R_below (by (with_reducible repeat (first | apply Kd.R_alloc | apply Kd.R_drewN | apply Kd.R_drew)); exact HO_5.out) hb); have n1_ := am (below_step bl hb); clear HO_5; clear HB; have HO_5 := n0_; have HB := n1_; clear n0_ n1_; (try clear hb); (try clear hb2); (try clear hk); (try clear hi)) | ((with_reducible refine gate_callee (f := 29) rfl ?_); refine goesL_ (some 27) rfl rfl Tryd.func29 (by kernel_rfl) rfl #[.string (a0.extract (x6_1 : Int).toNat a0.size), .string (⟨#[37, 37]⟩ : ByteArray)] rfl ls ?_; (with_reducible refine (strings_HasPrefix.calls (a0.extract (x6_1 : Int).toNat a0.size) (⟨#[37, 37]⟩ : ByteArray) false _ A18.out).mono ?_); rintro e w' ⟨rfl, ⟨nd, rfl⟩⟩; refine ⟨_, rfl, ?_⟩) | ((with_reducible refine gate_dst (N := 50) rfl ?_); refine box_event ?hg (N := 50) ?hd (cs := #[.string a0, .int .i64 (wrap64 (x6_1 + 1)), .int .i64 0, .int .i64 0, .string ⟨#[]⟩, .int .u8 0, .int .i64 0, .int .i64 0, .int .i64 0, .int .i64 0, .int .i64 0]) (t := 70) ?hr ?_; (case hd => rfl); (case hg => rfl); (case hr => first | (go_simp; done) | (go_simp; rfl)); intro g366 hg w34 hbox hb2; have he_ := xReader_eq A23.out; have e0_ := he_.1; have e1_ := he_.2.1; have e2_ := he_.2.2.1; have e3_ := he_.2.2.2.1; have e4_ := he_.2.2.2.2.1; have e5_ := he_.2.2.2.2.2.1; have e6_ := he_.2.2.2.2.2.2.1; have e7_ := he_.2.2.2.2.2.2.2.1; have e8_ := he_.2.2.2.2.2.2.2.2.1; have e9_ := he_.2.2.2.2.2.2.2.2.2.1; have e10_ := he_.2.2.2.2.2.2.2.2.2.2; clear he_; have hi : IsS70 w w34 g366 t355 t356 t357 t358 t359 t360 t361 t362 t363 t364 t365 := ⟨by rw [e0_, e1_, e2_, e3_, e4_, e5_, e6_, e7_, e8_, e9_, e10_]; exact hbox, by rw [hg]; exact below_size bl⟩; have hb := below_step bl hb2; clear hbox hg e0_ e1_ e2_ e3_ e4_ e5_ e6_ e7_ e8_ e9_ e10_; have n0_ := am (Kd.R_below (by (with_reducible repeat (first | apply Kd.R_alloc | apply Kd.R_drewN | apply Kd.R_drew)); exact HO_5.out) hb2); have n1_ := am (hb); have n2_ := am (hi); clear HO_5; clear HB; have HO_5 := n0_; have HB := n1_; have HI366 := n2_; clear n0_ n1_ n2_; (try clear hb); (try clear hb2); (try clear hk); (try clear hi)) | ((with_reducible refine gate_callee (f := 30) rfl ?_); refine goesL_ (some 52) rfl rfl Tryd.func30 (by kernel_rfl) rfl #[.pointer (some ⟨g366, 0, none⟩)] rfl ls ?_; (with_reducible refine (d_reader_read.calls k1 g366 t355 t356 t357 t358 t359 t360 t361 t362 t363 t364 t365 t367 t368 t369 t370 t371 t372 t373 t374 t375 t376 t377 w _ ?side1 ?side2 A24.out).mono ?_); (case side1 => repeat (first | (with_reducible first | exact HI366.out | apply IsS70.alloc | apply IsS70.drewN | apply IsS70.drew | apply IsS70.set_0 | apply IsS70.set_1 | apply IsS70.set_2 | apply IsS70.set_3 | apply IsS70.set_4 | apply IsS70.set_5 | apply IsS70.set_6 | apply IsS70.set_7 | apply IsS70.set_8 | apply IsS70.set_9 | apply IsS70.set_10) | exact HI366.out)); (case side2 => repeat (first | (with_reducible first | exact HB.out | apply below_alloc | apply pw_below_drewN | apply below_drew1 | refine below_set ?_ (IsS70.ge HI366.out)) | exact HB.out)); rintro e w35 ⟨rfl, hi, hb, hk⟩; refine ⟨_, rfl, ?_⟩; have n0_ := am (Kd.R_mono (Kd.R_keep (IsS70.apart (show IsS70 w _ g366 t355 t356 t357 t358 t359 t360 t361 t362 t363 t364 t365 from by repeat (first | (with_reducible first | exact HI366.out | apply IsS70.alloc | apply IsS70.drewN | apply IsS70.drew | apply IsS70.set_0 | apply IsS70.set_1 | apply IsS70.set_2 | apply IsS70.set_3 | apply IsS70.set_4 | apply IsS70.set_5 | apply IsS70.set_6 | apply IsS70.set_7 | apply IsS70.set_8 | apply IsS70.set_9 | apply IsS70.set_10) | exact HI366.out)) (by (with_reducible repeat (first | apply Kd.R_alloc | apply Kd.R_drewN | apply Kd.R_drew)); exact HO_5.out) (by decide)) hk (fun _ h => h.2)) (fun _ h => h.1)); have n1_ := am (hb); have n2_ := am (hi); clear HO_5; clear HB; clear HI366; have HO_5 := n0_; have HB := n1_; have HI366 := n2_; clear n0_ n1_ n2_; (try clear hb); (try clear hb2); (try clear hk); (try clear hi); obtain ⟨HGz36, hgz36⟩ := HI366.out; have hcz36_0 := cellS70_0 HGz36; have hcz36_1 := cellS70_1 HGz36; have hcz36_2 := cellS70_2 HGz36; have hcz36_3 := cellS70_3 HGz36; have hcz36_4 := cellS70_4 HGz36; have hcz36_5 := cellS70_5 HGz36; have hcz36_6 := cellS70_6 HGz36; have hcz36_7 := cellS70_7 HGz36; have hcz36_8 := cellS70_8 HGz36; have hcz36_9 := cellS70_9 HGz36; have hcz36_10 := cellS70_10 HGz36; have hfz36_0 := blk_frozen HGz36 0; have hfz36_1 := blk_frozen HGz36 1; have hfz36_2 := blk_frozen HGz36 2; have hfz36_3 := blk_frozen HGz36 3; have hfz36_4 := blk_frozen HGz36 4; have hfz36_5 := blk_frozen HGz36 5; have hfz36_6 := blk_frozen HGz36 6; have hfz36_7 := blk_frozen HGz36 7; have hfz36_8 := blk_frozen HGz36 8; have hfz36_9 := blk_frozen HGz36 9; have hfz36_10 := blk_frozen HGz36 10; clear HGz36 hgz36))
    repeat (go_quiet (fail); try go_wp2)
    go_ret3
    exact ⟨_, er, by first | exact Kd.R_nil _ _ _ _ _ | exact Kd.N_nil _ _ _ _ _ | exact Kd.V_nil _ _ _ _ _ | exact Kd.Q_nil _ _ _ _ _ | exact Kd.S_nil _ _ _ _ _, by repeat (first | (with_reducible first | exact HB.out | apply below_alloc | apply pw_below_drewN | apply below_drew1 | refine below_set ?_ (IsS70.ge HI366.out)) | exact HB.out)⟩
   rw [if_pos c25] at H
   have c25b0 : (t370 == 0) = true := beq_iff_eq.mpr c25
   have c25b1 : (t370 != 0) = false := bne_eq_false_iff_eq.mpr c25
   clear c25
   by_cases c26 : x5_1.length < 2199023255552
   rotate_left
   ·rw [if_neg c26] at H
    exact absurd H (by simp)
   rw [if_pos c26] at H
   have LMc26 := am c26
   clear c26
   obtain ⟨y378, hy378⟩ : ∃ y_ : List (S25), y_ = (x5_1 ++ [(⟨t371, t372, t373, t374, t375, t376, t377⟩ : S25)]) := ⟨_, rfl⟩
   replace H : (d_Parse.l0 k1 a0 y378 t368) = some (r1, r2, r3) := by first | (rw [hy378]; with_reducible exact H) | (have H2_ := (Option.bind_some _ _).symm.trans H; rw [hy378]; with_reducible exact H2_) | (have H2_ := (Option.bind_some _ _).symm.trans H; with_reducible exact H2_) | with_reducible exact H | (rw [hy378]; exact H) | exact H
   have Ny378 := am hy378
   clear hy378
   have H' := am H
   clear H
   go_wp2_with (first | ((with_reducible refine gate_callee (f := 25) rfl ?_); refine goesL_ (some 18) rfl rfl Tryd.func25 (by kernel_rfl) rfl #[.string (a0.extract (x6_1 : Int).toNat a0.size), .int .u8 37] rfl ls ?_; (with_reducible refine (xIndexByte.calls (a0.extract (x6_1 : Int).toNat a0.size) 37 t344 _ A5.out).mono ?_); rintro e w27 ⟨rfl, hb⟩; refine ⟨_, rfl, ?_⟩; have n0_ := am (Kd.R_below (by (with_reducible repeat (first | apply Kd.R_alloc | apply Kd.R_drewN | apply Kd.R_drew)); exact HO_5.out) hb); have n1_ := am (below_step bl hb); clear HO_5; clear HB; have HO_5 := n0_; have HB := n1_; clear n0_ n1_; (try clear hb); (try clear hb2); (try clear hk); (try clear hi)) | ((with_reducible refine gate_callee (f := 29) rfl ?_); refine goesL_ (some 27) rfl rfl Tryd.func29 (by kernel_rfl) rfl #[.string (a0.extract (x6_1 : Int).toNat a0.size), .string (⟨#[37, 37]⟩ : ByteArray)] rfl ls ?_; (with_reducible refine (strings_HasPrefix.calls (a0.extract (x6_1 : Int).toNat a0.size) (⟨#[37, 37]⟩ : ByteArray) false _ A18.out).mono ?_); rintro e w' ⟨rfl, ⟨nd, rfl⟩⟩; refine ⟨_, rfl, ?_⟩) | ((with_reducible refine gate_dst (N := 50) rfl ?_); refine box_event ?hg (N := 50) ?hd (cs := #[.string a0, .int .i64 (wrap64 (x6_1 + 1)), .int .i64 0, .int .i64 0, .string ⟨#[]⟩, .int .u8 0, .int .i64 0, .int .i64 0, .int .i64 0, .int .i64 0, .int .i64 0]) (t := 70) ?hr ?_; (case hd => rfl); (case hg => rfl); (case hr => first | (go_simp; done) | (go_simp; rfl)); intro g366 hg w28 hbox hb2; have he_ := xReader_eq A23.out; have e0_ := he_.1; have e1_ := he_.2.1; have e2_ := he_.2.2.1; have e3_ := he_.2.2.2.1; have e4_ := he_.2.2.2.2.1; have e5_ := he_.2.2.2.2.2.1; have e6_ := he_.2.2.2.2.2.2.1; have e7_ := he_.2.2.2.2.2.2.2.1; have e8_ := he_.2.2.2.2.2.2.2.2.1; have e9_ := he_.2.2.2.2.2.2.2.2.2.1; have e10_ := he_.2.2.2.2.2.2.2.2.2.2; clear he_; have hi : IsS70 w w28 g366 t355 t356 t357 t358 t359 t360 t361 t362 t363 t364 t365 := ⟨by rw [e0_, e1_, e2_, e3_, e4_, e5_, e6_, e7_, e8_, e9_, e10_]; exact hbox, by rw [hg]; exact below_size bl⟩; have hb := below_step bl hb2; clear hbox hg e0_ e1_ e2_ e3_ e4_ e5_ e6_ e7_ e8_ e9_ e10_; have n0_ := am (Kd.R_below (by (with_reducible repeat (first | apply Kd.R_alloc | apply Kd.R_drewN | apply Kd.R_drew)); exact HO_5.out) hb2); have n1_ := am (hb); have n2_ := am (hi); clear HO_5; clear HB; have HO_5 := n0_; have HB := n1_; have HI366 := n2_; clear n0_ n1_ n2_; (try clear hb); (try clear hb2); (try clear hk); (try clear hi)) | ((with_reducible refine gate_callee (f := 30) rfl ?_); refine goesL_ (some 52) rfl rfl Tryd.func30 (by kernel_rfl) rfl #[.pointer (some ⟨g366, 0, none⟩)] rfl ls ?_; (with_reducible refine (d_reader_read.calls k1 g366 t355 t356 t357 t358 t359 t360 t361 t362 t363 t364 t365 t367 t368 t369 t370 t371 t372 t373 t374 t375 t376 t377 w _ ?side1 ?side2 A24.out).mono ?_); (case side1 => repeat (first | (with_reducible first | exact HI366.out | apply IsS70.alloc | apply IsS70.drewN | apply IsS70.drew | apply IsS70.set_0 | apply IsS70.set_1 | apply IsS70.set_2 | apply IsS70.set_3 | apply IsS70.set_4 | apply IsS70.set_5 | apply IsS70.set_6 | apply IsS70.set_7 | apply IsS70.set_8 | apply IsS70.set_9 | apply IsS70.set_10) | exact HI366.out)); (case side2 => repeat (first | (with_reducible first | exact HB.out | apply below_alloc | apply pw_below_drewN | apply below_drew1 | refine below_set ?_ (IsS70.ge HI366.out)) | exact HB.out)); rintro e w29 ⟨rfl, hi, hb, hk⟩; refine ⟨_, rfl, ?_⟩; have n0_ := am (Kd.R_mono (Kd.R_keep (IsS70.apart (show IsS70 w _ g366 t355 t356 t357 t358 t359 t360 t361 t362 t363 t364 t365 from by repeat (first | (with_reducible first | exact HI366.out | apply IsS70.alloc | apply IsS70.drewN | apply IsS70.drew | apply IsS70.set_0 | apply IsS70.set_1 | apply IsS70.set_2 | apply IsS70.set_3 | apply IsS70.set_4 | apply IsS70.set_5 | apply IsS70.set_6 | apply IsS70.set_7 | apply IsS70.set_8 | apply IsS70.set_9 | apply IsS70.set_10) | exact HI366.out)) (by (with_reducible repeat (first | apply Kd.R_alloc | apply Kd.R_drewN | apply Kd.R_drew)); exact HO_5.out) (by decide)) hk (fun _ h => h.2)) (fun _ h => h.1)); have n1_ := am (hb); have n2_ := am (hi); clear HO_5; clear HB; clear HI366; have HO_5 := n0_; have HB := n1_; have HI366 := n2_; clear n0_ n1_ n2_; (try clear hb); (try clear hb2); (try clear hk); (try clear hi); obtain ⟨HGz30, hgz30⟩ := HI366.out; have hcz30_0 := cellS70_0 HGz30; have hcz30_1 := cellS70_1 HGz30; have hcz30_2 := cellS70_2 HGz30; have hcz30_3 := cellS70_3 HGz30; have hcz30_4 := cellS70_4 HGz30; have hcz30_5 := cellS70_5 HGz30; have hcz30_6 := cellS70_6 HGz30; have hcz30_7 := cellS70_7 HGz30; have hcz30_8 := cellS70_8 HGz30; have hcz30_9 := cellS70_9 HGz30; have hcz30_10 := cellS70_10 HGz30; have hfz30_0 := blk_frozen HGz30 0; have hfz30_1 := blk_frozen HGz30 1; have hfz30_2 := blk_frozen HGz30 2; have hfz30_3 := blk_frozen HGz30 3; have hfz30_4 := blk_frozen HGz30 4; have hfz30_5 := blk_frozen HGz30 5; have hfz30_6 := blk_frozen HGz30 6; have hfz30_7 := blk_frozen HGz30 7; have hfz30_8 := blk_frozen HGz30 8; have hfz30_9 := blk_frozen HGz30 9; have hfz30_10 := blk_frozen HGz30 10; clear HGz30 hgz30) | ((with_reducible refine gate_builtin (b := .append) (xs := #[.tmp 66, .tmp 71]) rfl ?_); at_builtin; refine Kd.R_append k25 (w0 := w) w.heap.size rfl (.tmp 66) (.tmp 71) 22 25 (.agg #[(.string ⟨#[]⟩), (.int .u8 0), (.int .i64 0), (.int .i64 0), (.int .i64 0), (.int .i64 0), (.int .i64 0)]) 64 rfl Tryd.underlying22 info25 rfl (by decide) (by omega) u5 x5_1 (⟨t371, t372, t373, t374, t375, t376, t377⟩ : S25) [.string t371, .int .u8 t372, .int .i64 t373, .int .i64 t374, .int .i64 t375, .int .i64 t376, .int .i64 t377] (fun _ => True) (fun _ => False) rfl rfl ?aP (fun _ hk => hk.elim) ?aF ?aO ?aB ?aS ?aL ?_; (case aP => exact k25_mkM _ _ _ (⟨t371, t372, t373, t374, t375, t376, t377⟩ : S25)); (case aB => exact (by repeat (first | (with_reducible first | exact HB.out | apply below_alloc | apply pw_below_drewN | apply below_drew1 | refine below_set ?_ (IsS70.ge HI366.out)) | exact HB.out))); (case aF => exact (fun _ _ => trivial)); (case aO => exact (by (with_reducible repeat (first | apply Kd.R_alloc | apply Kd.R_drewN | apply Kd.R_drew)); exact HO_5.out)); (case aS => exact (below_size (by repeat (first | (with_reducible first | exact HB.out | apply below_alloc | apply pw_below_drewN | apply below_drew1 | refine below_set ?_ (IsS70.ge HI366.out)) | exact HB.out)))); (case aL => have := LMc26.out; omega); intro v379 w31 ho hb hg hat; rw [← Ny378.out] at ho; have n0_ := am (IsS70.grown (by repeat (first | (with_reducible first | exact HI366.out | apply IsS70.alloc | apply IsS70.drewN | apply IsS70.drew | apply IsS70.set_0 | apply IsS70.set_1 | apply IsS70.set_2 | apply IsS70.set_3 | apply IsS70.set_4 | apply IsS70.set_5 | apply IsS70.set_6 | apply IsS70.set_7 | apply IsS70.set_8 | apply IsS70.set_9 | apply IsS70.set_10) | exact HI366.out)) hg (IsS70.own_ne HI366.out HO_5.out (by decide))); have n1_ := am (hb); have n2_ := am (ho); clear HI366; clear HB; clear HO_5; have HI366 := n0_; have HB := n1_; have HO380 := n2_; clear n0_ n1_ n2_; clear ho hb hg hat; obtain ⟨HGz32, hgz32⟩ := HI366.out; have hcz32_0 := cellS70_0 HGz32; have hcz32_1 := cellS70_1 HGz32; have hcz32_2 := cellS70_2 HGz32; have hcz32_3 := cellS70_3 HGz32; have hcz32_4 := cellS70_4 HGz32; have hcz32_5 := cellS70_5 HGz32; have hcz32_6 := cellS70_6 HGz32; have hcz32_7 := cellS70_7 HGz32; have hcz32_8 := cellS70_8 HGz32; have hcz32_9 := cellS70_9 HGz32; have hcz32_10 := cellS70_10 HGz32; have hfz32_0 := blk_frozen HGz32 0; have hfz32_1 := blk_frozen HGz32 1; have hfz32_2 := blk_frozen HGz32 2; have hfz32_3 := blk_frozen HGz32 3; have hfz32_4 := blk_frozen HGz32 4; have hfz32_5 := blk_frozen HGz32 5; have hfz32_6 := blk_frozen HGz32 6; have hfz32_7 := blk_frozen HGz32 7; have hfz32_8 := blk_frozen HGz32 8; have hfz32_9 := blk_frozen HGz32 9; have hfz32_10 := blk_frozen HGz32 10; clear HGz32 hgz32))
   go_roundg k1
   case measure => have := HK1.out; omega
   case rel => exact ⟨(y378), (t368), tv, H', ⟨by have := HK1.out; omega⟩, ⟨by (with_reducible repeat (first | apply Kd.R_alloc | apply Kd.R_drewN | apply Kd.R_drew)); exact HO380.out⟩, ⟨by repeat (first | (with_reducible first | exact HB.out | apply below_alloc | apply pw_below_drewN | apply below_drew1 | refine below_set ?_ (IsS70.ge HI366.out)) | exact HB.out)⟩⟩
end Go.Proofs.YtlmijjekaelhcaaDoor.EDi
