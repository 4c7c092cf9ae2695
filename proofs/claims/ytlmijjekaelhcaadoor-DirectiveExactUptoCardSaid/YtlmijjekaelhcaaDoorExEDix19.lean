/-
 A text of this session's own.
-/
import Derived.Test.YtlmijjekaelhcaaDoorExA0
import Derived.Test.YtlmijjekaelhcaaDoorExEDpx0
import Derived.Test.YtlmijjekaelhcaaDoorExEDix18
namespace Go.Proofs.YtlmijjekaelhcaaDoor.EDi
open Go.RowKit Go.Proofs.YtlmijjekaelhcaaDoorW.PrintWords Go.Proofs.YtlmijjekaelhcaaDoorW.PrintLast Go.Proofs.YtlmijjekaelhcaaDoorW.PrintMore
attribute [local go_sem] max2_int min2_int max_two min_two max_three min_three max_four min_four
set_option linter.unusedVariables false
def d_reader_number.l0 : Nat → Int → Int → Int → ByteArray → Int → Int → Int → ByteArray → Int → Int → Int → Int → Int → Int → Option (Int × Int × ByteArray × Int × Int × Int × ByteArray × Int × Int × Int × Int × Int × Int)
 | 0, _, _, _, _, _, _, _, _, _, _, _, _, _, _ => none
 | k + 1, x1, x6, x7, x1000, x1001, x1002, x1003, x1004, x1005, x1006, x1007, x1008, x1009, x1010 => (d_reader_now.f x1000 x1001 x1002 x1003 x1004 x1005 x1006 x1007 x1008 x1009 x1010).bind fun bt152 => ((d_digit.f bt152.1).bind fun t164 => (if t164 = true then ((d_reader_now.f bt152.2.1 bt152.2.2.1 bt152.2.2.2.1 bt152.2.2.2.2.1 bt152.2.2.2.2.2.1 bt152.2.2.2.2.2.2.1 bt152.2.2.2.2.2.2.2.1 bt152.2.2.2.2.2.2.2.2.1 bt152.2.2.2.2.2.2.2.2.2.1 bt152.2.2.2.2.2.2.2.2.2.2.1 bt152.2.2.2.2.2.2.2.2.2.2.2).bind fun bt165 => (d_reader_number.l0 k x1 x6 (mn (wrap64 ((wrap64 (x7 * 10)) + ((bt165.1 - 48) % 256))) 4097) bt165.2.1 (wrap64 (bt165.2.2.1 + 1)) bt165.2.2.2.1 bt165.2.2.2.2.1 bt165.2.2.2.2.2.1 bt165.2.2.2.2.2.2.1 bt165.2.2.2.2.2.2.2.1 bt165.2.2.2.2.2.2.2.2.1 bt165.2.2.2.2.2.2.2.2.2.1 bt165.2.2.2.2.2.2.2.2.2.2.1 bt165.2.2.2.2.2.2.2.2.2.2.2)) else (if bt152.2.2.1 = x6 then (some (x1, 0, bt152.2.1, bt152.2.2.1, bt152.2.2.2.1, bt152.2.2.2.2.1, bt152.2.2.2.2.2.1, bt152.2.2.2.2.2.2.1, bt152.2.2.2.2.2.2.2.1, bt152.2.2.2.2.2.2.2.2.1, bt152.2.2.2.2.2.2.2.2.2.1, bt152.2.2.2.2.2.2.2.2.2.2.1, bt152.2.2.2.2.2.2.2.2.2.2.2)) else (if x7 > 4096 then ((d_reader_stop.f bt152.2.1 bt152.2.2.1 bt152.2.2.2.1 bt152.2.2.2.2.1 bt152.2.2.2.2.2.1 bt152.2.2.2.2.2.2.1 bt152.2.2.2.2.2.2.2.1 bt152.2.2.2.2.2.2.2.2.1 bt152.2.2.2.2.2.2.2.2.2.1 bt152.2.2.2.2.2.2.2.2.2.2.1 bt152.2.2.2.2.2.2.2.2.2.2.2 x6 6).bind fun bt177 => (some (1, x7, bt177.1, bt177.2.1, bt177.2.2.1, bt177.2.2.2.1, bt177.2.2.2.2.1, bt177.2.2.2.2.2.1, bt177.2.2.2.2.2.2.1, bt177.2.2.2.2.2.2.2.1, bt177.2.2.2.2.2.2.2.2.1, bt177.2.2.2.2.2.2.2.2.2.1, bt177.2.2.2.2.2.2.2.2.2.2))) else (some (1, x7, bt152.2.1, bt152.2.2.1, bt152.2.2.2.1, bt152.2.2.2.2.1, bt152.2.2.2.2.2.1, bt152.2.2.2.2.2.2.1, bt152.2.2.2.2.2.2.2.1, bt152.2.2.2.2.2.2.2.2.1, bt152.2.2.2.2.2.2.2.2.2.1, bt152.2.2.2.2.2.2.2.2.2.2.1, bt152.2.2.2.2.2.2.2.2.2.2.2))))))
def d_reader_number.f (k : Nat) (s0_0 : ByteArray) (s0_1 : Int) (s0_2 : Int) (s0_3 : Int) (s0_4 : ByteArray) (s0_5 : Int) (s0_6 : Int) (s0_7 : Int) (s0_8 : Int) (s0_9 : Int) (s0_10 : Int) (a1 : Int) : Option (Int × Int × ByteArray × Int × Int × Int × ByteArray × Int × Int × Int × Int × Int × Int) := (d_reader_now.f s0_0 s0_1 s0_2 s0_3 s0_4 s0_5 s0_6 s0_7 s0_8 s0_9 s0_10).bind fun bt140 => (if bt140.1 = 42 then (some (2, 0, bt140.2.1, wrap64 (bt140.2.2.1 + 1), bt140.2.2.2.1, bt140.2.2.2.2.1, bt140.2.2.2.2.2.1, bt140.2.2.2.2.2.2.1, bt140.2.2.2.2.2.2.2.1, bt140.2.2.2.2.2.2.2.2.1, bt140.2.2.2.2.2.2.2.2.2.1, bt140.2.2.2.2.2.2.2.2.2.2.1, bt140.2.2.2.2.2.2.2.2.2.2.2)) else (d_reader_number.l0 k a1 bt140.2.2.1 0 bt140.2.1 bt140.2.2.1 bt140.2.2.2.1 bt140.2.2.2.2.1 bt140.2.2.2.2.2.1 bt140.2.2.2.2.2.2.1 bt140.2.2.2.2.2.2.2.1 bt140.2.2.2.2.2.2.2.2.1 bt140.2.2.2.2.2.2.2.2.2.1 bt140.2.2.2.2.2.2.2.2.2.2.1 bt140.2.2.2.2.2.2.2.2.2.2.2))
theorem d_reader_number.mono_l : ∀ k, (∀ y0 y1 y2 y3 y4 y5 y6 y7 y8 y9 y10 y11 y12 y13, LeO (d_reader_number.l0 k y0 y1 y2 y3 y4 y5 y6 y7 y8 y9 y10 y11 y12 y13) (d_reader_number.l0 (k + 1) y0 y1 y2 y3 y4 y5 y6 y7 y8 y9 y10 y11 y12 y13))
 | 0 => fun _ _ _ _ _ _ _ _ _ _ _ _ _ _ r h => by simp [d_reader_number.l0] at h
 | k + 1 => by
  have ih0 := d_reader_number.mono_l k
  ·intro y0 y1 y2 y3 y4 y5 y6 y7 y8 y9 y10 y11 y12 y13
   unfold d_reader_number.l0
   repeat' first
   | (with_reducible exact ih0 _ _ _ _ _ _ _ _ _ _ _ _ _ _)
   | (with_reducible exact LeO.refl _)
   | (with_reducible exact LeO.none _)
   | (with_reducible refine LeO.ite ?_ ?_)
   | (with_reducible refine LeO.bind ?_ (fun _ => ?_))
   | exact ih0 _ _ _ _ _ _ _ _ _ _ _ _ _ _
   | exact LeO.none _
   | refine LeO.ite ?_ ?_
   | refine LeO.bind ?_ (fun _ => ?_)
theorem d_reader_number.mono : ∀ a0 a1 a2 a3 a4 a5 a6 a7 a8 a9 a10 a11 k, LeO (d_reader_number.f k a0 a1 a2 a3 a4 a5 a6 a7 a8 a9 a10 a11) (d_reader_number.f (k + 1) a0 a1 a2 a3 a4 a5 a6 a7 a8 a9 a10 a11) := by
 intro a0 a1 a2 a3 a4 a5 a6 a7 a8 a9 a10 a11 k
 have ih0 := d_reader_number.mono_l k
 unfold d_reader_number.f
 repeat' first
   | (with_reducible exact ih0 _ _ _ _ _ _ _ _ _ _ _ _ _ _)
   | (with_reducible exact LeO.refl _)
   | (with_reducible exact LeO.none _)
   | (with_reducible refine LeO.ite ?_ ?_)
   | (with_reducible refine LeO.bind ?_ (fun _ => ?_))
   | exact ih0 _ _ _ _ _ _ _ _ _ _ _ _ _ _
   | exact LeO.none _
   | refine LeO.ite ?_ ?_
   | refine LeO.bind ?_ (fun _ => ?_)
set_option maxHeartbeats 8000000 in
set_option maxRecDepth 100000 in
theorem d_reader_number.calls (k : Nat) (g : Nat) (s0_0 : ByteArray) (s0_1 : Int) (s0_2 : Int) (s0_3 : Int) (s0_4 : ByteArray) (s0_5 : Int) (s0_6 : Int) (s0_7 : Int) (s0_8 : Int) (s0_9 : Int) (s0_10 : Int) (a1 : Int) (r1 : Int) (r2 : Int) (r3 : ByteArray) (r4 : Int) (r5 : Int) (r6 : Int) (r7 : ByteArray) (r8 : Int) (r9 : Int) (r10 : Int) (r11 : Int) (r12 : Int) (r13 : Int) (w0 w : World) (hI : IsS70 w0 w g s0_0 s0_1 s0_2 s0_3 s0_4 s0_5 s0_6 s0_7 s0_8 s0_9 s0_10) (hB : Below w0.heap.size w0 w) (h : d_reader_number.f k s0_0 s0_1 s0_2 s0_3 s0_4 s0_5 s0_6 s0_7 s0_8 s0_9 s0_10 a1 = some (r1, r2, r3, r4, r5, r6, r7, r8, r9, r10, r11, r12, r13)) :
  Calls Tryd.prog 47 #[.pointer (some ⟨g, 0, none⟩), .int .i64 a1] w fun e w' => e = .returned (.tuple #[.int .i64 r1, .int .i64 r2]) ∧ IsS70 w0 w' g r3 r4 r5 r6 r7 r8 r9 r10 r11 r12 r13 ∧ Below w0.heap.size w0 w' ∧ KeepBut w w' g none := by
 have HI0 := am hI
 have HK := am (KeepBut.refl w g none)
 have HL := am hB.size
 clear hI
 have HW0 := am hB.size
 have HB := am hB
 clear hB
 have H : ((d_reader_now.f s0_0 s0_1 s0_2 s0_3 s0_4 s0_5 s0_6 s0_7 s0_8 s0_9 s0_10).bind fun bt140 => (if bt140.1 = 42 then (some (2, 0, bt140.2.1, wrap64 (bt140.2.2.1 + 1), bt140.2.2.2.1, bt140.2.2.2.2.1, bt140.2.2.2.2.2.1, bt140.2.2.2.2.2.2.1, bt140.2.2.2.2.2.2.2.1, bt140.2.2.2.2.2.2.2.2.1, bt140.2.2.2.2.2.2.2.2.2.1, bt140.2.2.2.2.2.2.2.2.2.2.1, bt140.2.2.2.2.2.2.2.2.2.2.2)) else (d_reader_number.l0 k a1 bt140.2.2.1 0 bt140.2.1 bt140.2.2.1 bt140.2.2.2.1 bt140.2.2.2.2.1 bt140.2.2.2.2.2.1 bt140.2.2.2.2.2.2.1 bt140.2.2.2.2.2.2.2.1 bt140.2.2.2.2.2.2.2.2.1 bt140.2.2.2.2.2.2.2.2.2.1 bt140.2.2.2.2.2.2.2.2.2.2.1 bt140.2.2.2.2.2.2.2.2.2.2.2))) = some (r1, r2, r3, r4, r5, r6, r7, r8, r9, r10, r11, r12, r13) := h
 clear h
 replace H := Option.bind_eq_some_iff.mp H
 obtain ⟨⟨t140, t141, t142, t143, t144, t145, t146, t147, t148, t149, t150, t151⟩, A30, H⟩ := H
 replace H : (if t140 = 42 then (some (2, 0, t141, wrap64 (t142 + 1), t143, t144, t145, t146, t147, t148, t149, t150, t151)) else (d_reader_number.l0 k a1 t142 0 t141 t142 t143 t144 t145 t146 t147 t148 t149 t150 t151)) = some (r1, r2, r3, r4, r5, r6, r7, r8, r9, r10, r11, r12, r13) := H
 have A3 := am A30
 clear A30
 by_cases c4 : t140 = 42
 ·rw [if_pos c4] at H
  have c4b0 : (t140 == 42) = true := beq_iff_eq.mpr c4
  have c4b1 : (t140 != 42) = false := bne_eq_false_iff_eq.mpr c4
  clear c4
  simp only [Option.some.injEq, Prod.mk.injEq] at H
  obtain ⟨rfl, rfl, rfl, rfl, rfl, rfl, rfl, rfl, rfl, rfl, rfl, rfl, rfl⟩ := H
  go_enter Tryd.func47, Tryd.ntmps47
  go_wp2_with (first | ((with_reducible refine gate_callee (f := 46) rfl ?_); refine goesL_ (some 9) rfl rfl Tryd.func46 (by kernel_rfl) rfl #[.pointer (some ⟨g, 0, none⟩)] rfl ls ?_; (with_reducible refine (d_reader_now.calls g s0_0 s0_1 s0_2 s0_3 s0_4 s0_5 s0_6 s0_7 s0_8 s0_9 s0_10 t140 t141 t142 t143 t144 t145 t146 t147 t148 t149 t150 t151 w0 _ ?side1 ?side2 A3.out).mono ?_); (case side1 => exact i7); (case side2 => exact bi); rintro e w5 ⟨rfl, hi, hb, hk⟩; refine ⟨_, rfl, ?_⟩; have n0_ := am (KeepBut.trans kb hk (.inl rfl)); have n1_ := am (hb); have n2_ := am (hi); clear HK; clear HB; clear HI0; have HK := n0_; have HB := n1_; have HI0 := n2_; clear n0_ n1_ n2_; (try clear hb); (try clear hb2); (try clear hk); (try clear hi); obtain ⟨HGz6, hgz6⟩ := HI0.out; have hcz6_0 := cellS70_0 HGz6; have hcz6_1 := cellS70_1 HGz6; have hcz6_2 := cellS70_2 HGz6; have hcz6_3 := cellS70_3 HGz6; have hcz6_4 := cellS70_4 HGz6; have hcz6_5 := cellS70_5 HGz6; have hcz6_6 := cellS70_6 HGz6; have hcz6_7 := cellS70_7 HGz6; have hcz6_8 := cellS70_8 HGz6; have hcz6_9 := cellS70_9 HGz6; have hcz6_10 := cellS70_10 HGz6; have hfz6_0 := blk_frozen HGz6 0; have hfz6_1 := blk_frozen HGz6 1; have hfz6_2 := blk_frozen HGz6 2; have hfz6_3 := blk_frozen HGz6 3; have hfz6_4 := blk_frozen HGz6 4; have hfz6_5 := blk_frozen HGz6 5; have hfz6_6 := blk_frozen HGz6 6; have hfz6_7 := blk_frozen HGz6 7; have hfz6_8 := blk_frozen HGz6 8; have hfz6_9 := blk_frozen HGz6 9; have hfz6_10 := blk_frozen HGz6 10; clear HGz6 hgz6))
  go_ret2
  exact ⟨er, i7, bi, by repeat (first | (with_reducible first | exact HK.out | apply KeepBut.set_ | apply keep_drewN | apply keep_drew | apply keep_alloc) | exact HK.out)⟩
 rw [if_neg c4] at H
 have c4b0 : (t140 == 42) = false := beq_eq_false_iff_ne.mpr c4
 have c4b1 : (t140 != 42) = true := bne_iff_ne.mpr c4
 have H' := am H
 clear H
 go_enter Tryd.func47, Tryd.ntmps47
 go_wp2_with (first | ((with_reducible refine gate_callee (f := 46) rfl ?_); refine goesL_ (some 9) rfl rfl Tryd.func46 (by kernel_rfl) rfl #[.pointer (some ⟨g, 0, none⟩)] rfl ls ?_; (with_reducible refine (d_reader_now.calls g s0_0 s0_1 s0_2 s0_3 s0_4 s0_5 s0_6 s0_7 s0_8 s0_9 s0_10 t140 t141 t142 t143 t144 t145 t146 t147 t148 t149 t150 t151 w0 _ ?side1 ?side2 A3.out).mono ?_); (case side1 => exact i7); (case side2 => exact bi); rintro e w7 ⟨rfl, hi, hb, hk⟩; refine ⟨_, rfl, ?_⟩; have n0_ := am (KeepBut.trans kb hk (.inl rfl)); have n1_ := am (hb); have n2_ := am (hi); clear HK; clear HB; clear HI0; have HK := n0_; have HB := n1_; have HI0 := n2_; clear n0_ n1_ n2_; (try clear hb); (try clear hb2); (try clear hk); (try clear hi); obtain ⟨HGz8, hgz8⟩ := HI0.out; have hcz8_0 := cellS70_0 HGz8; have hcz8_1 := cellS70_1 HGz8; have hcz8_2 := cellS70_2 HGz8; have hcz8_3 := cellS70_3 HGz8; have hcz8_4 := cellS70_4 HGz8; have hcz8_5 := cellS70_5 HGz8; have hcz8_6 := cellS70_6 HGz8; have hcz8_7 := cellS70_7 HGz8; have hcz8_8 := cellS70_8 HGz8; have hcz8_9 := cellS70_9 HGz8; have hcz8_10 := cellS70_10 HGz8; have hfz8_0 := blk_frozen HGz8 0; have hfz8_1 := blk_frozen HGz8 1; have hfz8_2 := blk_frozen HGz8 2; have hfz8_3 := blk_frozen HGz8 3; have hfz8_4 := blk_frozen HGz8 4; have hfz8_5 := blk_frozen HGz8 5; have hfz8_6 := blk_frozen HGz8 6; have hfz8_7 := blk_frozen HGz8 7; have hfz8_8 := blk_frozen HGz8 8; have hfz8_9 := blk_frozen HGz8 9; have hfz8_10 := blk_frozen HGz8 10; clear HGz8 hgz8))
 go_loopg [7] k (fun kq v7 w' => ∃ (x7_1 : Int) (x1000_1 : ByteArray) (x1001_1 : Int) (x1002_1 : Int) (x1003_1 : Int) (x1004_1 : ByteArray) (x1005_1 : Int) (x1006_1 : Int) (x1007_1 : Int) (x1008_1 : Int) (x1009_1 : Int) (x1010_1 : Int), v7 = .int .i64 x7_1 ∧ Aside0 (d_reader_number.l0 kq a1 t142 x7_1 x1000_1 x1001_1 x1002_1 x1003_1 x1004_1 x1005_1 x1006_1 x1007_1 x1008_1 x1009_1 x1010_1 = some (r1, r2, r3, r4, r5, r6, r7, r8, r9, r10, r11, r12, r13)) ∧ Aside0 (kq ≤ k) ∧ Aside0 (IsS70 w0 w' g x1000_1 x1001_1 x1002_1 x1003_1 x1004_1 x1005_1 x1006_1 x1007_1 x1008_1 x1009_1 x1010_1) ∧ Aside0 (KeepBut w w' g none) ∧ Aside0 (Below w0.heap.size w0 w'))
 case atStart => exact ⟨(0), (t141), (t142), (t143), (t144), (t145), (t146), (t147), (t148), (t149), (t150), (t151), tv, H', ⟨Nat.le_refl _⟩, ⟨i7⟩, ⟨by repeat (first | (with_reducible first | exact HK.out | apply KeepBut.set_ | apply keep_drewN | apply keep_drew | apply keep_alloc) | exact HK.out)⟩, ⟨bi⟩⟩
 case round =>
  clear H'
  try clear p2
  try clear c4
  try clear c4b0
  try clear c4b1
  try clear p6
  try clear hcz6_0 hcz6_1 hcz6_10 hcz6_2 hcz6_3 hcz6_4 hcz6_5 hcz6_6 hcz6_7 hcz6_8 hcz6_9
  try clear hcz8_0 hcz8_1 hcz8_10 hcz8_2 hcz8_3 hcz8_4 hcz8_5 hcz8_6 hcz8_7 hcz8_8 hcz8_9
  try clear hfz6_0 hfz6_1 hfz6_10 hfz6_2 hfz6_3 hfz6_4 hfz6_5 hfz6_6 hfz6_7 hfz6_8 hfz6_9
  try clear hfz8_0 hfz8_1 hfz8_10 hfz8_2 hfz8_3 hfz8_4 hfz8_5 hfz8_6 hfz8_7 hfz8_8 hfz8_9
  obtain ⟨x7_1, x1000_1, x1001_1, x1002_1, x1003_1, x1004_1, x1005_1, x1006_1, x1007_1, x1008_1, x1009_1, x1010_1, rfl, HA, HK1, HI0, HK, HB⟩ := hrel
  cases gk with
  | zero => exact absurd HA.out (by simp [d_reader_number.l0])
  | succ k1 =>
   have H := HA.out
   clear HA
   simp only [d_reader_number.l0] at H
   replace H := Option.bind_eq_some_iff.mp H
   obtain ⟨⟨t152, t153, t154, t155, t156, t157, t158, t159, t160, t161, t162, t163⟩, A90, H⟩ := H
   replace H : ((d_digit.f t152).bind fun t164 => (if t164 = true then ((d_reader_now.f t153 t154 t155 t156 t157 t158 t159 t160 t161 t162 t163).bind fun bt165 => (d_reader_number.l0 k1 a1 t142 (mn (wrap64 ((wrap64 (x7_1 * 10)) + ((bt165.1 - 48) % 256))) 4097) bt165.2.1 (wrap64 (bt165.2.2.1 + 1)) bt165.2.2.2.1 bt165.2.2.2.2.1 bt165.2.2.2.2.2.1 bt165.2.2.2.2.2.2.1 bt165.2.2.2.2.2.2.2.1 bt165.2.2.2.2.2.2.2.2.1 bt165.2.2.2.2.2.2.2.2.2.1 bt165.2.2.2.2.2.2.2.2.2.2.1 bt165.2.2.2.2.2.2.2.2.2.2.2)) else (if t154 = t142 then (some (a1, 0, t153, t154, t155, t156, t157, t158, t159, t160, t161, t162, t163)) else (if x7_1 > 4096 then ((d_reader_stop.f t153 t154 t155 t156 t157 t158 t159 t160 t161 t162 t163 t142 6).bind fun bt177 => (some (1, x7_1, bt177.1, bt177.2.1, bt177.2.2.1, bt177.2.2.2.1, bt177.2.2.2.2.1, bt177.2.2.2.2.2.1, bt177.2.2.2.2.2.2.1, bt177.2.2.2.2.2.2.2.1, bt177.2.2.2.2.2.2.2.2.1, bt177.2.2.2.2.2.2.2.2.2.1, bt177.2.2.2.2.2.2.2.2.2.2))) else (some (1, x7_1, t153, t154, t155, t156, t157, t158, t159, t160, t161, t162, t163)))))) = some (r1, r2, r3, r4, r5, r6, r7, r8, r9, r10, r11, r12, r13) := H
   have A9 := am A90
   clear A90
   replace H := Option.bind_eq_some_iff.mp H
   obtain ⟨t164, A100, H⟩ := H
   replace H : (if t164 = true then ((d_reader_now.f t153 t154 t155 t156 t157 t158 t159 t160 t161 t162 t163).bind fun bt165 => (d_reader_number.l0 k1 a1 t142 (mn (wrap64 ((wrap64 (x7_1 * 10)) + ((bt165.1 - 48) % 256))) 4097) bt165.2.1 (wrap64 (bt165.2.2.1 + 1)) bt165.2.2.2.1 bt165.2.2.2.2.1 bt165.2.2.2.2.2.1 bt165.2.2.2.2.2.2.1 bt165.2.2.2.2.2.2.2.1 bt165.2.2.2.2.2.2.2.2.1 bt165.2.2.2.2.2.2.2.2.2.1 bt165.2.2.2.2.2.2.2.2.2.2.1 bt165.2.2.2.2.2.2.2.2.2.2.2)) else (if t154 = t142 then (some (a1, 0, t153, t154, t155, t156, t157, t158, t159, t160, t161, t162, t163)) else (if x7_1 > 4096 then ((d_reader_stop.f t153 t154 t155 t156 t157 t158 t159 t160 t161 t162 t163 t142 6).bind fun bt177 => (some (1, x7_1, bt177.1, bt177.2.1, bt177.2.2.1, bt177.2.2.2.1, bt177.2.2.2.2.1, bt177.2.2.2.2.2.1, bt177.2.2.2.2.2.2.1, bt177.2.2.2.2.2.2.2.1, bt177.2.2.2.2.2.2.2.2.1, bt177.2.2.2.2.2.2.2.2.2.1, bt177.2.2.2.2.2.2.2.2.2.2))) else (some (1, x7_1, t153, t154, t155, t156, t157, t158, t159, t160, t161, t162, t163))))) = some (r1, r2, r3, r4, r5, r6, r7, r8, r9, r10, r11, r12, r13) := H
   have A10 := am A100
   clear A100
   by_cases c11 : t164 = true
   ·subst c11
    have H1 : ((d_reader_now.f t153 t154 t155 t156 t157 t158 t159 t160 t161 t162 t163).bind fun bt165 => (d_reader_number.l0 k1 a1 t142 (mn (wrap64 ((wrap64 (x7_1 * 10)) + ((bt165.1 - 48) % 256))) 4097) bt165.2.1 (wrap64 (bt165.2.2.1 + 1)) bt165.2.2.2.1 bt165.2.2.2.2.1 bt165.2.2.2.2.2.1 bt165.2.2.2.2.2.2.1 bt165.2.2.2.2.2.2.2.1 bt165.2.2.2.2.2.2.2.2.1 bt165.2.2.2.2.2.2.2.2.2.1 bt165.2.2.2.2.2.2.2.2.2.2.1 bt165.2.2.2.2.2.2.2.2.2.2.2)) = some (r1, r2, r3, r4, r5, r6, r7, r8, r9, r10, r11, r12, r13) := by rw [if_pos rfl] at H; exact H
    clear H
    have H := H1
    clear H1
    replace H := Option.bind_eq_some_iff.mp H
    obtain ⟨⟨t165, t166, t167, t168, t169, t170, t171, t172, t173, t174, t175, t176⟩, A120, H⟩ := H
    replace H : (d_reader_number.l0 k1 a1 t142 (mn (wrap64 ((wrap64 (x7_1 * 10)) + ((t165 - 48) % 256))) 4097) t166 (wrap64 (t167 + 1)) t168 t169 t170 t171 t172 t173 t174 t175 t176) = some (r1, r2, r3, r4, r5, r6, r7, r8, r9, r10, r11, r12, r13) := H
    have A12 := am A120
    clear A120
    obtain ⟨ji13, hji13⟩ : ∃ j_ : Int, (mn (wrap64 ((wrap64 (x7_1 * 10)) + ((t165 - 48) % 256))) 4097) = j_ := ⟨_, rfl⟩
    replace H : (d_reader_number.l0 k1 a1 t142 ji13 t166 (wrap64 (t167 + 1)) t168 t169 t170 t171 t172 t173 t174 t175 t176) = some (r1, r2, r3, r4, r5, r6, r7, r8, r9, r10, r11, r12, r13) := by first | (rw [hji13] at H; exact H) | (simp only [hji13] at H ⊢; exact H)
    (try rw [hji13] at A9)
    (try rw [hji13] at A10)
    (try rw [hji13] at A12)
    have hji13_ : (if 4097 < (wrap64 ((wrap64 (x7_1 * 10)) + ((t165 - 48) % 256))) then 4097 else (wrap64 ((wrap64 (x7_1 * 10)) + ((t165 - 48) % 256)))) = ji13 := hji13
    have H' := am H
    clear H
    go_wp2_with (first | ((with_reducible refine gate_callee (f := 46) rfl ?_); refine goesL_ (some 23) rfl rfl Tryd.func46 (by kernel_rfl) rfl #[.pointer (some ⟨g, 0, none⟩)] rfl ls ?_; (with_reducible refine (d_reader_now.calls g x1000_1 x1001_1 x1002_1 x1003_1 x1004_1 x1005_1 x1006_1 x1007_1 x1008_1 x1009_1 x1010_1 t152 t153 t154 t155 t156 t157 t158 t159 t160 t161 t162 t163 w0 _ ?side1 ?side2 A9.out).mono ?_); (case side1 => exact i7); (case side2 => exact bi); rintro e w14 ⟨rfl, hi, hb, hk⟩; refine ⟨_, rfl, ?_⟩; have n0_ := am (KeepBut.trans kb hk (.inl rfl)); have n1_ := am (hb); have n2_ := am (hi); clear HK; clear HB; clear HI0; have HK := n0_; have HB := n1_; have HI0 := n2_; clear n0_ n1_ n2_; (try clear hb); (try clear hb2); (try clear hk); (try clear hi)) | ((with_reducible refine gate_callee (f := 57) rfl ?_); refine goesL_ (some 24) rfl rfl Tryd.func57 (by kernel_rfl) rfl #[.int .u8 t152] rfl ls ?_; (with_reducible refine (d_digit.calls t152 true _ A10.out).mono ?_); rintro e w' ⟨rfl, ⟨nd, rfl⟩⟩; refine ⟨_, rfl, ?_⟩; (try (rw [drewN_self w14]; generalize hq_ : World.drewN w14 _ = w14; have n0_ : Aside0 (IsS70 w0 w14 g t153 t154 t155 t156 t157 t158 t159 t160 t161 t162 t163) := ⟨by rw [← hq_]; exact i7⟩; have n1_ : Aside0 (KeepBut w w14 g none) := ⟨by rw [← hq_]; exact kb⟩; have n2_ : Aside0 (Below w0.heap.size w0 w14) := ⟨by rw [← hq_]; exact bi⟩; clear HI0 HK HB hq_; have HI0 := n0_; have HK := n1_; have HB := n2_; clear n0_ n1_ n2_))) | ((with_reducible refine gate_callee (f := 46) rfl ?_); refine goesL_ (some 28) rfl rfl Tryd.func46 (by kernel_rfl) rfl #[.pointer (some ⟨g, 0, none⟩)] rfl ls ?_; (with_reducible refine (d_reader_now.calls g t153 t154 t155 t156 t157 t158 t159 t160 t161 t162 t163 t165 t166 t167 t168 t169 t170 t171 t172 t173 t174 t175 t176 w0 _ ?side1 ?side2 A12.out).mono ?_); (case side1 => exact i7); (case side2 => exact bi); rintro e w15 ⟨rfl, hi, hb, hk⟩; refine ⟨_, rfl, ?_⟩; have n0_ := am (KeepBut.trans kb hk (.inl rfl)); have n1_ := am (hb); have n2_ := am (hi); clear HK; clear HB; clear HI0; have HK := n0_; have HB := n1_; have HI0 := n2_; clear n0_ n1_ n2_; (try clear hb); (try clear hb2); (try clear hk); (try clear hi); obtain ⟨HGz16, hgz16⟩ := HI0.out; have hcz16_0 := cellS70_0 HGz16; have hcz16_1 := cellS70_1 HGz16; have hcz16_2 := cellS70_2 HGz16; have hcz16_3 := cellS70_3 HGz16; have hcz16_4 := cellS70_4 HGz16; have hcz16_5 := cellS70_5 HGz16; have hcz16_6 := cellS70_6 HGz16; have hcz16_7 := cellS70_7 HGz16; have hcz16_8 := cellS70_8 HGz16; have hcz16_9 := cellS70_9 HGz16; have hcz16_10 := cellS70_10 HGz16; have hfz16_0 := blk_frozen HGz16 0; have hfz16_1 := blk_frozen HGz16 1; have hfz16_2 := blk_frozen HGz16 2; have hfz16_3 := blk_frozen HGz16 3; have hfz16_4 := blk_frozen HGz16 4; have hfz16_5 := blk_frozen HGz16 5; have hfz16_6 := blk_frozen HGz16 6; have hfz16_7 := blk_frozen HGz16 7; have hfz16_8 := blk_frozen HGz16 8; have hfz16_9 := blk_frozen HGz16 9; have hfz16_10 := blk_frozen HGz16 10; clear HGz16 hgz16))
    go_roundg k1
    case measure => have := HK1.out; omega
    case rel => exact ⟨(ji13), (t166), (wrap64 (t167 + 1)), (t168), (t169), (t170), (t171), (t172), (t173), (t174), (t175), (t176), (by first | rfl | (simp; done) | (simp only [← hji13] <;> (first | rfl | simp)) | (simp [*]; done)), H', ⟨by have := HK1.out; omega⟩, ⟨i7⟩, ⟨by repeat (first | (with_reducible first | exact HK.out | apply KeepBut.set_ | apply keep_drewN | apply keep_drew | apply keep_alloc) | exact HK.out)⟩, ⟨bi⟩⟩
   replace c11 := Bool.eq_false_iff.mpr c11
   subst c11
   have H1 : (if t154 = t142 then (some (a1, 0, t153, t154, t155, t156, t157, t158, t159, t160, t161, t162, t163)) else (if x7_1 > 4096 then ((d_reader_stop.f t153 t154 t155 t156 t157 t158 t159 t160 t161 t162 t163 t142 6).bind fun bt177 => (some (1, x7_1, bt177.1, bt177.2.1, bt177.2.2.1, bt177.2.2.2.1, bt177.2.2.2.2.1, bt177.2.2.2.2.2.1, bt177.2.2.2.2.2.2.1, bt177.2.2.2.2.2.2.2.1, bt177.2.2.2.2.2.2.2.2.1, bt177.2.2.2.2.2.2.2.2.2.1, bt177.2.2.2.2.2.2.2.2.2.2))) else (some (1, x7_1, t153, t154, t155, t156, t157, t158, t159, t160, t161, t162, t163)))) = some (r1, r2, r3, r4, r5, r6, r7, r8, r9, r10, r11, r12, r13) := by rw [if_neg (show ¬ (false = true) by decide)] at H; exact H
   clear H
   have H := H1
   clear H1
   by_cases c17 : t154 = t142
   ·rw [if_pos c17] at H
    have c17b0 : (t154 == t142) = true := beq_iff_eq.mpr c17
    have c17b1 : (t154 != t142) = false := bne_eq_false_iff_eq.mpr c17
    clear c17
    simp only [Option.some.injEq, Prod.mk.injEq] at H
    obtain ⟨rfl, rfl, rfl, rfl, rfl, rfl, rfl, rfl, rfl, rfl, rfl, rfl, rfl⟩ := H
    go_wp2_with (first | ((with_reducible refine gate_callee (f := 46) rfl ?_); refine goesL_ (some 23) rfl rfl Tryd.func46 (by kernel_rfl) rfl #[.pointer (some ⟨g, 0, none⟩)] rfl ls ?_; (with_reducible refine (d_reader_now.calls g x1000_1 x1001_1 x1002_1 x1003_1 x1004_1 x1005_1 x1006_1 x1007_1 x1008_1 x1009_1 x1010_1 t152 t153 t154 t155 t156 t157 t158 t159 t160 t161 t162 t163 w0 _ ?side1 ?side2 A9.out).mono ?_); (case side1 => exact i7); (case side2 => exact bi); rintro e w18 ⟨rfl, hi, hb, hk⟩; refine ⟨_, rfl, ?_⟩; have n0_ := am (KeepBut.trans kb hk (.inl rfl)); have n1_ := am (hb); have n2_ := am (hi); clear HK; clear HB; clear HI0; have HK := n0_; have HB := n1_; have HI0 := n2_; clear n0_ n1_ n2_; (try clear hb); (try clear hb2); (try clear hk); (try clear hi)) | ((with_reducible refine gate_callee (f := 57) rfl ?_); refine goesL_ (some 24) rfl rfl Tryd.func57 (by kernel_rfl) rfl #[.int .u8 t152] rfl ls ?_; (with_reducible refine (d_digit.calls t152 false _ A10.out).mono ?_); rintro e w' ⟨rfl, ⟨nd, rfl⟩⟩; refine ⟨_, rfl, ?_⟩; obtain ⟨HGz19, hgz19⟩ := HI0.out; have hcz19_0 := cellS70_0 HGz19; have hcz19_1 := cellS70_1 HGz19; have hcz19_2 := cellS70_2 HGz19; have hcz19_3 := cellS70_3 HGz19; have hcz19_4 := cellS70_4 HGz19; have hcz19_5 := cellS70_5 HGz19; have hcz19_6 := cellS70_6 HGz19; have hcz19_7 := cellS70_7 HGz19; have hcz19_8 := cellS70_8 HGz19; have hcz19_9 := cellS70_9 HGz19; have hcz19_10 := cellS70_10 HGz19; have hfz19_0 := blk_frozen HGz19 0; have hfz19_1 := blk_frozen HGz19 1; have hfz19_2 := blk_frozen HGz19 2; have hfz19_3 := blk_frozen HGz19 3; have hfz19_4 := blk_frozen HGz19 4; have hfz19_5 := blk_frozen HGz19 5; have hfz19_6 := blk_frozen HGz19 6; have hfz19_7 := blk_frozen HGz19 7; have hfz19_8 := blk_frozen HGz19 8; have hfz19_9 := blk_frozen HGz19 9; have hfz19_10 := blk_frozen HGz19 10; clear HGz19 hgz19))
    go_ret2
    exact ⟨er, i7, bi, by repeat (first | (with_reducible first | exact HK.out | apply KeepBut.set_ | apply keep_drewN | apply keep_drew | apply keep_alloc) | exact HK.out)⟩
   rw [if_neg c17] at H
   have c17b0 : (t154 == t142) = false := beq_eq_false_iff_ne.mpr c17
   have c17b1 : (t154 != t142) = true := bne_iff_ne.mpr c17
   by_cases c20 : x7_1 > 4096
   rotate_left
   ·rw [if_neg c20] at H
    have c20b0 : decide (4096 < x7_1) = false := decide_eq_false c20
    clear c20
    simp only [Option.some.injEq, Prod.mk.injEq] at H
    obtain ⟨rfl, rfl, rfl, rfl, rfl, rfl, rfl, rfl, rfl, rfl, rfl, rfl, rfl⟩ := H
    go_wp2_with (first | ((with_reducible refine gate_callee (f := 46) rfl ?_); refine goesL_ (some 23) rfl rfl Tryd.func46 (by kernel_rfl) rfl #[.pointer (some ⟨g, 0, none⟩)] rfl ls ?_; (with_reducible refine (d_reader_now.calls g x1000_1 x1001_1 x1002_1 x1003_1 x1004_1 x1005_1 x1006_1 x1007_1 x1008_1 x1009_1 x1010_1 t152 t153 t154 t155 t156 t157 t158 t159 t160 t161 t162 t163 w0 _ ?side1 ?side2 A9.out).mono ?_); (case side1 => exact i7); (case side2 => exact bi); rintro e w25 ⟨rfl, hi, hb, hk⟩; refine ⟨_, rfl, ?_⟩; have n0_ := am (KeepBut.trans kb hk (.inl rfl)); have n1_ := am (hb); have n2_ := am (hi); clear HK; clear HB; clear HI0; have HK := n0_; have HB := n1_; have HI0 := n2_; clear n0_ n1_ n2_; (try clear hb); (try clear hb2); (try clear hk); (try clear hi)) | ((with_reducible refine gate_callee (f := 57) rfl ?_); refine goesL_ (some 24) rfl rfl Tryd.func57 (by kernel_rfl) rfl #[.int .u8 t152] rfl ls ?_; (with_reducible refine (d_digit.calls t152 false _ A10.out).mono ?_); rintro e w' ⟨rfl, ⟨nd, rfl⟩⟩; refine ⟨_, rfl, ?_⟩; obtain ⟨HGz26, hgz26⟩ := HI0.out; have hcz26_0 := cellS70_0 HGz26; have hcz26_1 := cellS70_1 HGz26; have hcz26_2 := cellS70_2 HGz26; have hcz26_3 := cellS70_3 HGz26; have hcz26_4 := cellS70_4 HGz26; have hcz26_5 := cellS70_5 HGz26; have hcz26_6 := cellS70_6 HGz26; have hcz26_7 := cellS70_7 HGz26; have hcz26_8 := cellS70_8 HGz26; have hcz26_9 := cellS70_9 HGz26; have hcz26_10 := cellS70_10 HGz26; have hfz26_0 := blk_frozen HGz26 0; have hfz26_1 := blk_frozen HGz26 1; have hfz26_2 := blk_frozen HGz26 2; have hfz26_3 := blk_frozen HGz26 3; have hfz26_4 := blk_frozen HGz26 4; have hfz26_5 := blk_frozen HGz26 5; have hfz26_6 := blk_frozen HGz26 6; have hfz26_7 := blk_frozen HGz26 7; have hfz26_8 := blk_frozen HGz26 8; have hfz26_9 := blk_frozen HGz26 9; have hfz26_10 := blk_frozen HGz26 10; clear HGz26 hgz26))
    go_ret2
    exact ⟨er, i7, bi, by repeat (first | (with_reducible first | exact HK.out | apply KeepBut.set_ | apply keep_drewN | apply keep_drew | apply keep_alloc) | exact HK.out)⟩
   rw [if_pos c20] at H
   have c20b0 : decide (4096 < x7_1) = true := decide_eq_true c20
   clear c20
   replace H := Option.bind_eq_some_iff.mp H
   obtain ⟨⟨t177, t178, t179, t180, t181, t182, t183, t184, t185, t186, t187⟩, A210, H⟩ := H
   replace H : (some (1, x7_1, t177, t178, t179, t180, t181, t182, t183, t184, t185, t186, t187)) = some (r1, r2, r3, r4, r5, r6, r7, r8, r9, r10, r11, r12, r13) := H
   have A21 := am A210
   clear A210
   simp only [Option.some.injEq, Prod.mk.injEq] at H
   obtain ⟨rfl, rfl, rfl, rfl, rfl, rfl, rfl, rfl, rfl, rfl, rfl, rfl, rfl⟩ := H
   go_wp2_with (first | ((with_reducible refine gate_callee (f := 46) rfl ?_); refine goesL_ (some 23) rfl rfl Tryd.func46 (by kernel_rfl) rfl #[.pointer (some ⟨g, 0, none⟩)] rfl ls ?_; (with_reducible refine (d_reader_now.calls g x1000_1 x1001_1 x1002_1 x1003_1 x1004_1 x1005_1 x1006_1 x1007_1 x1008_1 x1009_1 x1010_1 t152 t153 t154 t155 t156 t157 t158 t159 t160 t161 t162 t163 w0 _ ?side1 ?side2 A9.out).mono ?_); (case side1 => exact i7); (case side2 => exact bi); rintro e w22 ⟨rfl, hi, hb, hk⟩; refine ⟨_, rfl, ?_⟩; have n0_ := am (KeepBut.trans kb hk (.inl rfl)); have n1_ := am (hb); have n2_ := am (hi); clear HK; clear HB; clear HI0; have HK := n0_; have HB := n1_; have HI0 := n2_; clear n0_ n1_ n2_; (try clear hb); (try clear hb2); (try clear hk); (try clear hi)) | ((with_reducible refine gate_callee (f := 57) rfl ?_); refine goesL_ (some 24) rfl rfl Tryd.func57 (by kernel_rfl) rfl #[.int .u8 t152] rfl ls ?_; (with_reducible refine (d_digit.calls t152 false _ A10.out).mono ?_); rintro e w' ⟨rfl, ⟨nd, rfl⟩⟩; refine ⟨_, rfl, ?_⟩; obtain ⟨HGz23, hgz23⟩ := HI0.out; have hcz23_0 := cellS70_0 HGz23; have hcz23_1 := cellS70_1 HGz23; have hcz23_2 := cellS70_2 HGz23; have hcz23_3 := cellS70_3 HGz23; have hcz23_4 := cellS70_4 HGz23; have hcz23_5 := cellS70_5 HGz23; have hcz23_6 := cellS70_6 HGz23; have hcz23_7 := cellS70_7 HGz23; have hcz23_8 := cellS70_8 HGz23; have hcz23_9 := cellS70_9 HGz23; have hcz23_10 := cellS70_10 HGz23; have hfz23_0 := blk_frozen HGz23 0; have hfz23_1 := blk_frozen HGz23 1; have hfz23_2 := blk_frozen HGz23 2; have hfz23_3 := blk_frozen HGz23 3; have hfz23_4 := blk_frozen HGz23 4; have hfz23_5 := blk_frozen HGz23 5; have hfz23_6 := blk_frozen HGz23 6; have hfz23_7 := blk_frozen HGz23 7; have hfz23_8 := blk_frozen HGz23 8; have hfz23_9 := blk_frozen HGz23 9; have hfz23_10 := blk_frozen HGz23 10; clear HGz23 hgz23) | ((with_reducible refine gate_callee (f := 58) rfl ?_); refine goesL_ (some 53) rfl rfl Tryd.func58 (by kernel_rfl) rfl #[.pointer (some ⟨g, 0, none⟩), .int .i64 t142, .int .i64 6] rfl ls ?_; (with_reducible refine (d_reader_stop.calls g t153 t154 t155 t156 t157 t158 t159 t160 t161 t162 t163 t142 6 t177 t178 t179 t180 t181 t182 t183 t184 t185 t186 t187 w0 _ ?side1 ?side2 A21.out).mono ?_); (case side1 => exact i7); (case side2 => exact bi); rintro e w24 ⟨rfl, hi, hb, hk⟩; refine ⟨_, rfl, ?_⟩; have n0_ := am (KeepBut.trans kb hk (.inl rfl)); have n1_ := am (hb); have n2_ := am (hi); clear HK; clear HB; clear HI0; have HK := n0_; have HB := n1_; have HI0 := n2_; clear n0_ n1_ n2_; (try clear hb); (try clear hb2); (try clear hk); (try clear hi)))
   go_ret2
   exact ⟨er, i7, bi, by repeat (first | (with_reducible first | exact HK.out | apply KeepBut.set_ | apply keep_drewN | apply keep_drew | apply keep_alloc) | exact HK.out)⟩
end Go.Proofs.YtlmijjekaelhcaaDoor.EDi
