/-
 A text of this session's own.
-/
import Derived.Test.YtlmijjekaelhcaaDoorExA0
import Derived.Test.YtlmijjekaelhcaaDoorExEDpx0
import Derived.Test.YtlmijjekaelhcaaDoorExEDix18
import Derived.Test.YtlmijjekaelhcaaDoorExEDix19
import Derived.Test.YtlmijjekaelhcaaDoorExEDix20
import Derived.Test.YtlmijjekaelhcaaDoorExX
namespace Go.Proofs.YtlmijjekaelhcaaDoor.EDi
open Go.RowKit Go.Proofs.YtlmijjekaelhcaaDoorW.PrintWords Go.Proofs.YtlmijjekaelhcaaDoorW.PrintLast Go.Proofs.YtlmijjekaelhcaaDoorW.PrintMore
attribute [local go_sem] max2_int min2_int max_two min_two max_three min_three max_four min_four
set_option linter.unusedVariables false
set_option linter.unusedSimpArgs false
open Go.Proofs.YtlmijjekaelhcaaDoor.X
mutual
def d_reader_read.j1 : Nat → ByteArray → Int → Int → Int → ByteArray → Int → Int → Int → Int → Int → Int → Option (ByteArray × Int × Int × Int × ByteArray × Int × Int × Int × Int × Int × Int)
 | 0, _, _, _, _, _, _, _, _, _, _, _ => none
 | k + 1, x1000, x1001, x1002, x1003, x1004, x1005, x1006, x1007, x1008, x1009, x1010 => (d_reader_now.f x1000 x1001 x1002 x1003 x1004 x1005 x1006 x1007 x1008 x1009 x1010).bind fun bt297 => (if bt297.1 = 46 then ((d_reader_number.f k bt297.2.1 (wrap64 (bt297.2.2.1 + 1)) bt297.2.2.2.1 bt297.2.2.2.2.1 bt297.2.2.2.2.2.1 bt297.2.2.2.2.2.2.1 bt297.2.2.2.2.2.2.2.1 bt297.2.2.2.2.2.2.2.2.1 bt297.2.2.2.2.2.2.2.2.2.1 bt297.2.2.2.2.2.2.2.2.2.2.1 bt297.2.2.2.2.2.2.2.2.2.2.2 1).bind fun bt309 => ((d_reader_verb.f bt309.2.2.1 bt309.2.2.2.1 bt309.2.2.2.2.1 bt309.2.2.2.2.2.1 bt309.2.2.2.2.2.2.1 bt309.2.2.2.2.2.2.2.1 bt309.2.2.2.2.2.2.2.2.1 bt309.2.2.2.2.2.2.2.2.2.1 bt309.2.2.2.2.2.2.2.2.2.2.1 bt309.1 bt309.2.1).bind fun bt322 => (some (bt322.1, bt322.2.1, bt322.2.2.1, bt322.2.2.2.1, bt322.2.2.2.2.1, bt322.2.2.2.2.2.1, bt322.2.2.2.2.2.2.1, bt322.2.2.2.2.2.2.2.1, bt322.2.2.2.2.2.2.2.2.1, bt322.2.2.2.2.2.2.2.2.2.1, bt322.2.2.2.2.2.2.2.2.2.2)))) else ((d_reader_verb.f bt297.2.1 bt297.2.2.1 bt297.2.2.2.1 bt297.2.2.2.2.1 bt297.2.2.2.2.2.1 bt297.2.2.2.2.2.2.1 bt297.2.2.2.2.2.2.2.1 bt297.2.2.2.2.2.2.2.2.1 bt297.2.2.2.2.2.2.2.2.2.1 bt297.2.2.2.2.2.2.2.2.2.2.1 bt297.2.2.2.2.2.2.2.2.2.2.2).bind fun bt333 => (some (bt333.1, bt333.2.1, bt333.2.2.1, bt333.2.2.2.1, bt333.2.2.2.2.1, bt333.2.2.2.2.2.1, bt333.2.2.2.2.2.2.1, bt333.2.2.2.2.2.2.2.1, bt333.2.2.2.2.2.2.2.2.1, bt333.2.2.2.2.2.2.2.2.2.1, bt333.2.2.2.2.2.2.2.2.2.2))))
def d_reader_read.l0 : Nat → ByteArray → Int → Int → Int → ByteArray → Int → Int → Int → Int → Int → Int → Option (ByteArray × Int × Int × Int × ByteArray × Int × Int × Int × Int × Int × Int)
 | 0, _, _, _, _, _, _, _, _, _, _, _ => none
 | k + 1, x1000, x1001, x1002, x1003, x1004, x1005, x1006, x1007, x1008, x1009, x1010 => (d_reader_begins.f k x1000 x1001 x1002 x1003 x1004 x1005 x1006 x1007 x1008 x1009 x1010).bind fun bt259 => (if bt259.1 = 0 then ((d_reader_now.f bt259.2.1 bt259.2.2.1 bt259.2.2.2.1 bt259.2.2.2.2.1 bt259.2.2.2.2.2.1 bt259.2.2.2.2.2.2.1 bt259.2.2.2.2.2.2.2.1 bt259.2.2.2.2.2.2.2.2.1 bt259.2.2.2.2.2.2.2.2.2.1 bt259.2.2.2.2.2.2.2.2.2.2.1 bt259.2.2.2.2.2.2.2.2.2.2.2).bind fun bt271 => ((xIndexByte.f (⟨#[45, 43, 32, 35, 48]⟩ : ByteArray) bt271.1).bind fun t283 => (if 0 ≤ t283 then (d_reader_read.l0 k bt271.2.1 (wrap64 (bt271.2.2.1 + 1)) bt271.2.2.2.1 bt271.2.2.2.2.1 bt271.2.2.2.2.2.1 bt271.2.2.2.2.2.2.1 (Go.bits .or .i64 bt271.2.2.2.2.2.2.2.1 (shl .i64 1 t283)) bt271.2.2.2.2.2.2.2.2.1 bt271.2.2.2.2.2.2.2.2.2.1 bt271.2.2.2.2.2.2.2.2.2.2.1 bt271.2.2.2.2.2.2.2.2.2.2.2) else (none)))) else ((d_reader_number.f k bt259.2.1 bt259.2.2.1 bt259.2.2.2.1 bt259.2.2.2.2.1 bt259.2.2.2.2.2.1 bt259.2.2.2.2.2.2.1 bt259.2.2.2.2.2.2.2.1 bt259.2.2.2.2.2.2.2.2.1 bt259.2.2.2.2.2.2.2.2.2.1 bt259.2.2.2.2.2.2.2.2.2.2.1 bt259.2.2.2.2.2.2.2.2.2.2.2 0).bind fun bt284 => (d_reader_read.j1 k bt284.2.2.1 bt284.2.2.2.1 bt284.2.2.2.2.1 bt284.2.2.2.2.2.1 bt284.2.2.2.2.2.2.1 bt284.2.2.2.2.2.2.2.1 bt284.2.2.2.2.2.2.2.2.1 bt284.1 bt284.2.1 bt284.2.2.2.2.2.2.2.2.2.2.2.1 bt284.2.2.2.2.2.2.2.2.2.2.2.2)))
end
def d_reader_read.f (k : Nat) (s0_0 : ByteArray) (s0_1 : Int) (s0_2 : Int) (s0_3 : Int) (s0_4 : ByteArray) (s0_5 : Int) (s0_6 : Int) (s0_7 : Int) (s0_8 : Int) (s0_9 : Int) (s0_10 : Int) : Option (ByteArray × Int × Int × Int × ByteArray × Int × Int × Int × Int × Int × Int) := (d_reader_begins.f k s0_0 s0_1 s0_2 s0_3 s0_4 s0_5 s0_6 s0_7 s0_8 s0_9 s0_10).bind fun bt223 => (if bt223.1 = 0 then (d_reader_read.l0 k bt223.2.1 bt223.2.2.1 bt223.2.2.2.1 bt223.2.2.2.2.1 bt223.2.2.2.2.2.1 bt223.2.2.2.2.2.2.1 bt223.2.2.2.2.2.2.2.1 bt223.2.2.2.2.2.2.2.2.1 bt223.2.2.2.2.2.2.2.2.2.1 bt223.2.2.2.2.2.2.2.2.2.2.1 bt223.2.2.2.2.2.2.2.2.2.2.2) else (if bt223.1 = 1 then ((d_reader_number.f k bt223.2.1 bt223.2.2.1 bt223.2.2.2.1 bt223.2.2.2.2.1 bt223.2.2.2.2.2.1 bt223.2.2.2.2.2.2.1 bt223.2.2.2.2.2.2.2.1 bt223.2.2.2.2.2.2.2.2.1 bt223.2.2.2.2.2.2.2.2.2.1 bt223.2.2.2.2.2.2.2.2.2.2.1 bt223.2.2.2.2.2.2.2.2.2.2.2 0).bind fun bt235 => (d_reader_read.j1 k bt235.2.2.1 bt235.2.2.2.1 bt235.2.2.2.2.1 bt235.2.2.2.2.2.1 bt235.2.2.2.2.2.2.1 bt235.2.2.2.2.2.2.2.1 bt235.2.2.2.2.2.2.2.2.1 bt235.1 bt235.2.1 bt235.2.2.2.2.2.2.2.2.2.2.2.1 bt235.2.2.2.2.2.2.2.2.2.2.2.2)) else (if bt223.1 = 2 then (d_reader_read.j1 k bt223.2.1 bt223.2.2.1 bt223.2.2.2.1 bt223.2.2.2.2.1 bt223.2.2.2.2.2.1 bt223.2.2.2.2.2.2.1 bt223.2.2.2.2.2.2.2.1 bt223.2.2.2.2.2.2.2.2.1 bt223.2.2.2.2.2.2.2.2.2.1 bt223.2.2.2.2.2.2.2.2.2.2.1 bt223.2.2.2.2.2.2.2.2.2.2.2) else ((d_reader_verb.f bt223.2.1 bt223.2.2.1 bt223.2.2.2.1 bt223.2.2.2.2.1 bt223.2.2.2.2.2.1 bt223.2.2.2.2.2.2.1 bt223.2.2.2.2.2.2.2.1 bt223.2.2.2.2.2.2.2.2.1 bt223.2.2.2.2.2.2.2.2.2.1 bt223.2.2.2.2.2.2.2.2.2.2.1 bt223.2.2.2.2.2.2.2.2.2.2.2).bind fun bt248 => (some (bt248.1, bt248.2.1, bt248.2.2.1, bt248.2.2.2.1, bt248.2.2.2.2.1, bt248.2.2.2.2.2.1, bt248.2.2.2.2.2.2.1, bt248.2.2.2.2.2.2.2.1, bt248.2.2.2.2.2.2.2.2.1, bt248.2.2.2.2.2.2.2.2.2.1, bt248.2.2.2.2.2.2.2.2.2.2))))))
theorem d_reader_read.mono_l : ∀ k, (∀ y0 y1 y2 y3 y4 y5 y6 y7 y8 y9 y10, LeO (d_reader_read.j1 k y0 y1 y2 y3 y4 y5 y6 y7 y8 y9 y10) (d_reader_read.j1 (k + 1) y0 y1 y2 y3 y4 y5 y6 y7 y8 y9 y10)) ∧ (∀ y0 y1 y2 y3 y4 y5 y6 y7 y8 y9 y10, LeO (d_reader_read.l0 k y0 y1 y2 y3 y4 y5 y6 y7 y8 y9 y10) (d_reader_read.l0 (k + 1) y0 y1 y2 y3 y4 y5 y6 y7 y8 y9 y10))
 | 0 => ⟨fun _ _ _ _ _ _ _ _ _ _ _ r h => by simp [d_reader_read.j1] at h, fun _ _ _ _ _ _ _ _ _ _ _ r h => by simp [d_reader_read.l0] at h⟩
 | k + 1 => by
  obtain ⟨ih0, ih1⟩ := d_reader_read.mono_l k
  refine ⟨?_, ?_⟩ <;> intros
  all_goals first | unfold d_reader_read.j1 | unfold d_reader_read.l0
  all_goals repeat' first
  | (with_reducible exact ih0 _ _ _ _ _ _ _ _ _ _ _)
  | (with_reducible exact ih1 _ _ _ _ _ _ _ _ _ _ _)
  | (with_reducible exact d_reader_begins.mono _ _ _ _ _ _ _ _ _ _ _ _)
  | (with_reducible exact d_reader_number.mono _ _ _ _ _ _ _ _ _ _ _ _ _)
  | (with_reducible exact LeO.refl _)
  | (with_reducible exact LeO.none _)
  | (with_reducible refine LeO.ite ?_ ?_)
  | (with_reducible refine LeO.bind ?_ (fun _ => ?_))
  | exact ih0 _ _ _ _ _ _ _ _ _ _ _
  | exact ih1 _ _ _ _ _ _ _ _ _ _ _
  | exact d_reader_begins.mono _ _ _ _ _ _ _ _ _ _ _ _
  | exact d_reader_number.mono _ _ _ _ _ _ _ _ _ _ _ _ _
  | exact LeO.none _
  | refine LeO.ite ?_ ?_
  | refine LeO.bind ?_ (fun _ => ?_)
theorem d_reader_read.mono : ∀ a0 a1 a2 a3 a4 a5 a6 a7 a8 a9 a10 k, LeO (d_reader_read.f k a0 a1 a2 a3 a4 a5 a6 a7 a8 a9 a10) (d_reader_read.f (k + 1) a0 a1 a2 a3 a4 a5 a6 a7 a8 a9 a10) := by
 intro a0 a1 a2 a3 a4 a5 a6 a7 a8 a9 a10 k
 obtain ⟨ih0, ih1⟩ := d_reader_read.mono_l k
 unfold d_reader_read.f
 repeat' first
   | (with_reducible exact ih0 _ _ _ _ _ _ _ _ _ _ _)
   | (with_reducible exact ih1 _ _ _ _ _ _ _ _ _ _ _)
   | (with_reducible exact d_reader_begins.mono _ _ _ _ _ _ _ _ _ _ _ _)
   | (with_reducible exact d_reader_number.mono _ _ _ _ _ _ _ _ _ _ _ _ _)
   | (with_reducible exact LeO.refl _)
   | (with_reducible exact LeO.none _)
   | (with_reducible refine LeO.ite ?_ ?_)
   | (with_reducible refine LeO.bind ?_ (fun _ => ?_))
   | exact ih0 _ _ _ _ _ _ _ _ _ _ _
   | exact ih1 _ _ _ _ _ _ _ _ _ _ _
   | exact d_reader_begins.mono _ _ _ _ _ _ _ _ _ _ _ _
   | exact d_reader_number.mono _ _ _ _ _ _ _ _ _ _ _ _ _
   | exact LeO.none _
   | refine LeO.ite ?_ ?_
   | refine LeO.bind ?_ (fun _ => ?_)
theorem now_flags {s0 : ByteArray} {s1 s2 s3 : Int} {s4 : ByteArray} {s5 s6 s7 s8 s9 s10 r1 : Int} {t0 : ByteArray} {t1 t2 t3 : Int} {t4 : ByteArray} {t5 t6 t7 t8 t9 t10 : Int}
  (h : d_reader_now.f s0 s1 s2 s3 s4 s5 s6 s7 s8 s9 s10 = some (r1, t0, t1, t2, t3, t4, t5, t6, t7, t8, t9, t10)) : t6 = s6 := by
 unfold d_reader_now.f at h
 split at h
 ·split at h
  ·simp only [Option.some.injEq, Prod.mk.injEq] at h
   exact h.2.2.2.2.2.2.2.1.symm
  ·cases h
 ·simp only [Option.some.injEq, Prod.mk.injEq] at h
  exact h.2.2.2.2.2.2.2.1.symm
set_option maxHeartbeats 8000000 in
set_option maxRecDepth 100000 in
theorem d_reader_read.calls (k : Nat) (g : Nat) (s0_0 : ByteArray) (s0_1 : Int) (s0_2 : Int) (s0_3 : Int) (s0_4 : ByteArray) (s0_5 : Int) (s0_6 : Int) (s0_7 : Int) (s0_8 : Int) (s0_9 : Int) (s0_10 : Int) (r1 : ByteArray) (r2 : Int) (r3 : Int) (r4 : Int) (r5 : ByteArray) (r6 : Int) (r7 : Int) (r8 : Int) (r9 : Int) (r10 : Int) (r11 : Int) (w0 w : World) (hI : IsS70 w0 w g s0_0 s0_1 s0_2 s0_3 s0_4 s0_5 s0_6 s0_7 s0_8 s0_9 s0_10) (hB : Below w0.heap.size w0 w) (h : d_reader_read.f k s0_0 s0_1 s0_2 s0_3 s0_4 s0_5 s0_6 s0_7 s0_8 s0_9 s0_10 = some (r1, r2, r3, r4, r5, r6, r7, r8, r9, r10, r11)) :
  Calls Tryd.prog 30 #[.pointer (some ⟨g, 0, none⟩)] w fun e w' => e = .returned (.tuple #[]) ∧ IsS70 w0 w' g r1 r2 r3 r4 r5 r6 r7 r8 r9 r10 r11 ∧ Below w0.heap.size w0 w' ∧ KeepBut w w' g none := by
 have HI0 := am hI
 have HK := am (KeepBut.refl w g none)
 have HL := am hB.size
 clear hI
 have HW0 := am hB.size
 have HB := am hB
 clear hB
 have H : ((d_reader_begins.f k s0_0 s0_1 s0_2 s0_3 s0_4 s0_5 s0_6 s0_7 s0_8 s0_9 s0_10).bind fun bt223 => (if bt223.1 = 0 then (d_reader_read.l0 k bt223.2.1 bt223.2.2.1 bt223.2.2.2.1 bt223.2.2.2.2.1 bt223.2.2.2.2.2.1 bt223.2.2.2.2.2.2.1 bt223.2.2.2.2.2.2.2.1 bt223.2.2.2.2.2.2.2.2.1 bt223.2.2.2.2.2.2.2.2.2.1 bt223.2.2.2.2.2.2.2.2.2.2.1 bt223.2.2.2.2.2.2.2.2.2.2.2) else (if bt223.1 = 1 then ((d_reader_number.f k bt223.2.1 bt223.2.2.1 bt223.2.2.2.1 bt223.2.2.2.2.1 bt223.2.2.2.2.2.1 bt223.2.2.2.2.2.2.1 bt223.2.2.2.2.2.2.2.1 bt223.2.2.2.2.2.2.2.2.1 bt223.2.2.2.2.2.2.2.2.2.1 bt223.2.2.2.2.2.2.2.2.2.2.1 bt223.2.2.2.2.2.2.2.2.2.2.2 0).bind fun bt235 => (d_reader_read.j1 k bt235.2.2.1 bt235.2.2.2.1 bt235.2.2.2.2.1 bt235.2.2.2.2.2.1 bt235.2.2.2.2.2.2.1 bt235.2.2.2.2.2.2.2.1 bt235.2.2.2.2.2.2.2.2.1 bt235.1 bt235.2.1 bt235.2.2.2.2.2.2.2.2.2.2.2.1 bt235.2.2.2.2.2.2.2.2.2.2.2.2)) else (if bt223.1 = 2 then (d_reader_read.j1 k bt223.2.1 bt223.2.2.1 bt223.2.2.2.1 bt223.2.2.2.2.1 bt223.2.2.2.2.2.1 bt223.2.2.2.2.2.2.1 bt223.2.2.2.2.2.2.2.1 bt223.2.2.2.2.2.2.2.2.1 bt223.2.2.2.2.2.2.2.2.2.1 bt223.2.2.2.2.2.2.2.2.2.2.1 bt223.2.2.2.2.2.2.2.2.2.2.2) else ((d_reader_verb.f bt223.2.1 bt223.2.2.1 bt223.2.2.2.1 bt223.2.2.2.2.1 bt223.2.2.2.2.2.1 bt223.2.2.2.2.2.2.1 bt223.2.2.2.2.2.2.2.1 bt223.2.2.2.2.2.2.2.2.1 bt223.2.2.2.2.2.2.2.2.2.1 bt223.2.2.2.2.2.2.2.2.2.2.1 bt223.2.2.2.2.2.2.2.2.2.2.2).bind fun bt248 => (some (bt248.1, bt248.2.1, bt248.2.2.1, bt248.2.2.2.1, bt248.2.2.2.2.1, bt248.2.2.2.2.2.1, bt248.2.2.2.2.2.2.1, bt248.2.2.2.2.2.2.2.1, bt248.2.2.2.2.2.2.2.2.1, bt248.2.2.2.2.2.2.2.2.2.1, bt248.2.2.2.2.2.2.2.2.2.2))))))) = some (r1, r2, r3, r4, r5, r6, r7, r8, r9, r10, r11) := h
 clear h
 replace H := Option.bind_eq_some_iff.mp H
 obtain ⟨⟨t223, t224, t225, t226, t227, t228, t229, t230, t231, t232, t233, t234⟩, A20, H⟩ := H
 replace H : (if t223 = 0 then (d_reader_read.l0 k t224 t225 t226 t227 t228 t229 t230 t231 t232 t233 t234) else (if t223 = 1 then ((d_reader_number.f k t224 t225 t226 t227 t228 t229 t230 t231 t232 t233 t234 0).bind fun bt235 => (d_reader_read.j1 k bt235.2.2.1 bt235.2.2.2.1 bt235.2.2.2.2.1 bt235.2.2.2.2.2.1 bt235.2.2.2.2.2.2.1 bt235.2.2.2.2.2.2.2.1 bt235.2.2.2.2.2.2.2.2.1 bt235.1 bt235.2.1 bt235.2.2.2.2.2.2.2.2.2.2.2.1 bt235.2.2.2.2.2.2.2.2.2.2.2.2)) else (if t223 = 2 then (d_reader_read.j1 k t224 t225 t226 t227 t228 t229 t230 t231 t232 t233 t234) else ((d_reader_verb.f t224 t225 t226 t227 t228 t229 t230 t231 t232 t233 t234).bind fun bt248 => (some (bt248.1, bt248.2.1, bt248.2.2.1, bt248.2.2.2.1, bt248.2.2.2.2.1, bt248.2.2.2.2.2.1, bt248.2.2.2.2.2.2.1, bt248.2.2.2.2.2.2.2.1, bt248.2.2.2.2.2.2.2.2.1, bt248.2.2.2.2.2.2.2.2.2.1, bt248.2.2.2.2.2.2.2.2.2.2)))))) = some (r1, r2, r3, r4, r5, r6, r7, r8, r9, r10, r11) := H
 have A2 := am A20
 clear A20
 have HC3 := am H
 clear H
 go_enter Tryd.func30, Tryd.ntmps30
 go_upto_block 3 with (first | ((with_reducible refine gate_callee (f := 45) rfl ?_); refine goesL_ (some 3) rfl rfl Tryd.func45 (by kernel_rfl) rfl #[.pointer (some ⟨g, 0, none⟩)] rfl ls ?_; (with_reducible refine (d_reader_begins.calls k g s0_0 s0_1 s0_2 s0_3 s0_4 s0_5 s0_6 s0_7 s0_8 s0_9 s0_10 t223 t224 t225 t226 t227 t228 t229 t230 t231 t232 t233 t234 w0 _ ?side1 ?side2 A2.out).mono ?_); (case side1 => exact i7); (case side2 => exact bi); rintro e w4 ⟨rfl, hi, hb, hk⟩; refine ⟨_, rfl, ?_⟩; have n0_ := am (KeepBut.trans kb hk (.inl rfl)); have n1_ := am (hb); have n2_ := am (hi); clear HK; clear HB; clear HI0; have HK := n0_; have HB := n1_; have HI0 := n2_; clear n0_ n1_ n2_; (try clear hb); (try clear hb2); (try clear hk); (try clear hi)))
 (try simp only [Act.put, List.setIfInBounds_toArray, List.set_cons_zero, List.set_cons_succ])
 go_cut [] (fun wc => ∃ (kq : Nat) (x1000_2 : ByteArray) (x1001_2 : Int) (x1002_2 : Int) (x1003_2 : Int) (x1004_2 : ByteArray) (x1005_2 : Int) (x1006_2 : Int) (x1007_2 : Int) (x1008_2 : Int) (x1009_2 : Int) (x1010_2 : Int), Aside0 (d_reader_read.j1 kq x1000_2 x1001_2 x1002_2 x1003_2 x1004_2 x1005_2 x1006_2 x1007_2 x1008_2 x1009_2 x1010_2 = some (r1, r2, r3, r4, r5, r6, r7, r8, r9, r10, r11)) ∧ Aside0 (kq ≤ k) ∧ Aside0 (IsS70 w0 wc g x1000_2 x1001_2 x1002_2 x1003_2 x1004_2 x1005_2 x1006_2 x1007_2 x1008_2 x1009_2 x1010_2) ∧ Aside0 (KeepBut w wc g none) ∧ Aside0 (Below w0.heap.size w0 wc))
 case first =>
  have H := HC3.out
  clear HC3
  by_cases c5 : t223 = 0
  rotate_left
  ·rw [if_neg c5] at H
   have c5b0 : (t223 == 0) = false := beq_eq_false_iff_ne.mpr c5
   have c5b1 : (t223 != 0) = true := bne_iff_ne.mpr c5
   (first | rw [c5b0] | (simp only [i64_w, i32_w]; rw [c5b0]) | skip)
   by_cases c20 : t223 = 1
   rotate_left
   ·rw [if_neg c20] at H
    have c20b0 : (t223 == 1) = false := beq_eq_false_iff_ne.mpr c20
    have c20b1 : (t223 != 1) = true := bne_iff_ne.mpr c20
    by_cases c24 : t223 = 2
    ·rw [if_pos c24] at H
     have c24b0 : (t223 == 2) = true := beq_iff_eq.mpr c24
     have c24b1 : (t223 != 2) = false := bne_eq_false_iff_eq.mpr c24
     clear c24
     have H' := am H
     clear H
     go_wp2
     go_meet
     case rel => exact ⟨_, (t224), (t225), (t226), (t227), (t228), (t229), (t230), (t231), (t232), (t233), (t234), H', ⟨by first | omega | exact Nat.le_refl _⟩, ⟨i7⟩, ⟨by repeat (first | (with_reducible first | exact HK.out | apply KeepBut.set_ | apply keep_drewN | apply keep_drew | apply keep_alloc) | exact HK.out)⟩, ⟨bi⟩⟩
    rw [if_neg c24] at H
    have c24b0 : (t223 == 2) = false := beq_eq_false_iff_ne.mpr c24
    have c24b1 : (t223 != 2) = true := bne_iff_ne.mpr c24
    replace H := Option.bind_eq_some_iff.mp H
    obtain ⟨⟨t248, t249, t250, t251, t252, t253, t254, t255, t256, t257, t258⟩, A250, H⟩ := H
    replace H : (some (t248, t249, t250, t251, t252, t253, t254, t255, t256, t257, t258)) = some (r1, r2, r3, r4, r5, r6, r7, r8, r9, r10, r11) := H
    have A25 := am A250
    clear A250
    simp only [Option.some.injEq, Prod.mk.injEq] at H
    obtain ⟨rfl, rfl, rfl, rfl, rfl, rfl, rfl, rfl, rfl, rfl, rfl⟩ := H
    go_wp2_with (first | ((with_reducible refine gate_callee (f := 48) rfl ?_); refine goesL_ (some 70) rfl rfl Tryd.func48 (by kernel_rfl) rfl #[.pointer (some ⟨g, 0, none⟩)] rfl ls ?_; (with_reducible refine (d_reader_verb.calls g t224 t225 t226 t227 t228 t229 t230 t231 t232 t233 t234 t248 t249 t250 t251 t252 t253 t254 t255 t256 t257 t258 w0 _ ?side1 ?side2 A25.out).mono ?_); (case side1 => exact i7); (case side2 => exact bi); rintro e w26 ⟨rfl, hi, hb, hk⟩; refine ⟨_, rfl, ?_⟩; have n0_ := am (KeepBut.trans kb hk (.inl rfl)); have n1_ := am (hb); have n2_ := am (hi); clear HK; clear HB; clear HI0; have HK := n0_; have HB := n1_; have HI0 := n2_; clear n0_ n1_ n2_; (try clear hb); (try clear hb2); (try clear hk); (try clear hi)))
    first | go_end0 | ((try simp only [Exit.inBlock, Exit.then]); refine bodyPost_ret (results_none rfl _ _ _) rfl ?_)
    exact ⟨er, i7, bi, by repeat (first | (with_reducible first | exact HK.out | apply KeepBut.set_ | apply keep_drewN | apply keep_drew | apply keep_alloc) | exact HK.out)⟩
   rw [if_pos c20] at H
   have c20b0 : (t223 == 1) = true := beq_iff_eq.mpr c20
   have c20b1 : (t223 != 1) = false := bne_eq_false_iff_eq.mpr c20
   clear c20
   replace H := Option.bind_eq_some_iff.mp H
   obtain ⟨⟨t235, t236, t237, t238, t239, t240, t241, t242, t243, t244, t245, t246, t247⟩, A210, H⟩ := H
   replace H : (d_reader_read.j1 k t237 t238 t239 t240 t241 t242 t243 t235 t236 t246 t247) = some (r1, r2, r3, r4, r5, r6, r7, r8, r9, r10, r11) := H
   have A21 := am A210
   clear A210
   have H' := am H
   clear H
   go_wp2_with (first | ((with_reducible refine gate_callee (f := 47) rfl ?_); refine goesL_ (some 37) rfl rfl Tryd.func47 (by kernel_rfl) rfl #[.pointer (some ⟨g, 0, none⟩), .int .i64 0] rfl ls ?_; (with_reducible refine (d_reader_number.calls k g t224 t225 t226 t227 t228 t229 t230 t231 t232 t233 t234 0 t235 t236 t237 t238 t239 t240 t241 t242 t243 t244 t245 t246 t247 w0 _ ?side1 ?side2 A21.out).mono ?_); (case side1 => exact i7); (case side2 => exact bi); rintro e w22 ⟨rfl, hi, hb, hk⟩; refine ⟨_, rfl, ?_⟩; have n0_ := am (KeepBut.trans kb hk (.inl rfl)); have n1_ := am (hb); have n2_ := am (hi); clear HK; clear HB; clear HI0; have HK := n0_; have HB := n1_; have HI0 := n2_; clear n0_ n1_ n2_; (try clear hb); (try clear hb2); (try clear hk); (try clear hi); obtain ⟨HGz23, hgz23⟩ := HI0.out; have hcz23_0 := cellS70_0 HGz23; have hcz23_1 := cellS70_1 HGz23; have hcz23_2 := cellS70_2 HGz23; have hcz23_3 := cellS70_3 HGz23; have hcz23_4 := cellS70_4 HGz23; have hcz23_5 := cellS70_5 HGz23; have hcz23_6 := cellS70_6 HGz23; have hcz23_7 := cellS70_7 HGz23; have hcz23_8 := cellS70_8 HGz23; have hcz23_9 := cellS70_9 HGz23; have hcz23_10 := cellS70_10 HGz23; have hfz23_0 := blk_frozen HGz23 0; have hfz23_1 := blk_frozen HGz23 1; have hfz23_2 := blk_frozen HGz23 2; have hfz23_3 := blk_frozen HGz23 3; have hfz23_4 := blk_frozen HGz23 4; have hfz23_5 := blk_frozen HGz23 5; have hfz23_6 := blk_frozen HGz23 6; have hfz23_7 := blk_frozen HGz23 7; have hfz23_8 := blk_frozen HGz23 8; have hfz23_9 := blk_frozen HGz23 9; have hfz23_10 := blk_frozen HGz23 10; clear HGz23 hgz23))
   go_meet
   case rel => exact ⟨_, (t237), (t238), (t239), (t240), (t241), (t242), (t243), (t235), (t236), (t246), (t247), H', ⟨by first | omega | exact Nat.le_refl _⟩, ⟨i7⟩, ⟨by repeat (first | (with_reducible first | exact HK.out | apply KeepBut.set_ | apply keep_drewN | apply keep_drew | apply keep_alloc) | exact HK.out)⟩, ⟨bi⟩⟩
  rw [if_pos c5] at H
  have c5b0 : (t223 == 0) = true := beq_iff_eq.mpr c5
  have c5b1 : (t223 != 0) = false := bne_eq_false_iff_eq.mpr c5
  clear c5
  (first | rw [c5b0] | (simp only [i64_w, i32_w]; rw [c5b0]) | skip)
  have H' := am H
  clear H
  go_wp2
  go_loopg [] k (fun kq w' => ∃ (x1000_1 : ByteArray) (x1001_1 : Int) (x1002_1 : Int) (x1003_1 : Int) (x1004_1 : ByteArray) (x1005_1 : Int) (x1006_1 : Int) (x1007_1 : Int) (x1008_1 : Int) (x1009_1 : Int) (x1010_1 : Int), Aside0 (d_reader_read.l0 kq x1000_1 x1001_1 x1002_1 x1003_1 x1004_1 x1005_1 x1006_1 x1007_1 x1008_1 x1009_1 x1010_1 = some (r1, r2, r3, r4, r5, r6, r7, r8, r9, r10, r11)) ∧ Aside0 (kq ≤ k) ∧ Aside0 (IsS70 w0 w' g x1000_1 x1001_1 x1002_1 x1003_1 x1004_1 x1005_1 x1006_1 x1007_1 x1008_1 x1009_1 x1010_1) ∧ Aside0 (KeepBut w w' g none) ∧ Aside0 (Below w0.heap.size w0 w'))
  case atStart => exact ⟨(t224), (t225), (t226), (t227), (t228), (t229), (t230), (t231), (t232), (t233), (t234), H', ⟨Nat.le_refl _⟩, ⟨i7⟩, ⟨by repeat (first | (with_reducible first | exact HK.out | apply KeepBut.set_ | apply keep_drewN | apply keep_drew | apply keep_alloc) | exact HK.out)⟩, ⟨bi⟩⟩
  case round =>
   clear H'
   try clear p2
   try clear c3
   try clear c4
   try clear c5
   try clear c5b0
   try clear c5b1
   obtain ⟨x1000_1, x1001_1, x1002_1, x1003_1, x1004_1, x1005_1, x1006_1, x1007_1, x1008_1, x1009_1, x1010_1, HA, HK1, HI0, HK, HB⟩ := hrel
   cases gk with
   | zero => exact absurd HA.out (by simp [d_reader_read.l0])
   | succ k1 =>
    have H := HA.out
    clear HA
    simp only [d_reader_read.l0] at H
    replace H := Option.bind_eq_some_iff.mp H
    obtain ⟨⟨t259, t260, t261, t262, t263, t264, t265, t266, t267, t268, t269, t270⟩, A60, H⟩ := H
    replace H : (if t259 = 0 then ((d_reader_now.f t260 t261 t262 t263 t264 t265 t266 t267 t268 t269 t270).bind fun bt271 => ((xIndexByte.f (⟨#[45, 43, 32, 35, 48]⟩ : ByteArray) bt271.1).bind fun t283 => (if 0 ≤ t283 then (d_reader_read.l0 k1 bt271.2.1 (wrap64 (bt271.2.2.1 + 1)) bt271.2.2.2.1 bt271.2.2.2.2.1 bt271.2.2.2.2.2.1 bt271.2.2.2.2.2.2.1 (Go.bits .or .i64 bt271.2.2.2.2.2.2.2.1 (shl .i64 1 t283)) bt271.2.2.2.2.2.2.2.2.1 bt271.2.2.2.2.2.2.2.2.2.1 bt271.2.2.2.2.2.2.2.2.2.2.1 bt271.2.2.2.2.2.2.2.2.2.2.2) else (none)))) else ((d_reader_number.f k1 t260 t261 t262 t263 t264 t265 t266 t267 t268 t269 t270 0).bind fun bt284 => (d_reader_read.j1 k1 bt284.2.2.1 bt284.2.2.2.1 bt284.2.2.2.2.1 bt284.2.2.2.2.2.1 bt284.2.2.2.2.2.2.1 bt284.2.2.2.2.2.2.2.1 bt284.2.2.2.2.2.2.2.2.1 bt284.1 bt284.2.1 bt284.2.2.2.2.2.2.2.2.2.2.2.1 bt284.2.2.2.2.2.2.2.2.2.2.2.2))) = some (r1, r2, r3, r4, r5, r6, r7, r8, r9, r10, r11) := H
    have A6 := am A60
    clear A60
    by_cases c7 : t259 = 0
    rotate_left
    ·rw [if_neg c7] at H
     have c7b0 : (t259 == 0) = false := beq_eq_false_iff_ne.mpr c7
     have c7b1 : (t259 != 0) = true := bne_iff_ne.mpr c7
     replace H := Option.bind_eq_some_iff.mp H
     obtain ⟨⟨t284, t285, t286, t287, t288, t289, t290, t291, t292, t293, t294, t295, t296⟩, A160, H⟩ := H
     replace H : (d_reader_read.j1 k1 t286 t287 t288 t289 t290 t291 t292 t284 t285 t295 t296) = some (r1, r2, r3, r4, r5, r6, r7, r8, r9, r10, r11) := H
     have A16 := am A160
     clear A160
     have H' := am H
     clear H
     go_wp2_with (first | ((with_reducible refine gate_callee (f := 45) rfl ?_); refine goesL_ (some 11) rfl rfl Tryd.func45 (by kernel_rfl) rfl #[.pointer (some ⟨g, 0, none⟩)] rfl ls ?_; (with_reducible refine (d_reader_begins.calls k1 g x1000_1 x1001_1 x1002_1 x1003_1 x1004_1 x1005_1 x1006_1 x1007_1 x1008_1 x1009_1 x1010_1 t259 t260 t261 t262 t263 t264 t265 t266 t267 t268 t269 t270 w0 _ ?side1 ?side2 A6.out).mono ?_); (case side1 => exact i7); (case side2 => exact bi); rintro e w17 ⟨rfl, hi, hb, hk⟩; refine ⟨_, rfl, ?_⟩; have n0_ := am (KeepBut.trans kb hk (.inl rfl)); have n1_ := am (hb); have n2_ := am (hi); clear HK; clear HB; clear HI0; have HK := n0_; have HB := n1_; have HI0 := n2_; clear n0_ n1_ n2_; (try clear hb); (try clear hb2); (try clear hk); (try clear hi)) | ((with_reducible refine gate_callee (f := 47) rfl ?_); refine goesL_ (some 37) rfl rfl Tryd.func47 (by kernel_rfl) rfl #[.pointer (some ⟨g, 0, none⟩), .int .i64 0] rfl ls ?_; (with_reducible refine (d_reader_number.calls k1 g t260 t261 t262 t263 t264 t265 t266 t267 t268 t269 t270 0 t284 t285 t286 t287 t288 t289 t290 t291 t292 t293 t294 t295 t296 w0 _ ?side1 ?side2 A16.out).mono ?_); (case side1 => exact i7); (case side2 => exact bi); rintro e w18 ⟨rfl, hi, hb, hk⟩; refine ⟨_, rfl, ?_⟩; have n0_ := am (KeepBut.trans kb hk (.inl rfl)); have n1_ := am (hb); have n2_ := am (hi); clear HK; clear HB; clear HI0; have HK := n0_; have HB := n1_; have HI0 := n2_; clear n0_ n1_ n2_; (try clear hb); (try clear hb2); (try clear hk); (try clear hi); obtain ⟨HGz19, hgz19⟩ := HI0.out; have hcz19_0 := cellS70_0 HGz19; have hcz19_1 := cellS70_1 HGz19; have hcz19_2 := cellS70_2 HGz19; have hcz19_3 := cellS70_3 HGz19; have hcz19_4 := cellS70_4 HGz19; have hcz19_5 := cellS70_5 HGz19; have hcz19_6 := cellS70_6 HGz19; have hcz19_7 := cellS70_7 HGz19; have hcz19_8 := cellS70_8 HGz19; have hcz19_9 := cellS70_9 HGz19; have hcz19_10 := cellS70_10 HGz19; have hfz19_0 := blk_frozen HGz19 0; have hfz19_1 := blk_frozen HGz19 1; have hfz19_2 := blk_frozen HGz19 2; have hfz19_3 := blk_frozen HGz19 3; have hfz19_4 := blk_frozen HGz19 4; have hfz19_5 := blk_frozen HGz19 5; have hfz19_6 := blk_frozen HGz19 6; have hfz19_7 := blk_frozen HGz19 7; have hfz19_8 := blk_frozen HGz19 8; have hfz19_9 := blk_frozen HGz19 9; have hfz19_10 := blk_frozen HGz19 10; clear HGz19 hgz19))
     go_meet
     case rel => exact ⟨_, (t286), (t287), (t288), (t289), (t290), (t291), (t292), (t284), (t285), (t295), (t296), H', ⟨by have := HK1.out; first | omega | exact Nat.le_refl _⟩, ⟨i7⟩, ⟨by repeat (first | (with_reducible first | exact HK.out | apply KeepBut.set_ | apply keep_drewN | apply keep_drew | apply keep_alloc) | exact HK.out)⟩, ⟨bi⟩⟩
    rw [if_pos c7] at H
    have c7b0 : (t259 == 0) = true := beq_iff_eq.mpr c7
    have c7b1 : (t259 != 0) = false := bne_eq_false_iff_eq.mpr c7
    clear c7
    replace H := Option.bind_eq_some_iff.mp H
    obtain ⟨⟨t271, t272, t273, t274, t275, t276, t277, t278, t279, t280, t281, t282⟩, A80, H⟩ := H
    replace H : ((xIndexByte.f (⟨#[45, 43, 32, 35, 48]⟩ : ByteArray) t271).bind fun t283 => (if 0 ≤ t283 then (d_reader_read.l0 k1 t272 (wrap64 (t273 + 1)) t274 t275 t276 t277 (Go.bits .or .i64 t278 (shl .i64 1 t283)) t279 t280 t281 t282) else (none))) = some (r1, r2, r3, r4, r5, r6, r7, r8, r9, r10, r11) := H
    have A8 := am A80
    clear A80
    replace H := Option.bind_eq_some_iff.mp H
    obtain ⟨t283, A90, H⟩ := H
    replace H : (if 0 ≤ t283 then (d_reader_read.l0 k1 t272 (wrap64 (t273 + 1)) t274 t275 t276 t277 (Go.bits .or .i64 t278 (shl .i64 1 t283)) t279 t280 t281 t282) else (none)) = some (r1, r2, r3, r4, r5, r6, r7, r8, r9, r10, r11) := H
    have A9 := am A90
    clear A90
    by_cases c10 : 0 ≤ t283
    rotate_left
    ·rw [if_neg c10] at H
     exact absurd H (by simp)
    rw [if_pos c10] at H
    have c10b0 := eq_true c10
    have c10b1 := decide_eq_true c10
    clear c10
    obtain ⟨ji11, hji11⟩ : ∃ j_ : Int, (shl .i64 1 t283) = j_ := ⟨_, rfl⟩
    replace H : (d_reader_read.l0 k1 t272 (wrap64 (t273 + 1)) t274 t275 t276 t277 (Go.bits .or .i64 t278 (ji11)) t279 t280 t281 t282) = some (r1, r2, r3, r4, r5, r6, r7, r8, r9, r10, r11) := by first | (rw [hji11] at H; exact H) | (simp only [hji11] at H ⊢; exact H)
    (try rw [hji11] at A6)
    (try rw [hji11] at A8)
    (try rw [hji11] at A9)
    have hji11_ : (IntKind.i64.wrap (1 * 2 ^ min t283.toNat 64)) = ji11 := hji11
    have hji11z : t283 ≤ 64 → (IntKind.i64.wrap (1 * 2 ^ t283.toNat)) = ji11 := shl_small hji11
    have hji11u : (IntKind.i64.wrap (2 ^ min t283.toNat 64)) = ji11 := by have h_ := hji11_; rw [Int.one_mul] at h_; exact h_
    have hji11v : t283 ≤ 64 → (IntKind.i64.wrap (2 ^ t283.toNat)) = ji11 := fun hle_ => by have h_ := hji11z hle_; rw [Int.one_mul] at h_; exact h_
    have hji11y : (wrap64 (1 * 2 ^ min t283.toNat 64)) = ji11 := (i64_w _).symm.trans hji11_
    have hji11x : t283 ≤ 64 → (wrap64 (1 * 2 ^ t283.toNat)) = ji11 := fun h_ => (i64_w _).symm.trans (hji11z h_)
    have H' := am H
    clear H
    have HE6 : Aside0 (t278 = t266) := ⟨now_flags A8.out⟩
    go_wp2_with (first | ((with_reducible refine gate_callee (f := 45) rfl ?_); refine goesL_ (some 11) rfl rfl Tryd.func45 (by kernel_rfl) rfl #[.pointer (some ⟨g, 0, none⟩)] rfl ls ?_; (with_reducible refine (d_reader_begins.calls k1 g x1000_1 x1001_1 x1002_1 x1003_1 x1004_1 x1005_1 x1006_1 x1007_1 x1008_1 x1009_1 x1010_1 t259 t260 t261 t262 t263 t264 t265 t266 t267 t268 t269 t270 w0 _ ?side1 ?side2 A6.out).mono ?_); (case side1 => exact i7); (case side2 => exact bi); rintro e w12 ⟨rfl, hi, hb, hk⟩; refine ⟨_, rfl, ?_⟩; have n0_ := am (KeepBut.trans kb hk (.inl rfl)); have n1_ := am (hb); have n2_ := am (hi); clear HK; clear HB; clear HI0; have HK := n0_; have HB := n1_; have HI0 := n2_; clear n0_ n1_ n2_; (try clear hb); (try clear hb2); (try clear hk); (try clear hi)))
    refine start_ (n := 14) (S := fun w' => w'.cell? ⟨g, 6, none⟩ = some (.int .i64 t278)) (ds := [13]) #[false, false, false, false, false, false, false, false, false, false, false, false, false, false] (by kernel_rfl) rfl rfl ((by rw [HE6.out]; exact cellS70_6 (And.left (IsS70.drew HI0.out)))) (fun hHeld => ?_)
    have n0_ := am (keep_drew HK.out); have n1_ := am (below_drew1 HB.out); have n2_ := am (IsS70.drew HI0.out)
    clear HK HB HI0; have HK := n0_; have HB := n1_; have HI0 := n2_; clear n0_ n1_ n2_
    generalize w12.drew = w13 at HK HB HI0 hHeld ⊢
    refine pure_ (i := 0) (N := some 13) (v := ?_) (a' := ?_) #[true, false, false, false, false, false, false, false, false, false, false, false, false, false] rfl rfl (by kernel_rfl) (fun _ _ _ h => h) (Or.inl ⟨by rfl, ?_⟩) ?_ ?_
    rotate_left
    ·intro w'
     go_simp
     with_reducible rfl
    rotate_left
    ·simp only [Act.put, List.setIfInBounds_toArray, List.set_cons_zero, List.set_cons_succ, i64_w, i32_w]
     rfl
    refine pure_ (i := 1) (N := some 14) (v := ?_) (a' := ?_) #[true, true, false, false, false, false, false, false, false, false, false, false, false, false] rfl rfl (by kernel_rfl) (fun _ _ _ h => h) (Or.inl ⟨by rfl, ?_⟩) ?_ ?_
    rotate_left
    ·intro w'
     go_simp
     with_reducible rfl
    rotate_left
    ·simp only [Act.put, List.setIfInBounds_toArray, List.set_cons_zero, List.set_cons_succ, i64_w, i32_w]
     rfl
    refine pure_ (i := 2) (N := some 15) (v := ?_) (a' := ?_) #[true, true, true, false, false, false, false, false, false, false, false, false, false, false] rfl rfl (by kernel_rfl) (fun _ _ _ h => h) (Or.inl ⟨by rfl, ?_⟩) ?_ ?_
    rotate_left
    ·intro w'
     go_simp
     with_reducible rfl
    rotate_left
    ·simp only [Act.put, List.setIfInBounds_toArray, List.set_cons_zero, List.set_cons_succ, i64_w, i32_w]
     rfl
    refine pure_ (i := 3) (N := some 16) (v := ?_) (a' := ?_) #[true, true, true, true, false, false, false, false, false, false, false, false, false, false] rfl rfl (by kernel_rfl) (fun _ _ _ h => h) (Or.inl ⟨by rfl, ?_⟩) ?_ ?_
    rotate_left
    ·intro w'
     go_simp
     with_reducible rfl
    rotate_left
    ·simp only [Act.put, List.setIfInBounds_toArray, List.set_cons_zero, List.set_cons_succ, i64_w, i32_w]
     rfl
    refine pure_ (i := 5) (N := some 18) (v := ?_) (a' := ?_) #[true, true, true, true, false, true, false, false, false, false, false, false, false, false] rfl rfl (by kernel_rfl) (fun _ _ _ h => h) (Or.inl ⟨by rfl, ?_⟩) ?_ ?_
    rotate_left
    ·intro w'
     go_simp
     with_reducible rfl
    rotate_left
    ·simp only [Act.put, List.setIfInBounds_toArray, List.set_cons_zero, List.set_cons_succ, i64_w, i32_w]
     rfl
    refine take_ (i := 4) (N := some 17) (v := ?_) (a' := ?_) #[true, true, true, true, true, true, false, false, false, false, false, false, false, false] rfl rfl (by kernel_rfl) (fun _ _ _ h => h) (Or.inl ⟨by rfl, ?_⟩) hHeld ?_ ?_
    rotate_left
    ·intro w' s0
     go_simp
     with_reducible rfl
    rotate_left
    ·simp only [Act.put, List.setIfInBounds_toArray, List.set_cons_zero, List.set_cons_succ, i64_w, i32_w]
     rfl
    refine one_ (i := 6) (N := some 19) #[true, true, true, true, true, true, true, false, false, false, false, false, false, false] rfl rfl (by kernel_rfl) (by decide) (fun K hK => ?_)
    refine goes_ Tryd.func46 (by kernel_rfl) rfl #[.pointer (some ⟨g, 0, none⟩)] (by rfl) rfl rfl (by simp only [List.map_toArray, List.map_cons, List.map_nil]; rfl) ?_
    with_reducible refine (d_reader_now.calls g t260 t261 t262 t263 t264 t265 t266 t267 t268 t269 t270 t271 t272 t273 t274 t275 t276 t277 t278 t279 t280 t281 t282 w0 _ HI0.out HB.out A8.out).mono ?_
    rintro e w13b ⟨rfl, hi, hb, hk⟩
    refine ⟨_, rfl, ?_⟩
    have n0_ := am (KeepBut.trans HK.out hk (.inl rfl)); have n1_ := am hb; have n2_ := am hi
    clear HK HB HI0; have HK := n0_; have HB := n1_; have HI0 := n2_; clear n0_ n1_ n2_; clear hb hk hi
    refine hK.out _ _ (cellS70_6 (And.left HI0.out)) (fun hHeld => ?_)
    clear hK K
    refine norm_ (a' := ?_) ?_ ?_
    rotate_left
    ·show Act.put _ (some 19) _ = _
     simp only [Act.put, List.setIfInBounds_toArray, List.set_cons_zero, List.set_cons_succ, i64_w, i32_w]
     rfl
    refine one_ (i := 7) (N := some 20) #[true, true, true, true, true, true, true, true, false, false, false, false, false, false] rfl rfl (by kernel_rfl) (by decide) (fun K hK => ?_)
    refine goes_ Tryd.func25 (by kernel_rfl) rfl #[.string (⟨#[45, 43, 32, 35, 48]⟩ : ByteArray), .int .u8 t271] (by rfl) rfl rfl (by simp only [List.map_toArray, List.map_cons, List.map_nil]; rfl) ?_
    with_reducible refine (xIndexByte.calls (⟨#[45, 43, 32, 35, 48]⟩ : ByteArray) t271 t283 _ A9.out).mono ?_
    rintro e w14b ⟨rfl, hb⟩
    refine ⟨_, rfl, ?_⟩
    have n0_ := am (KeepBut.trans HK.out (KeepBut.of_below hb g none) (.inl rfl)); have n1_ := am (below_step HB.out hb); have n2_ := am (IsS70.below HI0.out hb)
    clear HK HB HI0; have HK := n0_; have HB := n1_; have HI0 := n2_; clear n0_ n1_ n2_; clear hb
    obtain ⟨HGz15, hgz15⟩ := HI0.out
    have hcz15_0 := cellS70_0 HGz15; have hfz15_0 := blk_frozen HGz15 0; have hcz15_1 := cellS70_1 HGz15; have hfz15_1 := blk_frozen HGz15 1; have hcz15_2 := cellS70_2 HGz15; have hfz15_2 := blk_frozen HGz15 2; have hcz15_3 := cellS70_3 HGz15; have hfz15_3 := blk_frozen HGz15 3; have hcz15_4 := cellS70_4 HGz15; have hfz15_4 := blk_frozen HGz15 4; have hcz15_5 := cellS70_5 HGz15; have hfz15_5 := blk_frozen HGz15 5; have hcz15_6 := cellS70_6 HGz15; have hfz15_6 := blk_frozen HGz15 6; have hcz15_7 := cellS70_7 HGz15; have hfz15_7 := blk_frozen HGz15 7; have hcz15_8 := cellS70_8 HGz15; have hfz15_8 := blk_frozen HGz15 8; have hcz15_9 := cellS70_9 HGz15; have hfz15_9 := blk_frozen HGz15 9; have hcz15_10 := cellS70_10 HGz15; have hfz15_10 := blk_frozen HGz15 10
    clear HGz15 hgz15
    refine hK.out _ _ (hcz15_6) (fun hHeld => ?_)
    clear hK K
    refine norm_ (a' := ?_) ?_ ?_
    rotate_left
    ·show Act.put _ (some 20) _ = _
     simp only [Act.put, List.setIfInBounds_toArray, List.set_cons_zero, List.set_cons_succ, i64_w, i32_w]
     rfl
    refine pure_ (i := 8) (N := some 21) (v := ?_) (a' := ?_) #[true, true, true, true, true, true, true, true, true, false, false, false, false, false] rfl rfl (by kernel_rfl) (fun _ _ _ h => h) (Or.inl ⟨by rfl, ?_⟩) ?_ ?_
    rotate_left
    ·intro w'
     go_simp
     with_reducible rfl
    rotate_left
    ·simp only [Act.put, List.setIfInBounds_toArray, List.set_cons_zero, List.set_cons_succ, i64_w, i32_w]
     rfl
    refine pure_ (i := 9) (N := some 22) (v := ?_) (a' := ?_) #[true, true, true, true, true, true, true, true, true, true, false, false, false, false] rfl rfl (by kernel_rfl) (fun _ _ _ h => h) (Or.inl ⟨by rfl, ?_⟩) ?_ ?_
    rotate_left
    ·intro w'
     go_simp
     with_reducible rfl
    rotate_left
    ·simp only [Act.put, List.setIfInBounds_toArray, List.set_cons_zero, List.set_cons_succ, i64_w, i32_w]
     rfl
    refine pure_ (i := 10) (N := some 23) (v := ?_) (a' := ?_) #[true, true, true, true, true, true, true, true, true, true, true, false, false, false] rfl rfl (by kernel_rfl) (fun _ _ _ h => h) (Or.inl ⟨by rfl, ?_⟩) ?_ ?_
    rotate_left
    ·intro w'
     go_simp
     with_reducible rfl
    rotate_left
    ·simp only [Act.put, List.setIfInBounds_toArray, List.set_cons_zero, List.set_cons_succ, i64_w, i32_w]
     rfl
    refine pure_ (i := 11) (N := some 24) (v := ?_) (a' := ?_) #[true, true, true, true, true, true, true, true, true, true, true, true, false, false] rfl rfl (by kernel_rfl) (fun _ _ _ h => h) (Or.inl ⟨by rfl, ?_⟩) ?_ ?_
    rotate_left
    ·intro w'
     go_simp
     with_reducible rfl
    rotate_left
    ·simp only [Act.put, List.setIfInBounds_toArray, List.set_cons_zero, List.set_cons_succ, i64_w, i32_w]
     rfl
    refine pure_ (i := 12) (N := some 25) (v := ?_) (a' := ?_) #[true, true, true, true, true, true, true, true, true, true, true, true, true, false] rfl rfl (by kernel_rfl) (fun _ _ _ h => h) (Or.inl ⟨by rfl, ?_⟩) ?_ ?_
    rotate_left
    ·intro w'
     go_simp
     with_reducible rfl
    rotate_left
    ·simp only [Act.put, List.setIfInBounds_toArray, List.set_cons_zero, List.set_cons_succ, i64_w, i32_w]
     rfl
    refine last_ (i := 13) (N := none) #[true, true, true, true, true, true, true, true, true, true, true, true, true, true] rfl rfl (by kernel_rfl) (by decide) (fun K hK => ?_)
    refine skip_ (w1 := ?_) (by rfl) rfl ?_ ?_
    rotate_left
    ·go_simp
     rfl
    refine hK.out _ _ ?_
    clear hK K
    refine done_ (by kernel_rfl) ?_
    go_wp2
    go_roundg k1
    case measure => have := HK1.out; omega
    case rel => exact ⟨(t272), (wrap64 (t273 + 1)), (t274), (t275), (t276), (t277), (Go.bits .or .i64 t278 (ji11)), (t279), (t280), (t281), (t282), H', ⟨by have := HK1.out; omega⟩, ⟨i7⟩, ⟨by repeat (first | (with_reducible first | exact HK.out | apply KeepBut.set_ | apply keep_drewN | apply keep_drew | apply keep_alloc) | exact HK.out)⟩, ⟨bi⟩⟩
 case rest =>
  clear HC3
  try clear c1
  try clear c2
  try clear p2
  try clear c3
  try clear c4
  try clear c5
  try clear c5b0
  try clear c5b1
  try clear p6
  try clear c7
  try clear c7b0
  try clear c7b1
  try clear c10
  try clear c10b0
  try clear c10b1
  try clear c20
  try clear c20b0
  try clear c20b1
  try clear c24
  try clear c24b0
  try clear c24b1
  try clear c25
  try clear hcz15_0 hcz15_1 hcz15_10 hcz15_2 hcz15_3 hcz15_4 hcz15_5 hcz15_6 hcz15_7 hcz15_8 hcz15_9
  try clear hcz19_0 hcz19_1 hcz19_10 hcz19_2 hcz19_3 hcz19_4 hcz19_5 hcz19_6 hcz19_7 hcz19_8 hcz19_9
  try clear hcz23_0 hcz23_1 hcz23_10 hcz23_2 hcz23_3 hcz23_4 hcz23_5 hcz23_6 hcz23_7 hcz23_8 hcz23_9
  try clear hfz15_0 hfz15_1 hfz15_10 hfz15_2 hfz15_3 hfz15_4 hfz15_5 hfz15_6 hfz15_7 hfz15_8 hfz15_9
  try clear hfz19_0 hfz19_1 hfz19_10 hfz19_2 hfz19_3 hfz19_4 hfz19_5 hfz19_6 hfz19_7 hfz19_8 hfz19_9
  try clear hfz23_0 hfz23_1 hfz23_10 hfz23_2 hfz23_3 hfz23_4 hfz23_5 hfz23_6 hfz23_7 hfz23_8 hfz23_9
  try clear p2
  obtain ⟨kq, x1000_2, x1001_2, x1002_2, x1003_2, x1004_2, x1005_2, x1006_2, x1007_2, x1008_2, x1009_2, x1010_2, HA, HJ2, HI0, HK, HB⟩ := hcut
  cases kq with
  | zero => exact absurd HA.out (by simp [d_reader_read.j1])
  | succ kj2 =>
   have H := HA.out
   clear HA
   simp only [d_reader_read.j1] at H
   replace H := Option.bind_eq_some_iff.mp H
   obtain ⟨⟨t297, t298, t299, t300, t301, t302, t303, t304, t305, t306, t307, t308⟩, A270, H⟩ := H
   replace H : (if t297 = 46 then ((d_reader_number.f kj2 t298 (wrap64 (t299 + 1)) t300 t301 t302 t303 t304 t305 t306 t307 t308 1).bind fun bt309 => ((d_reader_verb.f bt309.2.2.1 bt309.2.2.2.1 bt309.2.2.2.2.1 bt309.2.2.2.2.2.1 bt309.2.2.2.2.2.2.1 bt309.2.2.2.2.2.2.2.1 bt309.2.2.2.2.2.2.2.2.1 bt309.2.2.2.2.2.2.2.2.2.1 bt309.2.2.2.2.2.2.2.2.2.2.1 bt309.1 bt309.2.1).bind fun bt322 => (some (bt322.1, bt322.2.1, bt322.2.2.1, bt322.2.2.2.1, bt322.2.2.2.2.1, bt322.2.2.2.2.2.1, bt322.2.2.2.2.2.2.1, bt322.2.2.2.2.2.2.2.1, bt322.2.2.2.2.2.2.2.2.1, bt322.2.2.2.2.2.2.2.2.2.1, bt322.2.2.2.2.2.2.2.2.2.2)))) else ((d_reader_verb.f t298 t299 t300 t301 t302 t303 t304 t305 t306 t307 t308).bind fun bt333 => (some (bt333.1, bt333.2.1, bt333.2.2.1, bt333.2.2.2.1, bt333.2.2.2.2.1, bt333.2.2.2.2.2.1, bt333.2.2.2.2.2.2.1, bt333.2.2.2.2.2.2.2.1, bt333.2.2.2.2.2.2.2.2.1, bt333.2.2.2.2.2.2.2.2.2.1, bt333.2.2.2.2.2.2.2.2.2.2)))) = some (r1, r2, r3, r4, r5, r6, r7, r8, r9, r10, r11) := H
   have A27 := am A270
   clear A270
   by_cases c28 : t297 = 46
   rotate_left
   ·rw [if_neg c28] at H
    have c28b0 : (t297 == 46) = false := beq_eq_false_iff_ne.mpr c28
    have c28b1 : (t297 != 46) = true := bne_iff_ne.mpr c28
    replace H := Option.bind_eq_some_iff.mp H
    obtain ⟨⟨t333, t334, t335, t336, t337, t338, t339, t340, t341, t342, t343⟩, A360, H⟩ := H
    replace H : (some (t333, t334, t335, t336, t337, t338, t339, t340, t341, t342, t343)) = some (r1, r2, r3, r4, r5, r6, r7, r8, r9, r10, r11) := H
    have A36 := am A360
    clear A360
    simp only [Option.some.injEq, Prod.mk.injEq] at H
    obtain ⟨rfl, rfl, rfl, rfl, rfl, rfl, rfl, rfl, rfl, rfl, rfl⟩ := H
    go_wp2_with (first | ((with_reducible refine gate_callee (f := 46) rfl ?_); refine goesL_ (some 47) rfl rfl Tryd.func46 (by kernel_rfl) rfl #[.pointer (some ⟨g, 0, none⟩)] rfl ls ?_; (with_reducible refine (d_reader_now.calls g x1000_2 x1001_2 x1002_2 x1003_2 x1004_2 x1005_2 x1006_2 x1007_2 x1008_2 x1009_2 x1010_2 t297 t298 t299 t300 t301 t302 t303 t304 t305 t306 t307 t308 w0 _ ?side1 ?side2 A27.out).mono ?_); (case side1 => exact i7); (case side2 => exact bi); rintro e w37 ⟨rfl, hi, hb, hk⟩; refine ⟨_, rfl, ?_⟩; have n0_ := am (KeepBut.trans kb hk (.inl rfl)); have n1_ := am (hb); have n2_ := am (hi); clear HK; clear HB; clear HI0; have HK := n0_; have HB := n1_; have HI0 := n2_; clear n0_ n1_ n2_; (try clear hb); (try clear hb2); (try clear hk); (try clear hi)) | ((with_reducible refine gate_callee (f := 48) rfl ?_); refine goesL_ (some 70) rfl rfl Tryd.func48 (by kernel_rfl) rfl #[.pointer (some ⟨g, 0, none⟩)] rfl ls ?_; (with_reducible refine (d_reader_verb.calls g t298 t299 t300 t301 t302 t303 t304 t305 t306 t307 t308 t333 t334 t335 t336 t337 t338 t339 t340 t341 t342 t343 w0 _ ?side1 ?side2 A36.out).mono ?_); (case side1 => exact i7); (case side2 => exact bi); rintro e w38 ⟨rfl, hi, hb, hk⟩; refine ⟨_, rfl, ?_⟩; have n0_ := am (KeepBut.trans kb hk (.inl rfl)); have n1_ := am (hb); have n2_ := am (hi); clear HK; clear HB; clear HI0; have HK := n0_; have HB := n1_; have HI0 := n2_; clear n0_ n1_ n2_; (try clear hb); (try clear hb2); (try clear hk); (try clear hi)))
    first | go_end0 | ((try simp only [Exit.inBlock, Exit.then]); refine bodyPost_ret (results_none rfl _ _ _) rfl ?_)
    exact ⟨er, i7, bi, by repeat (first | (with_reducible first | exact HK.out | apply KeepBut.set_ | apply keep_drewN | apply keep_drew | apply keep_alloc) | exact HK.out)⟩
   rw [if_pos c28] at H
   have c28b0 : (t297 == 46) = true := beq_iff_eq.mpr c28
   have c28b1 : (t297 != 46) = false := bne_eq_false_iff_eq.mpr c28
   clear c28
   replace H := Option.bind_eq_some_iff.mp H
   obtain ⟨⟨t309, t310, t311, t312, t313, t314, t315, t316, t317, t318, t319, t320, t321⟩, A290, H⟩ := H
   replace H : ((d_reader_verb.f t311 t312 t313 t314 t315 t316 t317 t318 t319 t309 t310).bind fun bt322 => (some (bt322.1, bt322.2.1, bt322.2.2.1, bt322.2.2.2.1, bt322.2.2.2.2.1, bt322.2.2.2.2.2.1, bt322.2.2.2.2.2.2.1, bt322.2.2.2.2.2.2.2.1, bt322.2.2.2.2.2.2.2.2.1, bt322.2.2.2.2.2.2.2.2.2.1, bt322.2.2.2.2.2.2.2.2.2.2))) = some (r1, r2, r3, r4, r5, r6, r7, r8, r9, r10, r11) := H
   have A29 := am A290
   clear A290
   replace H := Option.bind_eq_some_iff.mp H
   obtain ⟨⟨t322, t323, t324, t325, t326, t327, t328, t329, t330, t331, t332⟩, A300, H⟩ := H
   replace H : (some (t322, t323, t324, t325, t326, t327, t328, t329, t330, t331, t332)) = some (r1, r2, r3, r4, r5, r6, r7, r8, r9, r10, r11) := H
   have A30 := am A300
   clear A300
   simp only [Option.some.injEq, Prod.mk.injEq] at H
   obtain ⟨rfl, rfl, rfl, rfl, rfl, rfl, rfl, rfl, rfl, rfl, rfl⟩ := H
   go_wp2_with (first | ((with_reducible refine gate_callee (f := 46) rfl ?_); refine goesL_ (some 47) rfl rfl Tryd.func46 (by kernel_rfl) rfl #[.pointer (some ⟨g, 0, none⟩)] rfl ls ?_; (with_reducible refine (d_reader_now.calls g x1000_2 x1001_2 x1002_2 x1003_2 x1004_2 x1005_2 x1006_2 x1007_2 x1008_2 x1009_2 x1010_2 t297 t298 t299 t300 t301 t302 t303 t304 t305 t306 t307 t308 w0 _ ?side1 ?side2 A27.out).mono ?_); (case side1 => exact i7); (case side2 => exact bi); rintro e w31 ⟨rfl, hi, hb, hk⟩; refine ⟨_, rfl, ?_⟩; have n0_ := am (KeepBut.trans kb hk (.inl rfl)); have n1_ := am (hb); have n2_ := am (hi); clear HK; clear HB; clear HI0; have HK := n0_; have HB := n1_; have HI0 := n2_; clear n0_ n1_ n2_; (try clear hb); (try clear hb2); (try clear hk); (try clear hi); obtain ⟨HGz32, hgz32⟩ := HI0.out; have hcz32_0 := cellS70_0 HGz32; have hcz32_1 := cellS70_1 HGz32; have hcz32_2 := cellS70_2 HGz32; have hcz32_3 := cellS70_3 HGz32; have hcz32_4 := cellS70_4 HGz32; have hcz32_5 := cellS70_5 HGz32; have hcz32_6 := cellS70_6 HGz32; have hcz32_7 := cellS70_7 HGz32; have hcz32_8 := cellS70_8 HGz32; have hcz32_9 := cellS70_9 HGz32; have hcz32_10 := cellS70_10 HGz32; have hfz32_0 := blk_frozen HGz32 0; have hfz32_1 := blk_frozen HGz32 1; have hfz32_2 := blk_frozen HGz32 2; have hfz32_3 := blk_frozen HGz32 3; have hfz32_4 := blk_frozen HGz32 4; have hfz32_5 := blk_frozen HGz32 5; have hfz32_6 := blk_frozen HGz32 6; have hfz32_7 := blk_frozen HGz32 7; have hfz32_8 := blk_frozen HGz32 8; have hfz32_9 := blk_frozen HGz32 9; have hfz32_10 := blk_frozen HGz32 10; clear HGz32 hgz32) | ((with_reducible refine gate_callee (f := 47) rfl ?_); refine goesL_ (some 60) rfl rfl Tryd.func47 (by kernel_rfl) rfl #[.pointer (some ⟨g, 0, none⟩), .int .i64 1] rfl ls ?_; (with_reducible refine (d_reader_number.calls kj2 g t298 (wrap64 (t299 + 1)) t300 t301 t302 t303 t304 t305 t306 t307 t308 1 t309 t310 t311 t312 t313 t314 t315 t316 t317 t318 t319 t320 t321 w0 _ ?side1 ?side2 A29.out).mono ?_); (case side1 => exact i7); (case side2 => exact bi); rintro e w33 ⟨rfl, hi, hb, hk⟩; refine ⟨_, rfl, ?_⟩; have n0_ := am (KeepBut.trans kb hk (.inl rfl)); have n1_ := am (hb); have n2_ := am (hi); clear HK; clear HB; clear HI0; have HK := n0_; have HB := n1_; have HI0 := n2_; clear n0_ n1_ n2_; (try clear hb); (try clear hb2); (try clear hk); (try clear hi); obtain ⟨HGz34, hgz34⟩ := HI0.out; have hcz34_0 := cellS70_0 HGz34; have hcz34_1 := cellS70_1 HGz34; have hcz34_2 := cellS70_2 HGz34; have hcz34_3 := cellS70_3 HGz34; have hcz34_4 := cellS70_4 HGz34; have hcz34_5 := cellS70_5 HGz34; have hcz34_6 := cellS70_6 HGz34; have hcz34_7 := cellS70_7 HGz34; have hcz34_8 := cellS70_8 HGz34; have hcz34_9 := cellS70_9 HGz34; have hcz34_10 := cellS70_10 HGz34; have hfz34_0 := blk_frozen HGz34 0; have hfz34_1 := blk_frozen HGz34 1; have hfz34_2 := blk_frozen HGz34 2; have hfz34_3 := blk_frozen HGz34 3; have hfz34_4 := blk_frozen HGz34 4; have hfz34_5 := blk_frozen HGz34 5; have hfz34_6 := blk_frozen HGz34 6; have hfz34_7 := blk_frozen HGz34 7; have hfz34_8 := blk_frozen HGz34 8; have hfz34_9 := blk_frozen HGz34 9; have hfz34_10 := blk_frozen HGz34 10; clear HGz34 hgz34) | ((with_reducible refine gate_callee (f := 48) rfl ?_); refine goesL_ (some 70) rfl rfl Tryd.func48 (by kernel_rfl) rfl #[.pointer (some ⟨g, 0, none⟩)] rfl ls ?_; (with_reducible refine (d_reader_verb.calls g t311 t312 t313 t314 t315 t316 t317 t318 t319 t309 t310 t322 t323 t324 t325 t326 t327 t328 t329 t330 t331 t332 w0 _ ?side1 ?side2 A30.out).mono ?_); (case side1 => exact i7); (case side2 => exact bi); rintro e w35 ⟨rfl, hi, hb, hk⟩; refine ⟨_, rfl, ?_⟩; have n0_ := am (KeepBut.trans kb hk (.inl rfl)); have n1_ := am (hb); have n2_ := am (hi); clear HK; clear HB; clear HI0; have HK := n0_; have HB := n1_; have HI0 := n2_; clear n0_ n1_ n2_; (try clear hb); (try clear hb2); (try clear hk); (try clear hi)))
   first | go_end0 | ((try simp only [Exit.inBlock, Exit.then]); refine bodyPost_ret (results_none rfl _ _ _) rfl ?_)
   exact ⟨er, i7, bi, by repeat (first | (with_reducible first | exact HK.out | apply KeepBut.set_ | apply keep_drewN | apply keep_drew | apply keep_alloc) | exact HK.out)⟩
end Go.Proofs.YtlmijjekaelhcaaDoor.EDi
