/-
  Several texts of this session's own in one: EScanx43 EScanx44.
-/
import Derived.Test.YtcgjfckhnpimbaaDoorEScanx0
import Derived.Test.YtcgjfckhnpimbaaDoorEScanyB
import Derived.Test.YtcgjfckhnpimbaaDoorEScanyB
import Derived.Test.YtcgjfckhnpimbaaDoorEScanyA
section
-- Written by eprint.py (a program of this session's, over the kit's print), not by hand.
namespace Go.Proofs.YtcgjfckhnpimbaaDoor.EScan
open Go.RowKit Go.Proofs.YtcgjfckhnpimbaaDoorW.PrintWords Go.Proofs.YtcgjfckhnpimbaaDoorW.PrintLast Go.Proofs.YtcgjfckhnpimbaaDoorW.PrintMore
attribute [local go_sem] max2_int min2_int max_two min_two max_three min_three max_four min_four   -- for this text's walks alone
set_option linter.unusedVariables false
set_option linter.unusedSimpArgs false

/-! ### abacusref08_Cmp: function 38 -/
mutual
def abacusref08_Cmp.j0 : Nat → Bool → Bool → ByteArray → Int → Bool → ByteArray → Int → Option (Int × Int)
  | 0, _, _, _, _, _, _, _ => none
  | k + 1, x25, x388000, x388001, x388002, x393000, x393001, x393002 => if x25 = true then (some (0, 80)) else (if x388001.toList = ([48] : List UInt8) then (abacusref08_Cmp.j1 k false x388001 x388002 x393000 x393001 x393002) else (abacusref08_Cmp.j1 k x388000 x388001 x388002 x393000 x393001 x393002))
def abacusref08_Cmp.j1 : Nat → Bool → ByteArray → Int → Bool → ByteArray → Int → Option (Int × Int)
  | 0, _, _, _, _, _, _ => none
  | k + 1, x388000, x388001, x388002, x393000, x393001, x393002 => if x393001.toList = ([48] : List UInt8) then (abacusref08_Cmp.j2 k x388000 x388001 x388002 false x393001 x393002) else (abacusref08_Cmp.j2 k x388000 x388001 x388002 x393000 x393001 x393002)
def abacusref08_Cmp.j2 : Nat → Bool → ByteArray → Int → Bool → ByteArray → Int → Option (Int × Int)
  | 0, _, _, _, _, _, _ => none
  | k + 1, x388000, x388001, x388002, x393000, x393001, x393002 => if x388000 = true then (abacusref08_Cmp.j3 k (!x393000) x388000 x388001 x388002 x393000 x393001 x393002) else (abacusref08_Cmp.j3 k false x388000 x388001 x388002 x393000 x393001 x393002)
def abacusref08_Cmp.j3 : Nat → Bool → Bool → ByteArray → Int → Bool → ByteArray → Int → Option (Int × Int)
  | 0, _, _, _, _, _, _, _ => none
  | k + 1, x34, x388000, x388001, x388002, x393000, x393001, x393002 => if x34 = true then (some ((-1), 0)) else (if x388000 = true then (abacusref08_Cmp.j4 k false x388000 x388001 x388002 x393000 x393001 x393002) else (abacusref08_Cmp.j4 k x393000 x388000 x388001 x388002 x393000 x393001 x393002))
def abacusref08_Cmp.j4 : Nat → Bool → Bool → ByteArray → Int → Bool → ByteArray → Int → Option (Int × Int)
  | 0, _, _, _, _, _, _, _ => none
  | k + 1, x42, x388000, x388001, x388002, x393000, x393001, x393002 => if x42 = true then (some (1, 0)) else (if x388000 = true then ((abacusref08_size.f k x393000 x393001 x393002 x388000 x388001 x388002).bind fun t393 => (some (t393, 0))) else ((abacusref08_size.f k x388000 x388001 x388002 x393000 x393001 x393002).bind fun t394 => (some (t394, 0))))
end
def abacusref08_Cmp.f (k : Nat) (a0_0 : Bool) (a0_1 : ByteArray) (a0_2 : Int) (a1_0 : Bool) (a1_1 : ByteArray) (a1_2 : Int) : Option (Int × Int) := (abacusref08_Norm.f k a0_0 a0_1 a0_2).bind fun bt383 => ((abacusref08_Norm.f k a1_0 a1_1 a1_2).bind fun bt388 => (if bt383.2.2.2 = 0 then (abacusref08_Cmp.j0 k (bt388.2.2.2 != 0) bt383.1 bt383.2.1 bt383.2.2.1 bt388.1 bt388.2.1 bt388.2.2.1) else (abacusref08_Cmp.j0 k true bt383.1 bt383.2.1 bt383.2.2.1 bt388.1 bt388.2.1 bt388.2.2.1)))
theorem abacusref08_Cmp.mono_l : ∀ k, (∀ y0 y1 y2 y3 y4 y5 y6, LeO (abacusref08_Cmp.j0 k y0 y1 y2 y3 y4 y5 y6) (abacusref08_Cmp.j0 (k + 1) y0 y1 y2 y3 y4 y5 y6)) ∧ (∀ y0 y1 y2 y3 y4 y5, LeO (abacusref08_Cmp.j1 k y0 y1 y2 y3 y4 y5) (abacusref08_Cmp.j1 (k + 1) y0 y1 y2 y3 y4 y5)) ∧ (∀ y0 y1 y2 y3 y4 y5, LeO (abacusref08_Cmp.j2 k y0 y1 y2 y3 y4 y5) (abacusref08_Cmp.j2 (k + 1) y0 y1 y2 y3 y4 y5)) ∧ (∀ y0 y1 y2 y3 y4 y5 y6, LeO (abacusref08_Cmp.j3 k y0 y1 y2 y3 y4 y5 y6) (abacusref08_Cmp.j3 (k + 1) y0 y1 y2 y3 y4 y5 y6)) ∧ (∀ y0 y1 y2 y3 y4 y5 y6, LeO (abacusref08_Cmp.j4 k y0 y1 y2 y3 y4 y5 y6) (abacusref08_Cmp.j4 (k + 1) y0 y1 y2 y3 y4 y5 y6))
  | 0 => ⟨fun _ _ _ _ _ _ _ r h => by simp [abacusref08_Cmp.j0] at h, fun _ _ _ _ _ _ r h => by simp [abacusref08_Cmp.j1] at h, fun _ _ _ _ _ _ r h => by simp [abacusref08_Cmp.j2] at h, fun _ _ _ _ _ _ _ r h => by simp [abacusref08_Cmp.j3] at h, fun _ _ _ _ _ _ _ r h => by simp [abacusref08_Cmp.j4] at h⟩
  | k + 1 => by
    obtain ⟨ih0, ih1, ih2, ih3, ih4⟩ := abacusref08_Cmp.mono_l k
    refine ⟨?_, ?_, ?_, ?_, ?_⟩
    · intro y0 y1 y2 y3 y4 y5 y6
      unfold abacusref08_Cmp.j0
      repeat' first
      | (with_reducible exact ih0 _ _ _ _ _ _ _)
      | (with_reducible exact ih1 _ _ _ _ _ _)
      | (with_reducible exact ih2 _ _ _ _ _ _)
      | (with_reducible exact ih3 _ _ _ _ _ _ _)
      | (with_reducible exact ih4 _ _ _ _ _ _ _)
      | (with_reducible exact abacusref08_Norm.mono _ _ _ _)
      | (with_reducible exact abacusref08_size.mono _ _ _ _ _ _ _)
      | (with_reducible exact LeO.refl _)
      | (with_reducible exact LeO.none _)
      | (with_reducible refine LeO.ite ?_ ?_)
      | (with_reducible refine LeO.bind ?_ (fun _ => ?_))
      | exact ih0 _ _ _ _ _ _ _
      | exact ih1 _ _ _ _ _ _
      | exact ih2 _ _ _ _ _ _
      | exact ih3 _ _ _ _ _ _ _
      | exact ih4 _ _ _ _ _ _ _
      | exact abacusref08_Norm.mono _ _ _ _
      | exact abacusref08_size.mono _ _ _ _ _ _ _
      | exact LeO.none _
      | refine LeO.ite ?_ ?_
      | refine LeO.bind ?_ (fun _ => ?_)
    · intro y0 y1 y2 y3 y4 y5
      unfold abacusref08_Cmp.j1
      repeat' first
      | (with_reducible exact ih0 _ _ _ _ _ _ _)
      | (with_reducible exact ih1 _ _ _ _ _ _)
      | (with_reducible exact ih2 _ _ _ _ _ _)
      | (with_reducible exact ih3 _ _ _ _ _ _ _)
      | (with_reducible exact ih4 _ _ _ _ _ _ _)
      | (with_reducible exact abacusref08_Norm.mono _ _ _ _)
      | (with_reducible exact abacusref08_size.mono _ _ _ _ _ _ _)
      | (with_reducible exact LeO.refl _)
      | (with_reducible exact LeO.none _)
      | (with_reducible refine LeO.ite ?_ ?_)
      | (with_reducible refine LeO.bind ?_ (fun _ => ?_))
      | exact ih0 _ _ _ _ _ _ _
      | exact ih1 _ _ _ _ _ _
      | exact ih2 _ _ _ _ _ _
      | exact ih3 _ _ _ _ _ _ _
      | exact ih4 _ _ _ _ _ _ _
      | exact abacusref08_Norm.mono _ _ _ _
      | exact abacusref08_size.mono _ _ _ _ _ _ _
      | exact LeO.none _
      | refine LeO.ite ?_ ?_
      | refine LeO.bind ?_ (fun _ => ?_)
    · intro y0 y1 y2 y3 y4 y5
      unfold abacusref08_Cmp.j2
      repeat' first
      | (with_reducible exact ih0 _ _ _ _ _ _ _)
      | (with_reducible exact ih1 _ _ _ _ _ _)
      | (with_reducible exact ih2 _ _ _ _ _ _)
      | (with_reducible exact ih3 _ _ _ _ _ _ _)
      | (with_reducible exact ih4 _ _ _ _ _ _ _)
      | (with_reducible exact abacusref08_Norm.mono _ _ _ _)
      | (with_reducible exact abacusref08_size.mono _ _ _ _ _ _ _)
      | (with_reducible exact LeO.refl _)
      | (with_reducible exact LeO.none _)
      | (with_reducible refine LeO.ite ?_ ?_)
      | (with_reducible refine LeO.bind ?_ (fun _ => ?_))
      | exact ih0 _ _ _ _ _ _ _
      | exact ih1 _ _ _ _ _ _
      | exact ih2 _ _ _ _ _ _
      | exact ih3 _ _ _ _ _ _ _
      | exact ih4 _ _ _ _ _ _ _
      | exact abacusref08_Norm.mono _ _ _ _
      | exact abacusref08_size.mono _ _ _ _ _ _ _
      | exact LeO.none _
      | refine LeO.ite ?_ ?_
      | refine LeO.bind ?_ (fun _ => ?_)
    · intro y0 y1 y2 y3 y4 y5 y6
      unfold abacusref08_Cmp.j3
      repeat' first
      | (with_reducible exact ih0 _ _ _ _ _ _ _)
      | (with_reducible exact ih1 _ _ _ _ _ _)
      | (with_reducible exact ih2 _ _ _ _ _ _)
      | (with_reducible exact ih3 _ _ _ _ _ _ _)
      | (with_reducible exact ih4 _ _ _ _ _ _ _)
      | (with_reducible exact abacusref08_Norm.mono _ _ _ _)
      | (with_reducible exact abacusref08_size.mono _ _ _ _ _ _ _)
      | (with_reducible exact LeO.refl _)
      | (with_reducible exact LeO.none _)
      | (with_reducible refine LeO.ite ?_ ?_)
      | (with_reducible refine LeO.bind ?_ (fun _ => ?_))
      | exact ih0 _ _ _ _ _ _ _
      | exact ih1 _ _ _ _ _ _
      | exact ih2 _ _ _ _ _ _
      | exact ih3 _ _ _ _ _ _ _
      | exact ih4 _ _ _ _ _ _ _
      | exact abacusref08_Norm.mono _ _ _ _
      | exact abacusref08_size.mono _ _ _ _ _ _ _
      | exact LeO.none _
      | refine LeO.ite ?_ ?_
      | refine LeO.bind ?_ (fun _ => ?_)
    · intro y0 y1 y2 y3 y4 y5 y6
      unfold abacusref08_Cmp.j4
      repeat' first
      | (with_reducible exact ih0 _ _ _ _ _ _ _)
      | (with_reducible exact ih1 _ _ _ _ _ _)
      | (with_reducible exact ih2 _ _ _ _ _ _)
      | (with_reducible exact ih3 _ _ _ _ _ _ _)
      | (with_reducible exact ih4 _ _ _ _ _ _ _)
      | (with_reducible exact abacusref08_Norm.mono _ _ _ _)
      | (with_reducible exact abacusref08_size.mono _ _ _ _ _ _ _)
      | (with_reducible exact LeO.refl _)
      | (with_reducible exact LeO.none _)
      | (with_reducible refine LeO.ite ?_ ?_)
      | (with_reducible refine LeO.bind ?_ (fun _ => ?_))
      | exact ih0 _ _ _ _ _ _ _
      | exact ih1 _ _ _ _ _ _
      | exact ih2 _ _ _ _ _ _
      | exact ih3 _ _ _ _ _ _ _
      | exact ih4 _ _ _ _ _ _ _
      | exact abacusref08_Norm.mono _ _ _ _
      | exact abacusref08_size.mono _ _ _ _ _ _ _
      | exact LeO.none _
      | refine LeO.ite ?_ ?_
      | refine LeO.bind ?_ (fun _ => ?_)
theorem abacusref08_Cmp.mono : ∀ a0 a1 a2 a3 a4 a5 k, LeO (abacusref08_Cmp.f k a0 a1 a2 a3 a4 a5) (abacusref08_Cmp.f (k + 1) a0 a1 a2 a3 a4 a5) := by
  intro a0 a1 a2 a3 a4 a5 k
  obtain ⟨ih0, ih1, ih2, ih3, ih4⟩ := abacusref08_Cmp.mono_l k
  unfold abacusref08_Cmp.f
  repeat' first
      | (with_reducible exact ih0 _ _ _ _ _ _ _)
      | (with_reducible exact ih1 _ _ _ _ _ _)
      | (with_reducible exact ih2 _ _ _ _ _ _)
      | (with_reducible exact ih3 _ _ _ _ _ _ _)
      | (with_reducible exact ih4 _ _ _ _ _ _ _)
      | (with_reducible exact abacusref08_Norm.mono _ _ _ _)
      | (with_reducible exact abacusref08_size.mono _ _ _ _ _ _ _)
      | (with_reducible exact LeO.refl _)
      | (with_reducible exact LeO.none _)
      | (with_reducible refine LeO.ite ?_ ?_)
      | (with_reducible refine LeO.bind ?_ (fun _ => ?_))
      | exact ih0 _ _ _ _ _ _ _
      | exact ih1 _ _ _ _ _ _
      | exact ih2 _ _ _ _ _ _
      | exact ih3 _ _ _ _ _ _ _
      | exact ih4 _ _ _ _ _ _ _
      | exact abacusref08_Norm.mono _ _ _ _
      | exact abacusref08_size.mono _ _ _ _ _ _ _
      | exact LeO.none _
      | refine LeO.ite ?_ ?_
      | refine LeO.bind ?_ (fun _ => ?_)
set_option maxHeartbeats 8000000 in
set_option maxRecDepth 100000 in
theorem abacusref08_Cmp.calls (k : Nat) (a0_0 : Bool) (a0_1 : ByteArray) (a0_2 : Int) (a1_0 : Bool) (a1_1 : ByteArray) (a1_2 : Int) (r1 : Int) (r2 : Int) (w : World) (h : abacusref08_Cmp.f k a0_0 a0_1 a0_2 a1_0 a1_1 a1_2 = some (r1, r2)) :
    Calls Tryd.prog 38 #[.agg #[.bool a0_0, .string a0_1, .int .i64 a0_2], .agg #[.bool a1_0, .string a1_1, .int .i64 a1_2]] w fun e w' => e = .returned (.tuple #[.int .i64 r1, .int .i64 r2]) ∧ Below w.heap.size w w' := by
  have hu23 := Tryd.underlying23
  have HB := Aside0.mk (Below.refl w.heap.size w)
  have H : ((abacusref08_Norm.f k a0_0 a0_1 a0_2).bind fun bt383 => ((abacusref08_Norm.f k a1_0 a1_1 a1_2).bind fun bt388 => (if bt383.2.2.2 = 0 then (abacusref08_Cmp.j0 k (bt388.2.2.2 != 0) bt383.1 bt383.2.1 bt383.2.2.1 bt388.1 bt388.2.1 bt388.2.2.1) else (abacusref08_Cmp.j0 k true bt383.1 bt383.2.1 bt383.2.2.1 bt388.1 bt388.2.1 bt388.2.2.1)))) = some (r1, r2) := h
  clear h
  replace H := Option.bind_eq_some_iff.mp H
  obtain ⟨⟨t383, t384, t385, t386⟩, A30, H⟩ := H
  replace H : ((abacusref08_Norm.f k a1_0 a1_1 a1_2).bind fun bt388 => (if t386 = 0 then (abacusref08_Cmp.j0 k (bt388.2.2.2 != 0) t383 t384 t385 bt388.1 bt388.2.1 bt388.2.2.1) else (abacusref08_Cmp.j0 k true t383 t384 t385 bt388.1 bt388.2.1 bt388.2.2.1))) = some (r1, r2) := H
  have A3 := Aside0.mk A30
  clear A30
  replace H := Option.bind_eq_some_iff.mp H
  obtain ⟨⟨t388, t389, t390, t391⟩, A40, H⟩ := H
  replace H : (if t386 = 0 then (abacusref08_Cmp.j0 k (t391 != 0) t383 t384 t385 t388 t389 t390) else (abacusref08_Cmp.j0 k true t383 t384 t385 t388 t389 t390)) = some (r1, r2) := H
  have A4 := Aside0.mk A40
  clear A40
  have HC5 := Aside0.mk H
  clear H
  go_enter Tryd.func38, Tryd.ntmps38
  go_upto_region 3 with (first | ((with_reducible refine gate_dst (N := 2) rfl ?_); refine box_event ?hg (N := 2) ?hd (cs := #[.bool a0_0, .string a0_1, .int .i64 a0_2]) (t := 23) ?hr ?_; (case hd => rfl); (case hg => rfl); (case hr => first | (go_simp; done) | (go_simp; rfl)); intro gb381 hg w6 hbox hb; have n0_ := Aside0.mk (below_step (by repeat (first | (with_reducible first | exact HB.out | apply below_alloc | apply pw_below_drewN | apply below_drew1) | exact HB.out)) hb); have n1_ := Aside0.mk (hbox); have n2_ := Aside0.mk ((by rw [hg]; exact (below_size (by repeat (first | (with_reducible first | exact HB.out | apply below_alloc | apply pw_below_drewN | apply below_drew1) | exact HB.out))) : w.heap.size ≤ gb381)); have n3_ := Aside0.mk ((by rw [hg]; exact (below_size (by repeat (first | (with_reducible first | exact HB.out | apply below_alloc | apply pw_below_drewN | apply below_drew1) | exact HB.out))) : w.heap.size ≤ gb381)); clear HB; have HB := n0_; have BK381 := n1_; have GW381 := n2_; have GE381 := n3_; clear n0_ n1_ n2_ n3_; clear hb hbox hg) | ((with_reducible refine gate_dst (N := 3) rfl ?_); refine box_event ?hg (N := 3) ?hd (cs := #[.bool a1_0, .string a1_1, .int .i64 a1_2]) (t := 23) ?hr ?_; (case hd => rfl); (case hg => rfl); (case hr => first | (go_simp; done) | (go_simp; rfl)); intro gb382 hg w7 hbox hb; have n0_ := Aside0.mk (blk_below (g := gb381) (o := .cells #[.bool a0_0, .string a0_1, .int .i64 a0_2] 23 (0, 0)) (by (with_reducible repeat (first | refine blk_drewN ?_ _ | refine blk_drew ?_ | refine blk_alloc ?_ _)); exact BK381.out) hb); have n1_ := Aside0.mk (below_step (by repeat (first | (with_reducible first | exact HB.out | apply below_alloc | apply pw_below_drewN | apply below_drew1 | refine below_set ?_ GE381.out) | exact HB.out)) hb); have n2_ := Aside0.mk (hbox); have n3_ := Aside0.mk ((by rw [hg]; exact (below_size (by repeat (first | (with_reducible first | exact HB.out | apply below_alloc | apply pw_below_drewN | apply below_drew1 | refine below_set ?_ GE381.out) | exact HB.out))) : w.heap.size ≤ gb382)); have n4_ := Aside0.mk ((by rw [hg]; exact (below_size (by repeat (first | (with_reducible first | exact HB.out | apply below_alloc | apply pw_below_drewN | apply below_drew1 | refine below_set ?_ GE381.out) | exact HB.out))) : w.heap.size ≤ gb382)); have n5_ := Aside0.mk ((by rw [hg]; exact Nat.ne_of_lt (blk_lt (g := gb381) (o := .cells #[.bool a0_0, .string a0_1, .int .i64 a0_2] 23 (0, 0)) (by (with_reducible repeat (first | refine blk_drewN ?_ _ | refine blk_drew ?_ | refine blk_alloc ?_ _)); exact BK381.out)) : gb381 ≠ gb382)); have n6_ := Aside0.mk ((by rw [hg]; exact Nat.ne_of_gt (blk_lt (g := gb381) (o := .cells #[.bool a0_0, .string a0_1, .int .i64 a0_2] 23 (0, 0)) (by (with_reducible repeat (first | refine blk_drewN ?_ _ | refine blk_drew ?_ | refine blk_alloc ?_ _)); exact BK381.out)) : gb382 ≠ gb381)); clear BK381; clear HB; have BK381 := n0_; have HB := n1_; have BK382 := n2_; have GW382 := n3_; have GE382 := n4_; have NB381_382 := n5_; have NB382_381 := n6_; clear n0_ n1_ n2_ n3_ n4_ n5_ n6_; clear hb hbox hg; have hnb8 := NB381_382.out; have hnc8 := NB382_381.out; have hcz9_0 : w7.cell? ⟨gb381, 0, none⟩ = some (.bool a0_0) := (blk_cell BK381.out 0).trans rfl; have hcz9_1 : w7.cell? ⟨gb381, 1, none⟩ = some (.string a0_1) := (blk_cell BK381.out 1).trans rfl; have hcz9_2 : w7.cell? ⟨gb381, 2, none⟩ = some (.int .i64 a0_2) := (blk_cell BK381.out 2).trans rfl; have hfz9_0 := blk_frozen BK381.out 0; have hfz9_1 := blk_frozen BK381.out 1; have hfz9_2 := blk_frozen BK381.out 2) | ((with_reducible refine gate_callee (f := 36) rfl ?_); refine goesL_ (some 12) rfl rfl Tryd.func36 (by kernel_rfl) rfl #[.agg #[.bool a0_0, .string a0_1, .int .i64 a0_2]] rfl (by (try simp only [List.map_toArray, List.map_cons, List.map_nil]); first | done | rfl | (simp only [List.length_drop, List.length_take]; rfl)) ?_; (with_reducible refine (abacusref08_Norm.calls k a0_0 a0_1 a0_2 t383 t384 t385 t386 _ A3.out).mono ?_); rintro e w10 ⟨rfl, hb⟩; refine ⟨_, rfl, ?_⟩; have n0_ := Aside0.mk (blk_below (g := gb381) (o := .cells #[.bool a0_0, .string a0_1, .int .i64 a0_2] 23 (0, 0)) (by (with_reducible repeat (first | refine blk_drewN ?_ _ | refine blk_drew ?_ | refine blk_alloc ?_ _)); exact BK381.out) hb); have n1_ := Aside0.mk (blk_below (g := gb382) (o := .cells #[.bool a1_0, .string a1_1, .int .i64 a1_2] 23 (0, 0)) (by (with_reducible repeat (first | refine blk_drewN ?_ _ | refine blk_drew ?_ | refine blk_alloc ?_ _)); exact BK382.out) hb); have n2_ := Aside0.mk (below_step (by repeat (first | (with_reducible first | exact HB.out | apply below_alloc | apply pw_below_drewN | apply below_drew1 | refine below_set ?_ GE381.out | refine below_set ?_ GE382.out) | exact HB.out)) hb); clear BK381; clear BK382; clear HB; have BK381 := n0_; have BK382 := n1_; have HB := n2_; clear n0_ n1_ n2_; (try clear hb); (try clear hb2); (try clear hk); (try clear hi)) | ((with_reducible refine gate_dst (N := 6) rfl ?_); refine box_event ?hg (N := 6) ?hd (cs := #[.bool false, .string (⟨#[]⟩ : ByteArray), .int .i64 0]) (t := 23) ?hr ?_; (case hd => rfl); (case hg => rfl); (case hr => first | (go_simp; done) | (go_simp; rfl)); intro gb387 hg w11 hbox hb; have n0_ := Aside0.mk (blk_below (g := gb381) (o := .cells #[.bool a0_0, .string a0_1, .int .i64 a0_2] 23 (0, 0)) (by (with_reducible repeat (first | refine blk_drewN ?_ _ | refine blk_drew ?_ | refine blk_alloc ?_ _)); exact BK381.out) hb); have n1_ := Aside0.mk (blk_below (g := gb382) (o := .cells #[.bool a1_0, .string a1_1, .int .i64 a1_2] 23 (0, 0)) (by (with_reducible repeat (first | refine blk_drewN ?_ _ | refine blk_drew ?_ | refine blk_alloc ?_ _)); exact BK382.out) hb); have n2_ := Aside0.mk (below_step (by repeat (first | (with_reducible first | exact HB.out | apply below_alloc | apply pw_below_drewN | apply below_drew1 | refine below_set ?_ GE381.out | refine below_set ?_ GE382.out) | exact HB.out)) hb); have n3_ := Aside0.mk (hbox); have n4_ := Aside0.mk ((by rw [hg]; exact (below_size (by repeat (first | (with_reducible first | exact HB.out | apply below_alloc | apply pw_below_drewN | apply below_drew1 | refine below_set ?_ GE381.out | refine below_set ?_ GE382.out) | exact HB.out))) : w.heap.size ≤ gb387)); have n5_ := Aside0.mk ((by rw [hg]; exact (below_size (by repeat (first | (with_reducible first | exact HB.out | apply below_alloc | apply pw_below_drewN | apply below_drew1 | refine below_set ?_ GE381.out | refine below_set ?_ GE382.out) | exact HB.out))) : w.heap.size ≤ gb387)); have n6_ := Aside0.mk ((by rw [hg]; exact Nat.ne_of_lt (blk_lt (g := gb381) (o := .cells #[.bool a0_0, .string a0_1, .int .i64 a0_2] 23 (0, 0)) (by (with_reducible repeat (first | refine blk_drewN ?_ _ | refine blk_drew ?_ | refine blk_alloc ?_ _)); exact BK381.out)) : gb381 ≠ gb387)); have n7_ := Aside0.mk ((by rw [hg]; exact Nat.ne_of_gt (blk_lt (g := gb381) (o := .cells #[.bool a0_0, .string a0_1, .int .i64 a0_2] 23 (0, 0)) (by (with_reducible repeat (first | refine blk_drewN ?_ _ | refine blk_drew ?_ | refine blk_alloc ?_ _)); exact BK381.out)) : gb387 ≠ gb381)); have n8_ := Aside0.mk ((by rw [hg]; exact Nat.ne_of_lt (blk_lt (g := gb382) (o := .cells #[.bool a1_0, .string a1_1, .int .i64 a1_2] 23 (0, 0)) (by (with_reducible repeat (first | refine blk_drewN ?_ _ | refine blk_drew ?_ | refine blk_alloc ?_ _)); exact BK382.out)) : gb382 ≠ gb387)); have n9_ := Aside0.mk ((by rw [hg]; exact Nat.ne_of_gt (blk_lt (g := gb382) (o := .cells #[.bool a1_0, .string a1_1, .int .i64 a1_2] 23 (0, 0)) (by (with_reducible repeat (first | refine blk_drewN ?_ _ | refine blk_drew ?_ | refine blk_alloc ?_ _)); exact BK382.out)) : gb387 ≠ gb382)); clear BK381; clear BK382; clear HB; have BK381 := n0_; have BK382 := n1_; have HB := n2_; have BK387 := n3_; have GW387 := n4_; have GE387 := n5_; have NB381_387 := n6_; have NB387_381 := n7_; have NB382_387 := n8_; have NB387_382 := n9_; clear n0_ n1_ n2_ n3_ n4_ n5_ n6_ n7_ n8_ n9_; clear hb hbox hg; have hnb12 := NB387_381.out; have hnc12 := NB381_387.out; have hnb13 := NB387_382.out; have hnc13 := NB382_387.out; have hcz14_0 : w11.cell? ⟨gb387, 0, none⟩ = some (.bool false) := (blk_cell BK387.out 0).trans rfl; have hcz14_1 : w11.cell? ⟨gb387, 1, none⟩ = some (.string (⟨#[]⟩ : ByteArray)) := (blk_cell BK387.out 1).trans rfl; have hcz14_2 : w11.cell? ⟨gb387, 2, none⟩ = some (.int .i64 0) := (blk_cell BK387.out 2).trans rfl; have hfz14_0 := blk_frozen BK387.out 0; have hfz14_1 := blk_frozen BK387.out 1; have hfz14_2 := blk_frozen BK387.out 2; have hcz15_0 : w11.cell? ⟨gb382, 0, none⟩ = some (.bool a1_0) := (blk_cell BK382.out 0).trans rfl; have hcz15_1 : w11.cell? ⟨gb382, 1, none⟩ = some (.string a1_1) := (blk_cell BK382.out 1).trans rfl; have hcz15_2 : w11.cell? ⟨gb382, 2, none⟩ = some (.int .i64 a1_2) := (blk_cell BK382.out 2).trans rfl; have hfz15_0 := blk_frozen BK382.out 0; have hfz15_1 := blk_frozen BK382.out 1; have hfz15_2 := blk_frozen BK382.out 2) | ((with_reducible refine gate_callee (f := 36) rfl ?_); refine goesL_ (some 17) rfl rfl Tryd.func36 (by kernel_rfl) rfl #[.agg #[.bool a1_0, .string a1_1, .int .i64 a1_2]] rfl (by (try simp only [List.map_toArray, List.map_cons, List.map_nil]); first | done | rfl | (simp only [List.length_drop, List.length_take]; rfl)) ?_; (with_reducible refine (abacusref08_Norm.calls k a1_0 a1_1 a1_2 t388 t389 t390 t391 _ A4.out).mono ?_); rintro e w16 ⟨rfl, hb⟩; refine ⟨_, rfl, ?_⟩; have n0_ := Aside0.mk (blk_below (g := gb381) (o := .cells #[.bool a0_0, .string a0_1, .int .i64 a0_2] 23 (0, 0)) (by (with_reducible repeat (first | refine blk_drewN ?_ _ | refine blk_drew ?_ | refine blk_alloc ?_ _)); refine blk_far ?_ NB381_387.out _; (with_reducible repeat (first | refine blk_drewN ?_ _ | refine blk_drew ?_ | refine blk_alloc ?_ _)); refine blk_far ?_ NB381_387.out _; (with_reducible repeat (first | refine blk_drewN ?_ _ | refine blk_drew ?_ | refine blk_alloc ?_ _)); refine blk_far ?_ NB381_387.out _; (with_reducible repeat (first | refine blk_drewN ?_ _ | refine blk_drew ?_ | refine blk_alloc ?_ _)); exact BK381.out) hb); have n1_ := Aside0.mk (blk_below (g := gb382) (o := .cells #[.bool a1_0, .string a1_1, .int .i64 a1_2] 23 (0, 0)) (by (with_reducible repeat (first | refine blk_drewN ?_ _ | refine blk_drew ?_ | refine blk_alloc ?_ _)); refine blk_far ?_ NB382_387.out _; (with_reducible repeat (first | refine blk_drewN ?_ _ | refine blk_drew ?_ | refine blk_alloc ?_ _)); refine blk_far ?_ NB382_387.out _; (with_reducible repeat (first | refine blk_drewN ?_ _ | refine blk_drew ?_ | refine blk_alloc ?_ _)); refine blk_far ?_ NB382_387.out _; (with_reducible repeat (first | refine blk_drewN ?_ _ | refine blk_drew ?_ | refine blk_alloc ?_ _)); exact BK382.out) hb); have n2_ := Aside0.mk (blk_below (g := gb387) (o := .cells #[.bool t383, .string t384, .int .i64 t385] 23 (0, 0)) (by (with_reducible repeat (first | refine blk_drewN ?_ _ | refine blk_drew ?_ | refine blk_alloc ?_ _)); refine blk_put (cs := #[.bool t383, .string t384, .int .i64 0]) ?_ 2 _ rfl; (with_reducible repeat (first | refine blk_drewN ?_ _ | refine blk_drew ?_ | refine blk_alloc ?_ _)); refine blk_put (cs := #[.bool t383, .string (⟨#[]⟩ : ByteArray), .int .i64 0]) ?_ 1 _ rfl; (with_reducible repeat (first | refine blk_drewN ?_ _ | refine blk_drew ?_ | refine blk_alloc ?_ _)); refine blk_put (cs := #[.bool false, .string (⟨#[]⟩ : ByteArray), .int .i64 0]) ?_ 0 _ rfl; (with_reducible repeat (first | refine blk_drewN ?_ _ | refine blk_drew ?_ | refine blk_alloc ?_ _)); exact BK387.out) hb); have n3_ := Aside0.mk (below_step (by repeat (first | (with_reducible first | exact HB.out | apply below_alloc | apply pw_below_drewN | apply below_drew1 | refine below_set ?_ GE381.out | refine below_set ?_ GE382.out | refine below_set ?_ GE387.out) | exact HB.out)) hb); clear BK381; clear BK382; clear BK387; clear HB; have BK381 := n0_; have BK382 := n1_; have BK387 := n2_; have HB := n3_; clear n0_ n1_ n2_ n3_; (try clear hb); (try clear hb2); (try clear hk); (try clear hi)) | ((with_reducible refine gate_dst (N := 8) rfl ?_); refine box_event ?hg (N := 8) ?hd (cs := #[.bool false, .string (⟨#[]⟩ : ByteArray), .int .i64 0]) (t := 23) ?hr ?_; (case hd => rfl); (case hg => rfl); (case hr => first | (go_simp; done) | (go_simp; rfl)); intro gb392 hg w17 hbox hb; have n0_ := Aside0.mk (blk_below (g := gb381) (o := .cells #[.bool a0_0, .string a0_1, .int .i64 a0_2] 23 (0, 0)) (by (with_reducible repeat (first | refine blk_drewN ?_ _ | refine blk_drew ?_ | refine blk_alloc ?_ _)); exact BK381.out) hb); have n1_ := Aside0.mk (blk_below (g := gb382) (o := .cells #[.bool a1_0, .string a1_1, .int .i64 a1_2] 23 (0, 0)) (by (with_reducible repeat (first | refine blk_drewN ?_ _ | refine blk_drew ?_ | refine blk_alloc ?_ _)); exact BK382.out) hb); have n2_ := Aside0.mk (blk_below (g := gb387) (o := .cells #[.bool t383, .string t384, .int .i64 t385] 23 (0, 0)) (by (with_reducible repeat (first | refine blk_drewN ?_ _ | refine blk_drew ?_ | refine blk_alloc ?_ _)); exact BK387.out) hb); have n3_ := Aside0.mk (below_step (by repeat (first | (with_reducible first | exact HB.out | apply below_alloc | apply pw_below_drewN | apply below_drew1 | refine below_set ?_ GE381.out | refine below_set ?_ GE382.out | refine below_set ?_ GE387.out) | exact HB.out)) hb); have n4_ := Aside0.mk (hbox); have n5_ := Aside0.mk ((by rw [hg]; exact (below_size (by repeat (first | (with_reducible first | exact HB.out | apply below_alloc | apply pw_below_drewN | apply below_drew1 | refine below_set ?_ GE381.out | refine below_set ?_ GE382.out | refine below_set ?_ GE387.out) | exact HB.out))) : w.heap.size ≤ gb392)); have n6_ := Aside0.mk ((by rw [hg]; exact (below_size (by repeat (first | (with_reducible first | exact HB.out | apply below_alloc | apply pw_below_drewN | apply below_drew1 | refine below_set ?_ GE381.out | refine below_set ?_ GE382.out | refine below_set ?_ GE387.out) | exact HB.out))) : w.heap.size ≤ gb392)); have n7_ := Aside0.mk ((by rw [hg]; exact Nat.ne_of_lt (blk_lt (g := gb381) (o := .cells #[.bool a0_0, .string a0_1, .int .i64 a0_2] 23 (0, 0)) (by (with_reducible repeat (first | refine blk_drewN ?_ _ | refine blk_drew ?_ | refine blk_alloc ?_ _)); exact BK381.out)) : gb381 ≠ gb392)); have n8_ := Aside0.mk ((by rw [hg]; exact Nat.ne_of_gt (blk_lt (g := gb381) (o := .cells #[.bool a0_0, .string a0_1, .int .i64 a0_2] 23 (0, 0)) (by (with_reducible repeat (first | refine blk_drewN ?_ _ | refine blk_drew ?_ | refine blk_alloc ?_ _)); exact BK381.out)) : gb392 ≠ gb381)); have n9_ := Aside0.mk ((by rw [hg]; exact Nat.ne_of_lt (blk_lt (g := gb382) (o := .cells #[.bool a1_0, .string a1_1, .int .i64 a1_2] 23 (0, 0)) (by (with_reducible repeat (first | refine blk_drewN ?_ _ | refine blk_drew ?_ | refine blk_alloc ?_ _)); exact BK382.out)) : gb382 ≠ gb392)); have n10_ := Aside0.mk ((by rw [hg]; exact Nat.ne_of_gt (blk_lt (g := gb382) (o := .cells #[.bool a1_0, .string a1_1, .int .i64 a1_2] 23 (0, 0)) (by (with_reducible repeat (first | refine blk_drewN ?_ _ | refine blk_drew ?_ | refine blk_alloc ?_ _)); exact BK382.out)) : gb392 ≠ gb382)); have n11_ := Aside0.mk ((by rw [hg]; exact Nat.ne_of_lt (blk_lt (g := gb387) (o := .cells #[.bool t383, .string t384, .int .i64 t385] 23 (0, 0)) (by (with_reducible repeat (first | refine blk_drewN ?_ _ | refine blk_drew ?_ | refine blk_alloc ?_ _)); exact BK387.out)) : gb387 ≠ gb392)); have n12_ := Aside0.mk ((by rw [hg]; exact Nat.ne_of_gt (blk_lt (g := gb387) (o := .cells #[.bool t383, .string t384, .int .i64 t385] 23 (0, 0)) (by (with_reducible repeat (first | refine blk_drewN ?_ _ | refine blk_drew ?_ | refine blk_alloc ?_ _)); exact BK387.out)) : gb392 ≠ gb387)); clear BK381; clear BK382; clear BK387; clear HB; have BK381 := n0_; have BK382 := n1_; have BK387 := n2_; have HB := n3_; have BK392 := n4_; have GW392 := n5_; have GE392 := n6_; have NB381_392 := n7_; have NB392_381 := n8_; have NB382_392 := n9_; have NB392_382 := n10_; have NB387_392 := n11_; have NB392_387 := n12_; clear n0_ n1_ n2_ n3_ n4_ n5_ n6_ n7_ n8_ n9_ n10_ n11_ n12_; clear hb hbox hg; have hnb18 := NB392_381.out; have hnc18 := NB381_392.out; have hnb19 := NB392_382.out; have hnc19 := NB382_392.out; have hnb20 := NB392_387.out; have hnc20 := NB387_392.out; have hcz21_0 : w17.cell? ⟨gb392, 0, none⟩ = some (.bool false) := (blk_cell BK392.out 0).trans rfl; have hcz21_1 : w17.cell? ⟨gb392, 1, none⟩ = some (.string (⟨#[]⟩ : ByteArray)) := (blk_cell BK392.out 1).trans rfl; have hcz21_2 : w17.cell? ⟨gb392, 2, none⟩ = some (.int .i64 0) := (blk_cell BK392.out 2).trans rfl; have hfz21_0 := blk_frozen BK392.out 0; have hfz21_1 := blk_frozen BK392.out 1; have hfz21_2 := blk_frozen BK392.out 2))
  (try simp only [Act.put, List.setIfInBounds_toArray, List.set_cons_zero, List.set_cons_succ])
  go_cut [25] (fun v25 wc => ∃ (kq : Nat) (x25_4 : Bool), v25 = .bool x25_4 ∧ Aside0 (abacusref08_Cmp.j0 kq x25_4 t383 t384 t385 t388 t389 t390 = some (r1, r2)) ∧ Aside0 (kq ≤ k) ∧ Aside0 (wc.heap[gb381]? = some (.cells #[.bool a0_0, .string a0_1, .int .i64 a0_2] 23 (0, 0))) ∧ Aside0 (wc.heap[gb382]? = some (.cells #[.bool a1_0, .string a1_1, .int .i64 a1_2] 23 (0, 0))) ∧ Aside0 (wc.heap[gb387]? = some (.cells #[.bool t383, .string t384, .int .i64 t385] 23 (0, 0))) ∧ Aside0 (wc.heap[gb392]? = some (.cells #[.bool t388, .string t389, .int .i64 t390] 23 (0, 0))) ∧ Aside0 (Below w.heap.size w wc))
  case first =>
    have H := HC5.out
    clear HC5
    by_cases c22 : t386 = 0
    · rw [if_pos c22] at H
      have c22b0 : (t386 == 0) = true := beq_iff_eq.mpr c22
      have c22b1 : (t386 != 0) = false := bne_eq_false_iff_eq.mpr c22
      clear c22
      (first | rw [c22b0] | (simp only [i64_w, i32_w]; rw [c22b0]) | skip)
      have H' := Aside0.mk H
      clear H
      go_wp2
      go_meet
      case rel => exact ⟨_, ((t391 != 0)), (by first | rfl | (simp; done) | (simp [*]; done)), H', ⟨by first | omega | exact Nat.le_refl _⟩, ⟨by (with_reducible repeat (first | refine blk_drewN ?_ _ | refine blk_drew ?_ | refine blk_alloc ?_ _)); refine blk_far ?_ NB381_392.out _; (with_reducible repeat (first | refine blk_drewN ?_ _ | refine blk_drew ?_ | refine blk_alloc ?_ _)); refine blk_far ?_ NB381_392.out _; (with_reducible repeat (first | refine blk_drewN ?_ _ | refine blk_drew ?_ | refine blk_alloc ?_ _)); refine blk_far ?_ NB381_392.out _; (with_reducible repeat (first | refine blk_drewN ?_ _ | refine blk_drew ?_ | refine blk_alloc ?_ _)); exact BK381.out⟩, ⟨by (with_reducible repeat (first | refine blk_drewN ?_ _ | refine blk_drew ?_ | refine blk_alloc ?_ _)); refine blk_far ?_ NB382_392.out _; (with_reducible repeat (first | refine blk_drewN ?_ _ | refine blk_drew ?_ | refine blk_alloc ?_ _)); refine blk_far ?_ NB382_392.out _; (with_reducible repeat (first | refine blk_drewN ?_ _ | refine blk_drew ?_ | refine blk_alloc ?_ _)); refine blk_far ?_ NB382_392.out _; (with_reducible repeat (first | refine blk_drewN ?_ _ | refine blk_drew ?_ | refine blk_alloc ?_ _)); exact BK382.out⟩, ⟨by (with_reducible repeat (first | refine blk_drewN ?_ _ | refine blk_drew ?_ | refine blk_alloc ?_ _)); refine blk_far ?_ NB387_392.out _; (with_reducible repeat (first | refine blk_drewN ?_ _ | refine blk_drew ?_ | refine blk_alloc ?_ _)); refine blk_far ?_ NB387_392.out _; (with_reducible repeat (first | refine blk_drewN ?_ _ | refine blk_drew ?_ | refine blk_alloc ?_ _)); refine blk_far ?_ NB387_392.out _; (with_reducible repeat (first | refine blk_drewN ?_ _ | refine blk_drew ?_ | refine blk_alloc ?_ _)); exact BK387.out⟩, ⟨by (with_reducible repeat (first | refine blk_drewN ?_ _ | refine blk_drew ?_ | refine blk_alloc ?_ _)); refine blk_put (cs := #[.bool t388, .string t389, .int .i64 0]) ?_ 2 _ rfl; (with_reducible repeat (first | refine blk_drewN ?_ _ | refine blk_drew ?_ | refine blk_alloc ?_ _)); refine blk_put (cs := #[.bool t388, .string (⟨#[]⟩ : ByteArray), .int .i64 0]) ?_ 1 _ rfl; (with_reducible repeat (first | refine blk_drewN ?_ _ | refine blk_drew ?_ | refine blk_alloc ?_ _)); refine blk_put (cs := #[.bool false, .string (⟨#[]⟩ : ByteArray), .int .i64 0]) ?_ 0 _ rfl; (with_reducible repeat (first | refine blk_drewN ?_ _ | refine blk_drew ?_ | refine blk_alloc ?_ _)); exact BK392.out⟩, ⟨by repeat (first | (with_reducible first | exact HB.out | apply below_alloc | apply pw_below_drewN | apply below_drew1 | refine below_set ?_ GE381.out | refine below_set ?_ GE382.out | refine below_set ?_ GE387.out | refine below_set ?_ GE392.out) | exact HB.out)⟩⟩
    · rw [if_neg c22] at H
      have c22b0 : (t386 == 0) = false := beq_eq_false_iff_ne.mpr c22
      have c22b1 : (t386 != 0) = true := bne_iff_ne.mpr c22
      (first | rw [c22b0] | (simp only [i64_w, i32_w]; rw [c22b0]) | skip)
      have H' := Aside0.mk H
      clear H
      go_wp2
      go_meet
      case rel => exact ⟨_, (true), (by first | rfl | (simp; done) | (simp [*]; done)), H', ⟨by first | omega | exact Nat.le_refl _⟩, ⟨by (with_reducible repeat (first | refine blk_drewN ?_ _ | refine blk_drew ?_ | refine blk_alloc ?_ _)); refine blk_far ?_ NB381_392.out _; (with_reducible repeat (first | refine blk_drewN ?_ _ | refine blk_drew ?_ | refine blk_alloc ?_ _)); refine blk_far ?_ NB381_392.out _; (with_reducible repeat (first | refine blk_drewN ?_ _ | refine blk_drew ?_ | refine blk_alloc ?_ _)); refine blk_far ?_ NB381_392.out _; (with_reducible repeat (first | refine blk_drewN ?_ _ | refine blk_drew ?_ | refine blk_alloc ?_ _)); exact BK381.out⟩, ⟨by (with_reducible repeat (first | refine blk_drewN ?_ _ | refine blk_drew ?_ | refine blk_alloc ?_ _)); refine blk_far ?_ NB382_392.out _; (with_reducible repeat (first | refine blk_drewN ?_ _ | refine blk_drew ?_ | refine blk_alloc ?_ _)); refine blk_far ?_ NB382_392.out _; (with_reducible repeat (first | refine blk_drewN ?_ _ | refine blk_drew ?_ | refine blk_alloc ?_ _)); refine blk_far ?_ NB382_392.out _; (with_reducible repeat (first | refine blk_drewN ?_ _ | refine blk_drew ?_ | refine blk_alloc ?_ _)); exact BK382.out⟩, ⟨by (with_reducible repeat (first | refine blk_drewN ?_ _ | refine blk_drew ?_ | refine blk_alloc ?_ _)); refine blk_far ?_ NB387_392.out _; (with_reducible repeat (first | refine blk_drewN ?_ _ | refine blk_drew ?_ | refine blk_alloc ?_ _)); refine blk_far ?_ NB387_392.out _; (with_reducible repeat (first | refine blk_drewN ?_ _ | refine blk_drew ?_ | refine blk_alloc ?_ _)); refine blk_far ?_ NB387_392.out _; (with_reducible repeat (first | refine blk_drewN ?_ _ | refine blk_drew ?_ | refine blk_alloc ?_ _)); exact BK387.out⟩, ⟨by (with_reducible repeat (first | refine blk_drewN ?_ _ | refine blk_drew ?_ | refine blk_alloc ?_ _)); refine blk_put (cs := #[.bool t388, .string t389, .int .i64 0]) ?_ 2 _ rfl; (with_reducible repeat (first | refine blk_drewN ?_ _ | refine blk_drew ?_ | refine blk_alloc ?_ _)); refine blk_put (cs := #[.bool t388, .string (⟨#[]⟩ : ByteArray), .int .i64 0]) ?_ 1 _ rfl; (with_reducible repeat (first | refine blk_drewN ?_ _ | refine blk_drew ?_ | refine blk_alloc ?_ _)); refine blk_put (cs := #[.bool false, .string (⟨#[]⟩ : ByteArray), .int .i64 0]) ?_ 0 _ rfl; (with_reducible repeat (first | refine blk_drewN ?_ _ | refine blk_drew ?_ | refine blk_alloc ?_ _)); exact BK392.out⟩, ⟨by repeat (first | (with_reducible first | exact HB.out | apply below_alloc | apply pw_below_drewN | apply below_drew1 | refine below_set ?_ GE381.out | refine below_set ?_ GE382.out | refine below_set ?_ GE387.out | refine below_set ?_ GE392.out) | exact HB.out)⟩⟩
  case rest =>
    clear HC5
    try clear c1
    try clear c2
    try clear p2
    try clear c3
    try clear c8
    try clear c12
    try clear c13
    try clear c18
    try clear c19
    try clear c20
    try clear c22
    try clear c22b0
    try clear c22b1
    try clear hcz14_0
    try clear hcz14_1
    try clear hcz14_2
    try clear hcz15_0
    try clear hcz15_1
    try clear hcz15_2
    try clear hcz21_0
    try clear hcz21_1
    try clear hcz21_2
    try clear hcz9_0
    try clear hcz9_1
    try clear hcz9_2
    try clear hfz14_0
    try clear hfz14_1
    try clear hfz14_2
    try clear hfz15_0
    try clear hfz15_1
    try clear hfz15_2
    try clear hfz21_0
    try clear hfz21_1
    try clear hfz21_2
    try clear hfz9_0
    try clear hfz9_1
    try clear hfz9_2
    obtain ⟨kq, x25_4, rfl, HA, HJ4, BK381, BK382, BK387, BK392, HB⟩ := hcut
    cases kq with
    | zero => exact absurd HA.out (by simp [abacusref08_Cmp.j0])
    | succ kj4 =>
      have H := HA.out
      clear HA
      simp only [abacusref08_Cmp.j0] at H
      by_cases c23 : x25_4 = true
      · subst c23
        have H1 : (some (0, 80)) = some (r1, r2) := by rw [if_pos rfl] at H; exact H
        clear H
        have H := H1
        clear H1
        simp only [Option.some.injEq, Prod.mk.injEq] at H
        obtain ⟨rfl, rfl⟩ := H
        go_wp2
        go_ret2
        exact ⟨by first | rfl | (simp [errW_none, errW_some] <;> rfl) | (simp [*, errW_none, errW_some] <;> rfl), by repeat (first | (with_reducible first | exact HB.out | apply below_alloc | apply pw_below_drewN | apply below_drew1 | refine below_set ?_ GE381.out | refine below_set ?_ GE382.out | refine below_set ?_ GE387.out | refine below_set ?_ GE392.out) | exact HB.out)⟩
      · replace c23 := Bool.eq_false_iff.mpr c23
        subst c23
        have H1 : (if t384.toList = ([48] : List UInt8) then (abacusref08_Cmp.j1 kj4 false t384 t385 t388 t389 t390) else (abacusref08_Cmp.j1 kj4 t383 t384 t385 t388 t389 t390)) = some (r1, r2) := by rw [if_neg (show ¬ (false = true) by decide)] at H; exact H
        clear H
        have H := H1
        clear H1
        have HC24 := Aside0.mk H
        clear H
        have hnb25 := NB387_381.out
        have hnc25 := NB381_387.out
        have hnb26 := NB387_382.out
        have hnc26 := NB382_387.out
        have hnb27 := NB387_392.out
        have hnc27 := NB392_387.out
        have hcz28_0 : wc.cell? ⟨gb387, 0, none⟩ = some (.bool t383) := (blk_cell BK387.out 0).trans rfl
        have hcz28_1 : wc.cell? ⟨gb387, 1, none⟩ = some (.string t384) := (blk_cell BK387.out 1).trans rfl
        have hcz28_2 : wc.cell? ⟨gb387, 2, none⟩ = some (.int .i64 t385) := (blk_cell BK387.out 2).trans rfl
        have hfz28_0 := blk_frozen BK387.out 0
        have hfz28_1 := blk_frozen BK387.out 1
        have hfz28_2 := blk_frozen BK387.out 2
        go_upto_if 28 with (fail)
        go_cut [] (fun wc => ∃ (kq : Nat) (x388000_23 : Bool), Aside0 (abacusref08_Cmp.j1 kq x388000_23 t384 t385 t388 t389 t390 = some (r1, r2)) ∧ Aside0 (kq ≤ kj4) ∧ Aside0 (wc.heap[gb381]? = some (.cells #[.bool a0_0, .string a0_1, .int .i64 a0_2] 23 (0, 0))) ∧ Aside0 (wc.heap[gb382]? = some (.cells #[.bool a1_0, .string a1_1, .int .i64 a1_2] 23 (0, 0))) ∧ Aside0 (wc.heap[gb387]? = some (.cells #[.bool x388000_23, .string t384, .int .i64 t385] 23 (0, 0))) ∧ Aside0 (wc.heap[gb392]? = some (.cells #[.bool t388, .string t389, .int .i64 t390] 23 (0, 0))) ∧ Aside0 (Below w.heap.size w wc))
        case first =>
          have H := HC24.out
          clear HC24
          by_cases c29 : t384.toList = ([48] : List UInt8)
          · rw [if_pos c29] at H
            have c29b0 : (t384.toList == ([48] : List UInt8)) = true := beq_iff_eq.mpr c29
            have c29b1 : (t384.toList != ([48] : List UInt8)) = false := bne_eq_false_iff_eq.mpr c29
            clear c29
            (first | rw [c29b0] | (simp only [i64_w, i32_w]; rw [c29b0]) | skip)
            have H' := Aside0.mk H
            clear H
            have hnb30 := NB387_381.out
            have hnc30 := NB381_387.out
            have hnb31 := NB387_382.out
            have hnc31 := NB382_387.out
            have hnb32 := NB387_392.out
            have hnc32 := NB392_387.out
            have hcz33_0 : wc.cell? ⟨gb387, 0, none⟩ = some (.bool t383) := (blk_cell BK387.out 0).trans rfl
            have hcz33_1 : wc.cell? ⟨gb387, 1, none⟩ = some (.string t384) := (blk_cell BK387.out 1).trans rfl
            have hcz33_2 : wc.cell? ⟨gb387, 2, none⟩ = some (.int .i64 t385) := (blk_cell BK387.out 2).trans rfl
            have hfz33_0 := blk_frozen BK387.out 0
            have hfz33_1 := blk_frozen BK387.out 1
            have hfz33_2 := blk_frozen BK387.out 2
            go_wp2
            go_meet
            case rel => exact ⟨_, (false), H', ⟨by have := HJ4.out; first | omega | exact Nat.le_refl _⟩, ⟨by (with_reducible repeat (first | refine blk_drewN ?_ _ | refine blk_drew ?_ | refine blk_alloc ?_ _)); refine blk_far ?_ NB381_387.out _; (with_reducible repeat (first | refine blk_drewN ?_ _ | refine blk_drew ?_ | refine blk_alloc ?_ _)); exact BK381.out⟩, ⟨by (with_reducible repeat (first | refine blk_drewN ?_ _ | refine blk_drew ?_ | refine blk_alloc ?_ _)); refine blk_far ?_ NB382_387.out _; (with_reducible repeat (first | refine blk_drewN ?_ _ | refine blk_drew ?_ | refine blk_alloc ?_ _)); exact BK382.out⟩, ⟨by (with_reducible repeat (first | refine blk_drewN ?_ _ | refine blk_drew ?_ | refine blk_alloc ?_ _)); refine blk_put (cs := #[.bool t383, .string t384, .int .i64 t385]) ?_ 0 _ rfl; (with_reducible repeat (first | refine blk_drewN ?_ _ | refine blk_drew ?_ | refine blk_alloc ?_ _)); exact BK387.out⟩, ⟨by (with_reducible repeat (first | refine blk_drewN ?_ _ | refine blk_drew ?_ | refine blk_alloc ?_ _)); refine blk_far ?_ NB392_387.out _; (with_reducible repeat (first | refine blk_drewN ?_ _ | refine blk_drew ?_ | refine blk_alloc ?_ _)); exact BK392.out⟩, ⟨by repeat (first | (with_reducible first | exact HB.out | apply below_alloc | apply pw_below_drewN | apply below_drew1 | refine below_set ?_ GE381.out | refine below_set ?_ GE382.out | refine below_set ?_ GE387.out | refine below_set ?_ GE392.out) | exact HB.out)⟩⟩
          · rw [if_neg c29] at H
            have c29b0 : (t384.toList == ([48] : List UInt8)) = false := beq_eq_false_iff_ne.mpr c29
            have c29b1 : (t384.toList != ([48] : List UInt8)) = true := bne_iff_ne.mpr c29
            (first | rw [c29b0] | (simp only [i64_w, i32_w]; rw [c29b0]) | skip)
            have H' := Aside0.mk H
            clear H
            go_wp2
            go_meet
            case rel => exact ⟨_, (t383), H', ⟨by have := HJ4.out; first | omega | exact Nat.le_refl _⟩, ⟨by (with_reducible repeat (first | refine blk_drewN ?_ _ | refine blk_drew ?_ | refine blk_alloc ?_ _)); exact BK381.out⟩, ⟨by (with_reducible repeat (first | refine blk_drewN ?_ _ | refine blk_drew ?_ | refine blk_alloc ?_ _)); exact BK382.out⟩, ⟨by (with_reducible repeat (first | refine blk_drewN ?_ _ | refine blk_drew ?_ | refine blk_alloc ?_ _)); exact BK387.out⟩, ⟨by (with_reducible repeat (first | refine blk_drewN ?_ _ | refine blk_drew ?_ | refine blk_alloc ?_ _)); exact BK392.out⟩, ⟨by repeat (first | (with_reducible first | exact HB.out | apply below_alloc | apply pw_below_drewN | apply below_drew1 | refine below_set ?_ GE381.out | refine below_set ?_ GE382.out | refine below_set ?_ GE387.out | refine below_set ?_ GE392.out) | exact HB.out)⟩⟩
        case rest =>
          clear HC24
          try clear c1
          try clear c2
          try clear p2
          try clear c3
          try clear c8
          try clear c12
          try clear c13
          try clear c18
          try clear c19
          try clear c20
          try clear c22
          try clear c22b0
          try clear c22b1
          try clear c23
          try clear c25
          try clear c26
          try clear c27
          try clear c29
          try clear c29b0
          try clear c29b1
          try clear c30
          try clear c31
          try clear c32
          try clear hcz14_0
          try clear hcz14_1
          try clear hcz14_2
          try clear hcz15_0
          try clear hcz15_1
          try clear hcz15_2
          try clear hcz21_0
          try clear hcz21_1
          try clear hcz21_2
          try clear hcz28_0
          try clear hcz28_1
          try clear hcz28_2
          try clear hcz33_0
          try clear hcz33_1
          try clear hcz33_2
          try clear hcz9_0
          try clear hcz9_1
          try clear hcz9_2
          try clear hfz14_0
          try clear hfz14_1
          try clear hfz14_2
          try clear hfz15_0
          try clear hfz15_1
          try clear hfz15_2
          try clear hfz21_0
          try clear hfz21_1
          try clear hfz21_2
          try clear hfz28_0
          try clear hfz28_1
          try clear hfz28_2
          try clear hfz33_0
          try clear hfz33_1
          try clear hfz33_2
          try clear hfz9_0
          try clear hfz9_1
          try clear hfz9_2
          try clear p2
          obtain ⟨kq, x388000_23, HA, HJ23, BK381, BK382, BK387, BK392, HB⟩ := hcut
          cases kq with
          | zero => exact absurd HA.out (by simp [abacusref08_Cmp.j1])
          | succ kj23 =>
            have H := HA.out
            clear HA
            simp only [abacusref08_Cmp.j1] at H
            have HC34 := Aside0.mk H
            clear H
            have hnb35 := NB392_381.out
            have hnc35 := NB381_392.out
            have hnb36 := NB392_382.out
            have hnc36 := NB382_392.out
            have hnb37 := NB392_387.out
            have hnc37 := NB387_392.out
            have hcz38_0 : wc.cell? ⟨gb392, 0, none⟩ = some (.bool t388) := (blk_cell BK392.out 0).trans rfl
            have hcz38_1 : wc.cell? ⟨gb392, 1, none⟩ = some (.string t389) := (blk_cell BK392.out 1).trans rfl
            have hcz38_2 : wc.cell? ⟨gb392, 2, none⟩ = some (.int .i64 t390) := (blk_cell BK392.out 2).trans rfl
            have hfz38_0 := blk_frozen BK392.out 0
            have hfz38_1 := blk_frozen BK392.out 1
            have hfz38_2 := blk_frozen BK392.out 2
            go_upto_if 32 with (fail)
            go_cut [] (fun wc => ∃ (kq : Nat) (x393000_33 : Bool), Aside0 (abacusref08_Cmp.j2 kq x388000_23 t384 t385 x393000_33 t389 t390 = some (r1, r2)) ∧ Aside0 (kq ≤ kj23) ∧ Aside0 (wc.heap[gb381]? = some (.cells #[.bool a0_0, .string a0_1, .int .i64 a0_2] 23 (0, 0))) ∧ Aside0 (wc.heap[gb382]? = some (.cells #[.bool a1_0, .string a1_1, .int .i64 a1_2] 23 (0, 0))) ∧ Aside0 (wc.heap[gb387]? = some (.cells #[.bool x388000_23, .string t384, .int .i64 t385] 23 (0, 0))) ∧ Aside0 (wc.heap[gb392]? = some (.cells #[.bool x393000_33, .string t389, .int .i64 t390] 23 (0, 0))) ∧ Aside0 (Below w.heap.size w wc))
            case first =>
              have H := HC34.out
              clear HC34
              by_cases c39 : t389.toList = ([48] : List UInt8)
              · rw [if_pos c39] at H
                have c39b0 : (t389.toList == ([48] : List UInt8)) = true := beq_iff_eq.mpr c39
                have c39b1 : (t389.toList != ([48] : List UInt8)) = false := bne_eq_false_iff_eq.mpr c39
                clear c39
                (first | rw [c39b0] | (simp only [i64_w, i32_w]; rw [c39b0]) | skip)
                have H' := Aside0.mk H
                clear H
                have hnb40 := NB392_381.out
                have hnc40 := NB381_392.out
                have hnb41 := NB392_382.out
                have hnc41 := NB382_392.out
                have hnb42 := NB392_387.out
                have hnc42 := NB387_392.out
                have hcz43_0 : wc.cell? ⟨gb392, 0, none⟩ = some (.bool t388) := (blk_cell BK392.out 0).trans rfl
                have hcz43_1 : wc.cell? ⟨gb392, 1, none⟩ = some (.string t389) := (blk_cell BK392.out 1).trans rfl
                have hcz43_2 : wc.cell? ⟨gb392, 2, none⟩ = some (.int .i64 t390) := (blk_cell BK392.out 2).trans rfl
                have hfz43_0 := blk_frozen BK392.out 0
                have hfz43_1 := blk_frozen BK392.out 1
                have hfz43_2 := blk_frozen BK392.out 2
                go_wp2
                go_meet
                case rel => exact ⟨_, (false), H', ⟨by have := HJ4.out; have := HJ23.out; first | omega | exact Nat.le_refl _⟩, ⟨by (with_reducible repeat (first | refine blk_drewN ?_ _ | refine blk_drew ?_ | refine blk_alloc ?_ _)); refine blk_far ?_ NB381_392.out _; (with_reducible repeat (first | refine blk_drewN ?_ _ | refine blk_drew ?_ | refine blk_alloc ?_ _)); exact BK381.out⟩, ⟨by (with_reducible repeat (first | refine blk_drewN ?_ _ | refine blk_drew ?_ | refine blk_alloc ?_ _)); refine blk_far ?_ NB382_392.out _; (with_reducible repeat (first | refine blk_drewN ?_ _ | refine blk_drew ?_ | refine blk_alloc ?_ _)); exact BK382.out⟩, ⟨by (with_reducible repeat (first | refine blk_drewN ?_ _ | refine blk_drew ?_ | refine blk_alloc ?_ _)); refine blk_far ?_ NB387_392.out _; (with_reducible repeat (first | refine blk_drewN ?_ _ | refine blk_drew ?_ | refine blk_alloc ?_ _)); exact BK387.out⟩, ⟨by (with_reducible repeat (first | refine blk_drewN ?_ _ | refine blk_drew ?_ | refine blk_alloc ?_ _)); refine blk_put (cs := #[.bool t388, .string t389, .int .i64 t390]) ?_ 0 _ rfl; (with_reducible repeat (first | refine blk_drewN ?_ _ | refine blk_drew ?_ | refine blk_alloc ?_ _)); exact BK392.out⟩, ⟨by repeat (first | (with_reducible first | exact HB.out | apply below_alloc | apply pw_below_drewN | apply below_drew1 | refine below_set ?_ GE381.out | refine below_set ?_ GE382.out | refine below_set ?_ GE387.out | refine below_set ?_ GE392.out) | exact HB.out)⟩⟩
              · rw [if_neg c39] at H
                have c39b0 : (t389.toList == ([48] : List UInt8)) = false := beq_eq_false_iff_ne.mpr c39
                have c39b1 : (t389.toList != ([48] : List UInt8)) = true := bne_iff_ne.mpr c39
                (first | rw [c39b0] | (simp only [i64_w, i32_w]; rw [c39b0]) | skip)
                have H' := Aside0.mk H
                clear H
                go_wp2
                go_meet
                case rel => exact ⟨_, (t388), H', ⟨by have := HJ4.out; have := HJ23.out; first | omega | exact Nat.le_refl _⟩, ⟨by (with_reducible repeat (first | refine blk_drewN ?_ _ | refine blk_drew ?_ | refine blk_alloc ?_ _)); exact BK381.out⟩, ⟨by (with_reducible repeat (first | refine blk_drewN ?_ _ | refine blk_drew ?_ | refine blk_alloc ?_ _)); exact BK382.out⟩, ⟨by (with_reducible repeat (first | refine blk_drewN ?_ _ | refine blk_drew ?_ | refine blk_alloc ?_ _)); exact BK387.out⟩, ⟨by (with_reducible repeat (first | refine blk_drewN ?_ _ | refine blk_drew ?_ | refine blk_alloc ?_ _)); exact BK392.out⟩, ⟨by repeat (first | (with_reducible first | exact HB.out | apply below_alloc | apply pw_below_drewN | apply below_drew1 | refine below_set ?_ GE381.out | refine below_set ?_ GE382.out | refine below_set ?_ GE387.out | refine below_set ?_ GE392.out) | exact HB.out)⟩⟩
            case rest =>
              clear HC34
              try clear c1
              try clear c2
              try clear p2
              try clear c3
              try clear c4
              try clear c8
              try clear c12
              try clear c13
              try clear c18
              try clear c19
              try clear c20
              try clear c22
              try clear c22b0
              try clear c22b1
              try clear c23
              try clear c25
              try clear c26
              try clear c27
              try clear c29
              try clear c29b0
              try clear c29b1
              try clear c30
              try clear c31
              try clear c32
              try clear c35
              try clear c36
              try clear c37
              try clear c38
              try clear c39
              try clear c39b0
              try clear c39b1
              try clear c40
              try clear c41
              try clear c42
              try clear hcz14_0
              try clear hcz14_1
              try clear hcz14_2
              try clear hcz15_0
              try clear hcz15_1
              try clear hcz15_2
              try clear hcz21_0
              try clear hcz21_1
              try clear hcz21_2
              try clear hcz28_0
              try clear hcz28_1
              try clear hcz28_2
              try clear hcz33_0
              try clear hcz33_1
              try clear hcz33_2
              try clear hcz38_0
              try clear hcz38_1
              try clear hcz38_2
              try clear hcz43_0
              try clear hcz43_1
              try clear hcz43_2
              try clear hcz9_0
              try clear hcz9_1
              try clear hcz9_2
              try clear hfz14_0
              try clear hfz14_1
              try clear hfz14_2
              try clear hfz15_0
              try clear hfz15_1
              try clear hfz15_2
              try clear hfz21_0
              try clear hfz21_1
              try clear hfz21_2
              try clear hfz28_0
              try clear hfz28_1
              try clear hfz28_2
              try clear hfz33_0
              try clear hfz33_1
              try clear hfz33_2
              try clear hfz38_0
              try clear hfz38_1
              try clear hfz38_2
              try clear hfz43_0
              try clear hfz43_1
              try clear hfz43_2
              try clear hfz9_0
              try clear hfz9_1
              try clear hfz9_2
              try clear p2
              obtain ⟨kq, x393000_33, HA, HJ33, BK381, BK382, BK387, BK392, HB⟩ := hcut
              cases kq with
              | zero => exact absurd HA.out (by simp [abacusref08_Cmp.j2])
              | succ kj33 =>
                have H := HA.out
                clear HA
                simp only [abacusref08_Cmp.j2] at H
                have HC44 := Aside0.mk H
                clear H
                go_upto_region 9 with (fail)
                go_cut [34] (fun v34 wc => ∃ (kq : Nat) (x34_43 : Bool), v34 = .bool x34_43 ∧ Aside0 (abacusref08_Cmp.j3 kq x34_43 x388000_23 t384 t385 x393000_33 t389 t390 = some (r1, r2)) ∧ Aside0 (kq ≤ kj33) ∧ Aside0 (wc.heap[gb381]? = some (.cells #[.bool a0_0, .string a0_1, .int .i64 a0_2] 23 (0, 0))) ∧ Aside0 (wc.heap[gb382]? = some (.cells #[.bool a1_0, .string a1_1, .int .i64 a1_2] 23 (0, 0))) ∧ Aside0 (wc.heap[gb387]? = some (.cells #[.bool x388000_23, .string t384, .int .i64 t385] 23 (0, 0))) ∧ Aside0 (wc.heap[gb392]? = some (.cells #[.bool x393000_33, .string t389, .int .i64 t390] 23 (0, 0))) ∧ Aside0 (Below w.heap.size w wc))
                case first =>
                  have H := HC44.out
                  clear HC44
                  by_cases c45 : x388000_23 = true
                  · subst c45
                    have H1 : (abacusref08_Cmp.j3 kj33 (!x393000_33) true t384 t385 x393000_33 t389 t390) = some (r1, r2) := by rw [if_pos rfl] at H; exact H
                    clear H
                    have H := H1
                    clear H1
                    have H' := Aside0.mk H
                    clear H
                    have hnb46 := NB387_381.out
                    have hnc46 := NB381_387.out
                    have hnb47 := NB387_382.out
                    have hnc47 := NB382_387.out
                    have hnb48 := NB387_392.out
                    have hnc48 := NB392_387.out
                    have hcz49_0 : wc.cell? ⟨gb387, 0, none⟩ = some (.bool true) := (blk_cell BK387.out 0).trans rfl
                    have hcz49_1 : wc.cell? ⟨gb387, 1, none⟩ = some (.string t384) := (blk_cell BK387.out 1).trans rfl
                    have hcz49_2 : wc.cell? ⟨gb387, 2, none⟩ = some (.int .i64 t385) := (blk_cell BK387.out 2).trans rfl
                    have hfz49_0 := blk_frozen BK387.out 0
                    have hfz49_1 := blk_frozen BK387.out 1
                    have hfz49_2 := blk_frozen BK387.out 2
                    have hnb50 := NB392_381.out
                    have hnc50 := NB381_392.out
                    have hnb51 := NB392_382.out
                    have hnc51 := NB382_392.out
                    have hcz52_0 : wc.cell? ⟨gb392, 0, none⟩ = some (.bool x393000_33) := (blk_cell BK392.out 0).trans rfl
                    have hcz52_1 : wc.cell? ⟨gb392, 1, none⟩ = some (.string t389) := (blk_cell BK392.out 1).trans rfl
                    have hcz52_2 : wc.cell? ⟨gb392, 2, none⟩ = some (.int .i64 t390) := (blk_cell BK392.out 2).trans rfl
                    have hfz52_0 := blk_frozen BK392.out 0
                    have hfz52_1 := blk_frozen BK392.out 1
                    have hfz52_2 := blk_frozen BK392.out 2
                    go_wp2
                    go_meet
                    case rel => exact ⟨_, (!x393000_33), (by first | rfl | (simp; done) | (simp [*]; done)), H', ⟨by have := HJ4.out; have := HJ23.out; have := HJ33.out; first | omega | exact Nat.le_refl _⟩, ⟨by (with_reducible repeat (first | refine blk_drewN ?_ _ | refine blk_drew ?_ | refine blk_alloc ?_ _)); exact BK381.out⟩, ⟨by (with_reducible repeat (first | refine blk_drewN ?_ _ | refine blk_drew ?_ | refine blk_alloc ?_ _)); exact BK382.out⟩, ⟨by (with_reducible repeat (first | refine blk_drewN ?_ _ | refine blk_drew ?_ | refine blk_alloc ?_ _)); exact BK387.out⟩, ⟨by (with_reducible repeat (first | refine blk_drewN ?_ _ | refine blk_drew ?_ | refine blk_alloc ?_ _)); exact BK392.out⟩, ⟨by repeat (first | (with_reducible first | exact HB.out | apply below_alloc | apply pw_below_drewN | apply below_drew1 | refine below_set ?_ GE381.out | refine below_set ?_ GE382.out | refine below_set ?_ GE387.out | refine below_set ?_ GE392.out) | exact HB.out)⟩⟩
                  · replace c45 := Bool.eq_false_iff.mpr c45
                    subst c45
                    have H1 : (abacusref08_Cmp.j3 kj33 false false t384 t385 x393000_33 t389 t390) = some (r1, r2) := by rw [if_neg (show ¬ (false = true) by decide)] at H; exact H
                    clear H
                    have H := H1
                    clear H1
                    have H' := Aside0.mk H
                    clear H
                    have hnb53 := NB387_381.out
                    have hnc53 := NB381_387.out
                    have hnb54 := NB387_382.out
                    have hnc54 := NB382_387.out
                    have hnb55 := NB387_392.out
                    have hnc55 := NB392_387.out
                    have hcz56_0 : wc.cell? ⟨gb387, 0, none⟩ = some (.bool false) := (blk_cell BK387.out 0).trans rfl
                    have hcz56_1 : wc.cell? ⟨gb387, 1, none⟩ = some (.string t384) := (blk_cell BK387.out 1).trans rfl
                    have hcz56_2 : wc.cell? ⟨gb387, 2, none⟩ = some (.int .i64 t385) := (blk_cell BK387.out 2).trans rfl
                    have hfz56_0 := blk_frozen BK387.out 0
                    have hfz56_1 := blk_frozen BK387.out 1
                    have hfz56_2 := blk_frozen BK387.out 2
                    go_wp2
                    go_meet
                    case rel => exact ⟨_, (false), (by first | rfl | (simp; done) | (simp [*]; done)), H', ⟨by have := HJ4.out; have := HJ23.out; have := HJ33.out; first | omega | exact Nat.le_refl _⟩, ⟨by (with_reducible repeat (first | refine blk_drewN ?_ _ | refine blk_drew ?_ | refine blk_alloc ?_ _)); exact BK381.out⟩, ⟨by (with_reducible repeat (first | refine blk_drewN ?_ _ | refine blk_drew ?_ | refine blk_alloc ?_ _)); exact BK382.out⟩, ⟨by (with_reducible repeat (first | refine blk_drewN ?_ _ | refine blk_drew ?_ | refine blk_alloc ?_ _)); exact BK387.out⟩, ⟨by (with_reducible repeat (first | refine blk_drewN ?_ _ | refine blk_drew ?_ | refine blk_alloc ?_ _)); exact BK392.out⟩, ⟨by repeat (first | (with_reducible first | exact HB.out | apply below_alloc | apply pw_below_drewN | apply below_drew1 | refine below_set ?_ GE381.out | refine below_set ?_ GE382.out | refine below_set ?_ GE387.out | refine below_set ?_ GE392.out) | exact HB.out)⟩⟩
                case rest =>
                  clear HC44
                  try clear c1
                  try clear c2
                  try clear p2
                  try clear c3
                  try clear c4
                  try clear c5
                  try clear c8
                  try clear c12
                  try clear c13
                  try clear c18
                  try clear c19
                  try clear c20
                  try clear c22
                  try clear c22b0
                  try clear c22b1
                  try clear c23
                  try clear c25
                  try clear c26
                  try clear c27
                  try clear c29
                  try clear c29b0
                  try clear c29b1
                  try clear c30
                  try clear c31
                  try clear c32
                  try clear c35
                  try clear c36
                  try clear c37
                  try clear c38
                  try clear c39
                  try clear c39b0
                  try clear c39b1
                  try clear c40
                  try clear c41
                  try clear c42
                  try clear c45
                  try clear c46
                  try clear c47
                  try clear c48
                  try clear c50
                  try clear c51
                  try clear c53
                  try clear c54
                  try clear c55
                  try clear hcz14_0
                  try clear hcz14_1
                  try clear hcz14_2
                  try clear hcz15_0
                  try clear hcz15_1
                  try clear hcz15_2
                  try clear hcz21_0
                  try clear hcz21_1
                  try clear hcz21_2
                  try clear hcz28_0
                  try clear hcz28_1
                  try clear hcz28_2
                  try clear hcz33_0
                  try clear hcz33_1
                  try clear hcz33_2
                  try clear hcz38_0
                  try clear hcz38_1
                  try clear hcz38_2
                  try clear hcz43_0
                  try clear hcz43_1
                  try clear hcz43_2
                  try clear hcz49_0
                  try clear hcz49_1
                  try clear hcz49_2
                  try clear hcz52_0
                  try clear hcz52_1
                  try clear hcz52_2
                  try clear hcz56_0
                  try clear hcz56_1
                  try clear hcz56_2
                  try clear hcz9_0
                  try clear hcz9_1
                  try clear hcz9_2
                  try clear hfz14_0
                  try clear hfz14_1
                  try clear hfz14_2
                  try clear hfz15_0
                  try clear hfz15_1
                  try clear hfz15_2
                  try clear hfz21_0
                  try clear hfz21_1
                  try clear hfz21_2
                  try clear hfz28_0
                  try clear hfz28_1
                  try clear hfz28_2
                  try clear hfz33_0
                  try clear hfz33_1
                  try clear hfz33_2
                  try clear hfz38_0
                  try clear hfz38_1
                  try clear hfz38_2
                  try clear hfz43_0
                  try clear hfz43_1
                  try clear hfz43_2
                  try clear hfz49_0
                  try clear hfz49_1
                  try clear hfz49_2
                  try clear hfz52_0
                  try clear hfz52_1
                  try clear hfz52_2
                  try clear hfz56_0
                  try clear hfz56_1
                  try clear hfz56_2
                  try clear hfz9_0
                  try clear hfz9_1
                  try clear hfz9_2
                  try clear p2
                  obtain ⟨kq, x34_43, rfl, HA, HJ43, BK381, BK382, BK387, BK392, HB⟩ := hcut
                  cases kq with
                  | zero => exact absurd HA.out (by simp [abacusref08_Cmp.j3])
                  | succ kj43 =>
                    have H := HA.out
                    clear HA
                    simp only [abacusref08_Cmp.j3] at H
                    by_cases c57 : x34_43 = true
                    · subst c57
                      have H1 : (some ((-1), 0)) = some (r1, r2) := by rw [if_pos rfl] at H; exact H
                      clear H
                      have H := H1
                      clear H1
                      simp only [Option.some.injEq, Prod.mk.injEq] at H
                      obtain ⟨rfl, rfl⟩ := H
                      go_wp2
                      go_ret2
                      exact ⟨by first | rfl | (simp [errW_none, errW_some] <;> rfl) | (simp [*, errW_none, errW_some] <;> rfl), by repeat (first | (with_reducible first | exact HB.out | apply below_alloc | apply pw_below_drewN | apply below_drew1 | refine below_set ?_ GE381.out | refine below_set ?_ GE382.out | refine below_set ?_ GE387.out | refine below_set ?_ GE392.out) | exact HB.out)⟩
                    · replace c57 := Bool.eq_false_iff.mpr c57
                      subst c57
                      have H1 : (if x388000_23 = true then (abacusref08_Cmp.j4 kj43 false x388000_23 t384 t385 x393000_33 t389 t390) else (abacusref08_Cmp.j4 kj43 x393000_33 x388000_23 t384 t385 x393000_33 t389 t390)) = some (r1, r2) := by rw [if_neg (show ¬ (false = true) by decide)] at H; exact H
                      clear H
                      have H := H1
                      clear H1
                      have HC58 := Aside0.mk H
                      clear H
                      go_upto_region 11 with (fail)
                      go_cut [42] (fun v42 wc => ∃ (kq : Nat) (x42_57 : Bool), v42 = .bool x42_57 ∧ Aside0 (abacusref08_Cmp.j4 kq x42_57 x388000_23 t384 t385 x393000_33 t389 t390 = some (r1, r2)) ∧ Aside0 (kq ≤ kj43) ∧ Aside0 (wc.heap[gb381]? = some (.cells #[.bool a0_0, .string a0_1, .int .i64 a0_2] 23 (0, 0))) ∧ Aside0 (wc.heap[gb382]? = some (.cells #[.bool a1_0, .string a1_1, .int .i64 a1_2] 23 (0, 0))) ∧ Aside0 (wc.heap[gb387]? = some (.cells #[.bool x388000_23, .string t384, .int .i64 t385] 23 (0, 0))) ∧ Aside0 (wc.heap[gb392]? = some (.cells #[.bool x393000_33, .string t389, .int .i64 t390] 23 (0, 0))) ∧ Aside0 (Below w.heap.size w wc))
                      case first =>
                        have H := HC58.out
                        clear HC58
                        by_cases c59 : x388000_23 = true
                        · subst c59
                          have H1 : (abacusref08_Cmp.j4 kj43 false true t384 t385 x393000_33 t389 t390) = some (r1, r2) := by rw [if_pos rfl] at H; exact H
                          clear H
                          have H := H1
                          clear H1
                          have H' := Aside0.mk H
                          clear H
                          have hnb60 := NB387_381.out
                          have hnc60 := NB381_387.out
                          have hnb61 := NB387_382.out
                          have hnc61 := NB382_387.out
                          have hnb62 := NB387_392.out
                          have hnc62 := NB392_387.out
                          have hcz63_0 : wc.cell? ⟨gb387, 0, none⟩ = some (.bool true) := (blk_cell BK387.out 0).trans rfl
                          have hcz63_1 : wc.cell? ⟨gb387, 1, none⟩ = some (.string t384) := (blk_cell BK387.out 1).trans rfl
                          have hcz63_2 : wc.cell? ⟨gb387, 2, none⟩ = some (.int .i64 t385) := (blk_cell BK387.out 2).trans rfl
                          have hfz63_0 := blk_frozen BK387.out 0
                          have hfz63_1 := blk_frozen BK387.out 1
                          have hfz63_2 := blk_frozen BK387.out 2
                          go_wp2
                          go_meet
                          case rel => exact ⟨_, (false), (by first | rfl | (simp; done) | (simp [*]; done)), H', ⟨by have := HJ4.out; have := HJ23.out; have := HJ33.out; have := HJ43.out; first | omega | exact Nat.le_refl _⟩, ⟨by (with_reducible repeat (first | refine blk_drewN ?_ _ | refine blk_drew ?_ | refine blk_alloc ?_ _)); exact BK381.out⟩, ⟨by (with_reducible repeat (first | refine blk_drewN ?_ _ | refine blk_drew ?_ | refine blk_alloc ?_ _)); exact BK382.out⟩, ⟨by (with_reducible repeat (first | refine blk_drewN ?_ _ | refine blk_drew ?_ | refine blk_alloc ?_ _)); exact BK387.out⟩, ⟨by (with_reducible repeat (first | refine blk_drewN ?_ _ | refine blk_drew ?_ | refine blk_alloc ?_ _)); exact BK392.out⟩, ⟨by repeat (first | (with_reducible first | exact HB.out | apply below_alloc | apply pw_below_drewN | apply below_drew1 | refine below_set ?_ GE381.out | refine below_set ?_ GE382.out | refine below_set ?_ GE387.out | refine below_set ?_ GE392.out) | exact HB.out)⟩⟩
                        · replace c59 := Bool.eq_false_iff.mpr c59
                          subst c59
                          have H1 : (abacusref08_Cmp.j4 kj43 x393000_33 false t384 t385 x393000_33 t389 t390) = some (r1, r2) := by rw [if_neg (show ¬ (false = true) by decide)] at H; exact H
                          clear H
                          have H := H1
                          clear H1
                          have H' := Aside0.mk H
                          clear H
                          have hnb64 := NB387_381.out
                          have hnc64 := NB381_387.out
                          have hnb65 := NB387_382.out
                          have hnc65 := NB382_387.out
                          have hnb66 := NB387_392.out
                          have hnc66 := NB392_387.out
                          have hcz67_0 : wc.cell? ⟨gb387, 0, none⟩ = some (.bool false) := (blk_cell BK387.out 0).trans rfl
                          have hcz67_1 : wc.cell? ⟨gb387, 1, none⟩ = some (.string t384) := (blk_cell BK387.out 1).trans rfl
                          have hcz67_2 : wc.cell? ⟨gb387, 2, none⟩ = some (.int .i64 t385) := (blk_cell BK387.out 2).trans rfl
                          have hfz67_0 := blk_frozen BK387.out 0
                          have hfz67_1 := blk_frozen BK387.out 1
                          have hfz67_2 := blk_frozen BK387.out 2
                          have hnb68 := NB392_381.out
                          have hnc68 := NB381_392.out
                          have hnb69 := NB392_382.out
                          have hnc69 := NB382_392.out
                          have hcz70_0 : wc.cell? ⟨gb392, 0, none⟩ = some (.bool x393000_33) := (blk_cell BK392.out 0).trans rfl
                          have hcz70_1 : wc.cell? ⟨gb392, 1, none⟩ = some (.string t389) := (blk_cell BK392.out 1).trans rfl
                          have hcz70_2 : wc.cell? ⟨gb392, 2, none⟩ = some (.int .i64 t390) := (blk_cell BK392.out 2).trans rfl
                          have hfz70_0 := blk_frozen BK392.out 0
                          have hfz70_1 := blk_frozen BK392.out 1
                          have hfz70_2 := blk_frozen BK392.out 2
                          go_wp2
                          go_meet
                          case rel => exact ⟨_, (x393000_33), (by first | rfl | (simp; done) | (simp [*]; done)), H', ⟨by have := HJ4.out; have := HJ23.out; have := HJ33.out; have := HJ43.out; first | omega | exact Nat.le_refl _⟩, ⟨by (with_reducible repeat (first | refine blk_drewN ?_ _ | refine blk_drew ?_ | refine blk_alloc ?_ _)); exact BK381.out⟩, ⟨by (with_reducible repeat (first | refine blk_drewN ?_ _ | refine blk_drew ?_ | refine blk_alloc ?_ _)); exact BK382.out⟩, ⟨by (with_reducible repeat (first | refine blk_drewN ?_ _ | refine blk_drew ?_ | refine blk_alloc ?_ _)); exact BK387.out⟩, ⟨by (with_reducible repeat (first | refine blk_drewN ?_ _ | refine blk_drew ?_ | refine blk_alloc ?_ _)); exact BK392.out⟩, ⟨by repeat (first | (with_reducible first | exact HB.out | apply below_alloc | apply pw_below_drewN | apply below_drew1 | refine below_set ?_ GE381.out | refine below_set ?_ GE382.out | refine below_set ?_ GE387.out | refine below_set ?_ GE392.out) | exact HB.out)⟩⟩
                      case rest =>
                        clear HC58
                        try clear c1
                        try clear c2
                        try clear p2
                        try clear c3
                        try clear c4
                        try clear c5
                        try clear c6
                        try clear c8
                        try clear c12
                        try clear c13
                        try clear c18
                        try clear c19
                        try clear c20
                        try clear c22
                        try clear c22b0
                        try clear c22b1
                        try clear c23
                        try clear c25
                        try clear c26
                        try clear c27
                        try clear c29
                        try clear c29b0
                        try clear c29b1
                        try clear c30
                        try clear c31
                        try clear c32
                        try clear c35
                        try clear c36
                        try clear c37
                        try clear c38
                        try clear c39
                        try clear c39b0
                        try clear c39b1
                        try clear c40
                        try clear c41
                        try clear c42
                        try clear c45
                        try clear c46
                        try clear c47
                        try clear c48
                        try clear c50
                        try clear c51
                        try clear c53
                        try clear c54
                        try clear c55
                        try clear c57
                        try clear c59
                        try clear c60
                        try clear c61
                        try clear c62
                        try clear c64
                        try clear c65
                        try clear c66
                        try clear c68
                        try clear c69
                        try clear hcz14_0
                        try clear hcz14_1
                        try clear hcz14_2
                        try clear hcz15_0
                        try clear hcz15_1
                        try clear hcz15_2
                        try clear hcz21_0
                        try clear hcz21_1
                        try clear hcz21_2
                        try clear hcz28_0
                        try clear hcz28_1
                        try clear hcz28_2
                        try clear hcz33_0
                        try clear hcz33_1
                        try clear hcz33_2
                        try clear hcz38_0
                        try clear hcz38_1
                        try clear hcz38_2
                        try clear hcz43_0
                        try clear hcz43_1
                        try clear hcz43_2
                        try clear hcz49_0
                        try clear hcz49_1
                        try clear hcz49_2
                        try clear hcz52_0
                        try clear hcz52_1
                        try clear hcz52_2
                        try clear hcz56_0
                        try clear hcz56_1
                        try clear hcz56_2
                        try clear hcz63_0
                        try clear hcz63_1
                        try clear hcz63_2
                        try clear hcz67_0
                        try clear hcz67_1
                        try clear hcz67_2
                        try clear hcz70_0
                        try clear hcz70_1
                        try clear hcz70_2
                        try clear hcz9_0
                        try clear hcz9_1
                        try clear hcz9_2
                        try clear hfz14_0
                        try clear hfz14_1
                        try clear hfz14_2
                        try clear hfz15_0
                        try clear hfz15_1
                        try clear hfz15_2
                        try clear hfz21_0
                        try clear hfz21_1
                        try clear hfz21_2
                        try clear hfz28_0
                        try clear hfz28_1
                        try clear hfz28_2
                        try clear hfz33_0
                        try clear hfz33_1
                        try clear hfz33_2
                        try clear hfz38_0
                        try clear hfz38_1
                        try clear hfz38_2
                        try clear hfz43_0
                        try clear hfz43_1
                        try clear hfz43_2
                        try clear hfz49_0
                        try clear hfz49_1
                        try clear hfz49_2
                        try clear hfz52_0
                        try clear hfz52_1
                        try clear hfz52_2
                        try clear hfz56_0
                        try clear hfz56_1
                        try clear hfz56_2
                        try clear hfz63_0
                        try clear hfz63_1
                        try clear hfz63_2
                        try clear hfz67_0
                        try clear hfz67_1
                        try clear hfz67_2
                        try clear hfz70_0
                        try clear hfz70_1
                        try clear hfz70_2
                        try clear hfz9_0
                        try clear hfz9_1
                        try clear hfz9_2
                        try clear p2
                        obtain ⟨kq, x42_57, rfl, HA, HJ57, BK381, BK382, BK387, BK392, HB⟩ := hcut
                        cases kq with
                        | zero => exact absurd HA.out (by simp [abacusref08_Cmp.j4])
                        | succ kj57 =>
                          have H := HA.out
                          clear HA
                          simp only [abacusref08_Cmp.j4] at H
                          by_cases c71 : x42_57 = true
                          · subst c71
                            have H1 : (some (1, 0)) = some (r1, r2) := by rw [if_pos rfl] at H; exact H
                            clear H
                            have H := H1
                            clear H1
                            simp only [Option.some.injEq, Prod.mk.injEq] at H
                            obtain ⟨rfl, rfl⟩ := H
                            go_wp2
                            go_ret2
                            exact ⟨by first | rfl | (simp [errW_none, errW_some] <;> rfl) | (simp [*, errW_none, errW_some] <;> rfl), by repeat (first | (with_reducible first | exact HB.out | apply below_alloc | apply pw_below_drewN | apply below_drew1 | refine below_set ?_ GE381.out | refine below_set ?_ GE382.out | refine below_set ?_ GE387.out | refine below_set ?_ GE392.out) | exact HB.out)⟩
                          · replace c71 := Bool.eq_false_iff.mpr c71
                            subst c71
                            have H1 : (if x388000_23 = true then ((abacusref08_size.f kj57 x393000_33 t389 t390 x388000_23 t384 t385).bind fun t393 => (some (t393, 0))) else ((abacusref08_size.f kj57 x388000_23 t384 t385 x393000_33 t389 t390).bind fun t394 => (some (t394, 0)))) = some (r1, r2) := by rw [if_neg (show ¬ (false = true) by decide)] at H; exact H
                            clear H
                            have H := H1
                            clear H1
                            by_cases c72 : x388000_23 = true
                            · subst c72
                              have H1 : ((abacusref08_size.f kj57 x393000_33 t389 t390 true t384 t385).bind fun t393 => (some (t393, 0))) = some (r1, r2) := by rw [if_pos rfl] at H; exact H
                              clear H
                              have H := H1
                              clear H1
                              replace H := Option.bind_eq_some_iff.mp H
                              obtain ⟨t393, A730, H⟩ := H
                              replace H : (some (t393, 0)) = some (r1, r2) := H
                              have A73 := Aside0.mk A730
                              clear A730
                              simp only [Option.some.injEq, Prod.mk.injEq] at H
                              obtain ⟨rfl, rfl⟩ := H
                              have hnb74 := NB387_381.out
                              have hnc74 := NB381_387.out
                              have hnb75 := NB387_382.out
                              have hnc75 := NB382_387.out
                              have hnb76 := NB387_392.out
                              have hnc76 := NB392_387.out
                              have hcz77_0 : wc.cell? ⟨gb387, 0, none⟩ = some (.bool true) := (blk_cell BK387.out 0).trans rfl
                              have hcz77_1 : wc.cell? ⟨gb387, 1, none⟩ = some (.string t384) := (blk_cell BK387.out 1).trans rfl
                              have hcz77_2 : wc.cell? ⟨gb387, 2, none⟩ = some (.int .i64 t385) := (blk_cell BK387.out 2).trans rfl
                              have hfz77_0 := blk_frozen BK387.out 0
                              have hfz77_1 := blk_frozen BK387.out 1
                              have hfz77_2 := blk_frozen BK387.out 2
                              have hnb78 := NB392_381.out
                              have hnc78 := NB381_392.out
                              have hnb79 := NB392_382.out
                              have hnc79 := NB382_392.out
                              have hcz80_0 : wc.cell? ⟨gb392, 0, none⟩ = some (.bool x393000_33) := (blk_cell BK392.out 0).trans rfl
                              have hcz80_1 : wc.cell? ⟨gb392, 1, none⟩ = some (.string t389) := (blk_cell BK392.out 1).trans rfl
                              have hcz80_2 : wc.cell? ⟨gb392, 2, none⟩ = some (.int .i64 t390) := (blk_cell BK392.out 2).trans rfl
                              have hfz80_0 := blk_frozen BK392.out 0
                              have hfz80_1 := blk_frozen BK392.out 1
                              have hfz80_2 := blk_frozen BK392.out 2
                              go_wp2_with (first | ((with_reducible refine gate_callee (f := 50) rfl ?_); refine goesL_ (some 55) rfl rfl Tryd.func50 (by kernel_rfl) rfl #[.agg #[.bool x393000_33, .string t389, .int .i64 t390], .agg #[.bool true, .string t384, .int .i64 t385]] rfl (by (try simp only [List.map_toArray, List.map_cons, List.map_nil]); first | done | rfl | (simp only [List.length_drop, List.length_take]; rfl)) ?_; (with_reducible refine (abacusref08_size.calls kj57 x393000_33 t389 t390 true t384 t385 t393 _ A73.out).mono ?_); rintro e w81 ⟨rfl, hb⟩; refine ⟨_, rfl, ?_⟩; have n0_ := Aside0.mk (blk_below (g := gb381) (o := .cells #[.bool a0_0, .string a0_1, .int .i64 a0_2] 23 (0, 0)) (by (with_reducible repeat (first | refine blk_drewN ?_ _ | refine blk_drew ?_ | refine blk_alloc ?_ _)); exact BK381.out) hb); have n1_ := Aside0.mk (blk_below (g := gb382) (o := .cells #[.bool a1_0, .string a1_1, .int .i64 a1_2] 23 (0, 0)) (by (with_reducible repeat (first | refine blk_drewN ?_ _ | refine blk_drew ?_ | refine blk_alloc ?_ _)); exact BK382.out) hb); have n2_ := Aside0.mk (blk_below (g := gb387) (o := .cells #[.bool true, .string t384, .int .i64 t385] 23 (0, 0)) (by (with_reducible repeat (first | refine blk_drewN ?_ _ | refine blk_drew ?_ | refine blk_alloc ?_ _)); exact BK387.out) hb); have n3_ := Aside0.mk (blk_below (g := gb392) (o := .cells #[.bool x393000_33, .string t389, .int .i64 t390] 23 (0, 0)) (by (with_reducible repeat (first | refine blk_drewN ?_ _ | refine blk_drew ?_ | refine blk_alloc ?_ _)); exact BK392.out) hb); have n4_ := Aside0.mk (below_step (by repeat (first | (with_reducible first | exact HB.out | apply below_alloc | apply pw_below_drewN | apply below_drew1 | refine below_set ?_ GE381.out | refine below_set ?_ GE382.out | refine below_set ?_ GE387.out | refine below_set ?_ GE392.out) | exact HB.out)) hb); clear BK381; clear BK382; clear BK387; clear BK392; clear HB; have BK381 := n0_; have BK382 := n1_; have BK387 := n2_; have BK392 := n3_; have HB := n4_; clear n0_ n1_ n2_ n3_ n4_; (try clear hb); (try clear hb2); (try clear hk); (try clear hi)))
                              go_ret2
                              exact ⟨by first | rfl | (simp [errW_none, errW_some] <;> rfl) | (simp [*, errW_none, errW_some] <;> rfl), by repeat (first | (with_reducible first | exact HB.out | apply below_alloc | apply pw_below_drewN | apply below_drew1 | refine below_set ?_ GE381.out | refine below_set ?_ GE382.out | refine below_set ?_ GE387.out | refine below_set ?_ GE392.out) | exact HB.out)⟩
                            · replace c72 := Bool.eq_false_iff.mpr c72
                              subst c72
                              have H1 : ((abacusref08_size.f kj57 false t384 t385 x393000_33 t389 t390).bind fun t394 => (some (t394, 0))) = some (r1, r2) := by rw [if_neg (show ¬ (false = true) by decide)] at H; exact H
                              clear H
                              have H := H1
                              clear H1
                              replace H := Option.bind_eq_some_iff.mp H
                              obtain ⟨t394, A820, H⟩ := H
                              replace H : (some (t394, 0)) = some (r1, r2) := H
                              have A82 := Aside0.mk A820
                              clear A820
                              simp only [Option.some.injEq, Prod.mk.injEq] at H
                              obtain ⟨rfl, rfl⟩ := H
                              have hnb83 := NB387_381.out
                              have hnc83 := NB381_387.out
                              have hnb84 := NB387_382.out
                              have hnc84 := NB382_387.out
                              have hnb85 := NB387_392.out
                              have hnc85 := NB392_387.out
                              have hcz86_0 : wc.cell? ⟨gb387, 0, none⟩ = some (.bool false) := (blk_cell BK387.out 0).trans rfl
                              have hcz86_1 : wc.cell? ⟨gb387, 1, none⟩ = some (.string t384) := (blk_cell BK387.out 1).trans rfl
                              have hcz86_2 : wc.cell? ⟨gb387, 2, none⟩ = some (.int .i64 t385) := (blk_cell BK387.out 2).trans rfl
                              have hfz86_0 := blk_frozen BK387.out 0
                              have hfz86_1 := blk_frozen BK387.out 1
                              have hfz86_2 := blk_frozen BK387.out 2
                              have hnb87 := NB392_381.out
                              have hnc87 := NB381_392.out
                              have hnb88 := NB392_382.out
                              have hnc88 := NB382_392.out
                              have hcz89_0 : wc.cell? ⟨gb392, 0, none⟩ = some (.bool x393000_33) := (blk_cell BK392.out 0).trans rfl
                              have hcz89_1 : wc.cell? ⟨gb392, 1, none⟩ = some (.string t389) := (blk_cell BK392.out 1).trans rfl
                              have hcz89_2 : wc.cell? ⟨gb392, 2, none⟩ = some (.int .i64 t390) := (blk_cell BK392.out 2).trans rfl
                              have hfz89_0 := blk_frozen BK392.out 0
                              have hfz89_1 := blk_frozen BK392.out 1
                              have hfz89_2 := blk_frozen BK392.out 2
                              go_wp2_with (first | ((with_reducible refine gate_callee (f := 50) rfl ?_); refine goesL_ (some 58) rfl rfl Tryd.func50 (by kernel_rfl) rfl #[.agg #[.bool false, .string t384, .int .i64 t385], .agg #[.bool x393000_33, .string t389, .int .i64 t390]] rfl (by (try simp only [List.map_toArray, List.map_cons, List.map_nil]); first | done | rfl | (simp only [List.length_drop, List.length_take]; rfl)) ?_; (with_reducible refine (abacusref08_size.calls kj57 false t384 t385 x393000_33 t389 t390 t394 _ A82.out).mono ?_); rintro e w90 ⟨rfl, hb⟩; refine ⟨_, rfl, ?_⟩; have n0_ := Aside0.mk (blk_below (g := gb381) (o := .cells #[.bool a0_0, .string a0_1, .int .i64 a0_2] 23 (0, 0)) (by (with_reducible repeat (first | refine blk_drewN ?_ _ | refine blk_drew ?_ | refine blk_alloc ?_ _)); exact BK381.out) hb); have n1_ := Aside0.mk (blk_below (g := gb382) (o := .cells #[.bool a1_0, .string a1_1, .int .i64 a1_2] 23 (0, 0)) (by (with_reducible repeat (first | refine blk_drewN ?_ _ | refine blk_drew ?_ | refine blk_alloc ?_ _)); exact BK382.out) hb); have n2_ := Aside0.mk (blk_below (g := gb387) (o := .cells #[.bool false, .string t384, .int .i64 t385] 23 (0, 0)) (by (with_reducible repeat (first | refine blk_drewN ?_ _ | refine blk_drew ?_ | refine blk_alloc ?_ _)); exact BK387.out) hb); have n3_ := Aside0.mk (blk_below (g := gb392) (o := .cells #[.bool x393000_33, .string t389, .int .i64 t390] 23 (0, 0)) (by (with_reducible repeat (first | refine blk_drewN ?_ _ | refine blk_drew ?_ | refine blk_alloc ?_ _)); exact BK392.out) hb); have n4_ := Aside0.mk (below_step (by repeat (first | (with_reducible first | exact HB.out | apply below_alloc | apply pw_below_drewN | apply below_drew1 | refine below_set ?_ GE381.out | refine below_set ?_ GE382.out | refine below_set ?_ GE387.out | refine below_set ?_ GE392.out) | exact HB.out)) hb); clear BK381; clear BK382; clear BK387; clear BK392; clear HB; have BK381 := n0_; have BK382 := n1_; have BK387 := n2_; have BK392 := n3_; have HB := n4_; clear n0_ n1_ n2_ n3_ n4_; (try clear hb); (try clear hb2); (try clear hk); (try clear hi)))
                              go_ret2
                              exact ⟨by first | rfl | (simp [errW_none, errW_some] <;> rfl) | (simp [*, errW_none, errW_some] <;> rfl), by repeat (first | (with_reducible first | exact HB.out | apply below_alloc | apply pw_below_drewN | apply below_drew1 | refine below_set ?_ GE381.out | refine below_set ?_ GE382.out | refine below_set ?_ GE387.out | refine below_set ?_ GE392.out) | exact HB.out)⟩

end Go.Proofs.YtcgjfckhnpimbaaDoor.EScan
end

section
-- Written by eprint.py (a program of this session's, over the kit's print), not by hand.
namespace Go.Proofs.YtcgjfckhnpimbaaDoor.EScan
open Go.RowKit Go.Proofs.YtcgjfckhnpimbaaDoorW.PrintWords Go.Proofs.YtcgjfckhnpimbaaDoorW.PrintLast Go.Proofs.YtcgjfckhnpimbaaDoorW.PrintMore
attribute [local go_sem] max2_int min2_int max_two min_two max_three min_three max_four min_four   -- for this text's walks alone
set_option linter.unusedVariables false
set_option linter.unusedSimpArgs false

/-! ### abacuslaw08_cmps: function 23 -/
def abacuslaw08_cmps.f (k : Nat) (a0_0 : Bool) (a0_1 : ByteArray) (a0_2 : Int) (a1_0 : Bool) (a1_1 : ByteArray) (a1_2 : Int) : Option (Bool) := (abacusref08_Cmp.f k a0_0 a0_1 a0_2 a1_0 a1_1 a1_2).bind fun bt397 => ((scan_Cmp.f k a0_0 a0_1 a0_2 a1_0 a1_1 a1_2).bind fun bt399 => (if bt399.1 = bt397.1 then (some (bt399.2 == bt397.2)) else (some false)))
theorem abacuslaw08_cmps.mono : ∀ a0 a1 a2 a3 a4 a5 k, LeO (abacuslaw08_cmps.f k a0 a1 a2 a3 a4 a5) (abacuslaw08_cmps.f (k + 1) a0 a1 a2 a3 a4 a5) := by
  intro a0 a1 a2 a3 a4 a5 k
  unfold abacuslaw08_cmps.f
  repeat' first
      | (with_reducible exact abacusref08_Cmp.mono _ _ _ _ _ _ _)
      | (with_reducible exact scan_Cmp.mono _ _ _ _ _ _ _)
      | (with_reducible exact LeO.refl _)
      | (with_reducible exact LeO.none _)
      | (with_reducible refine LeO.ite ?_ ?_)
      | (with_reducible refine LeO.bind ?_ (fun _ => ?_))
      | exact abacusref08_Cmp.mono _ _ _ _ _ _ _
      | exact scan_Cmp.mono _ _ _ _ _ _ _
      | exact LeO.none _
      | refine LeO.ite ?_ ?_
      | refine LeO.bind ?_ (fun _ => ?_)
set_option maxHeartbeats 8000000 in
set_option maxRecDepth 100000 in
theorem abacuslaw08_cmps.calls (k : Nat) (a0_0 : Bool) (a0_1 : ByteArray) (a0_2 : Int) (a1_0 : Bool) (a1_1 : ByteArray) (a1_2 : Int) (r : Bool) (w : World) (h : abacuslaw08_cmps.f k a0_0 a0_1 a0_2 a1_0 a1_1 a1_2 = some r) :
    Calls Tryd.prog 23 #[.agg #[.bool a0_0, .string a0_1, .int .i64 a0_2], .agg #[.bool a1_0, .string a1_1, .int .i64 a1_2]] w fun e w' => e = .returned (.bool r) ∧ Below w.heap.size w w' := by
  have hu23 := Tryd.underlying23
  have HB := Aside0.mk (Below.refl w.heap.size w)
  have H : ((abacusref08_Cmp.f k a0_0 a0_1 a0_2 a1_0 a1_1 a1_2).bind fun bt397 => ((scan_Cmp.f k a0_0 a0_1 a0_2 a1_0 a1_1 a1_2).bind fun bt399 => (if bt399.1 = bt397.1 then (some (bt399.2 == bt397.2)) else (some false)))) = some r := h
  clear h
  replace H := Option.bind_eq_some_iff.mp H
  obtain ⟨⟨t397, t398⟩, A30, H⟩ := H
  replace H : ((scan_Cmp.f k a0_0 a0_1 a0_2 a1_0 a1_1 a1_2).bind fun bt399 => (if bt399.1 = t397 then (some (bt399.2 == t398)) else (some false))) = some r := H
  have A3 := Aside0.mk A30
  clear A30
  replace H := Option.bind_eq_some_iff.mp H
  obtain ⟨⟨t399, t400⟩, A40, H⟩ := H
  replace H : (if t399 = t397 then (some (t400 == t398)) else (some false)) = some r := H
  have A4 := Aside0.mk A40
  clear A40
  by_cases c5 : t399 = t397
  · rw [if_pos c5] at H
    have c5b0 : (t399 == t397) = true := beq_iff_eq.mpr c5
    have c5b1 : (t399 != t397) = false := bne_eq_false_iff_eq.mpr c5
    clear c5
    obtain rfl := Option.some.inj H
    go_enter Tryd.func23, Tryd.ntmps23
    go_wp2_with (first | ((with_reducible refine gate_dst (N := 2) rfl ?_); refine box_event ?hg (N := 2) ?hd (cs := #[.bool a0_0, .string a0_1, .int .i64 a0_2]) (t := 23) ?hr ?_; (case hd => rfl); (case hg => rfl); (case hr => first | (go_simp; done) | (go_simp; rfl)); intro gb395 hg w6 hbox hb; have n0_ := Aside0.mk (below_step (by repeat (first | (with_reducible first | exact HB.out | apply below_alloc | apply pw_below_drewN | apply below_drew1) | exact HB.out)) hb); have n1_ := Aside0.mk (hbox); have n2_ := Aside0.mk ((by rw [hg]; exact (below_size (by repeat (first | (with_reducible first | exact HB.out | apply below_alloc | apply pw_below_drewN | apply below_drew1) | exact HB.out))) : w.heap.size ≤ gb395)); have n3_ := Aside0.mk ((by rw [hg]; exact (below_size (by repeat (first | (with_reducible first | exact HB.out | apply below_alloc | apply pw_below_drewN | apply below_drew1) | exact HB.out))) : w.heap.size ≤ gb395)); clear HB; have HB := n0_; have BK395 := n1_; have GW395 := n2_; have GE395 := n3_; clear n0_ n1_ n2_ n3_; clear hb hbox hg) | ((with_reducible refine gate_dst (N := 3) rfl ?_); refine box_event ?hg (N := 3) ?hd (cs := #[.bool a1_0, .string a1_1, .int .i64 a1_2]) (t := 23) ?hr ?_; (case hd => rfl); (case hg => rfl); (case hr => first | (go_simp; done) | (go_simp; rfl)); intro gb396 hg w7 hbox hb; have n0_ := Aside0.mk (blk_below (g := gb395) (o := .cells #[.bool a0_0, .string a0_1, .int .i64 a0_2] 23 (0, 0)) (by (with_reducible repeat (first | refine blk_drewN ?_ _ | refine blk_drew ?_ | refine blk_alloc ?_ _)); exact BK395.out) hb); have n1_ := Aside0.mk (below_step (by repeat (first | (with_reducible first | exact HB.out | apply below_alloc | apply pw_below_drewN | apply below_drew1 | refine below_set ?_ GE395.out) | exact HB.out)) hb); have n2_ := Aside0.mk (hbox); have n3_ := Aside0.mk ((by rw [hg]; exact (below_size (by repeat (first | (with_reducible first | exact HB.out | apply below_alloc | apply pw_below_drewN | apply below_drew1 | refine below_set ?_ GE395.out) | exact HB.out))) : w.heap.size ≤ gb396)); have n4_ := Aside0.mk ((by rw [hg]; exact (below_size (by repeat (first | (with_reducible first | exact HB.out | apply below_alloc | apply pw_below_drewN | apply below_drew1 | refine below_set ?_ GE395.out) | exact HB.out))) : w.heap.size ≤ gb396)); have n5_ := Aside0.mk ((by rw [hg]; exact Nat.ne_of_lt (blk_lt (g := gb395) (o := .cells #[.bool a0_0, .string a0_1, .int .i64 a0_2] 23 (0, 0)) (by (with_reducible repeat (first | refine blk_drewN ?_ _ | refine blk_drew ?_ | refine blk_alloc ?_ _)); exact BK395.out)) : gb395 ≠ gb396)); have n6_ := Aside0.mk ((by rw [hg]; exact Nat.ne_of_gt (blk_lt (g := gb395) (o := .cells #[.bool a0_0, .string a0_1, .int .i64 a0_2] 23 (0, 0)) (by (with_reducible repeat (first | refine blk_drewN ?_ _ | refine blk_drew ?_ | refine blk_alloc ?_ _)); exact BK395.out)) : gb396 ≠ gb395)); clear BK395; clear HB; have BK395 := n0_; have HB := n1_; have BK396 := n2_; have GW396 := n3_; have GE396 := n4_; have NB395_396 := n5_; have NB396_395 := n6_; clear n0_ n1_ n2_ n3_ n4_ n5_ n6_; clear hb hbox hg; have hnb8 := NB395_396.out; have hnc8 := NB396_395.out; have hcz9_0 : w7.cell? ⟨gb395, 0, none⟩ = some (.bool a0_0) := (blk_cell BK395.out 0).trans rfl; have hcz9_1 : w7.cell? ⟨gb395, 1, none⟩ = some (.string a0_1) := (blk_cell BK395.out 1).trans rfl; have hcz9_2 : w7.cell? ⟨gb395, 2, none⟩ = some (.int .i64 a0_2) := (blk_cell BK395.out 2).trans rfl; have hfz9_0 := blk_frozen BK395.out 0; have hfz9_1 := blk_frozen BK395.out 1; have hfz9_2 := blk_frozen BK395.out 2; have hcz10_0 : w7.cell? ⟨gb396, 0, none⟩ = some (.bool a1_0) := (blk_cell BK396.out 0).trans rfl; have hcz10_1 : w7.cell? ⟨gb396, 1, none⟩ = some (.string a1_1) := (blk_cell BK396.out 1).trans rfl; have hcz10_2 : w7.cell? ⟨gb396, 2, none⟩ = some (.int .i64 a1_2) := (blk_cell BK396.out 2).trans rfl; have hfz10_0 := blk_frozen BK396.out 0; have hfz10_1 := blk_frozen BK396.out 1; have hfz10_2 := blk_frozen BK396.out 2) | ((with_reducible refine gate_callee (f := 38) rfl ?_); refine goesL_ (some 12) rfl rfl Tryd.func38 (by kernel_rfl) rfl #[.agg #[.bool a0_0, .string a0_1, .int .i64 a0_2], .agg #[.bool a1_0, .string a1_1, .int .i64 a1_2]] rfl (by (try simp only [List.map_toArray, List.map_cons, List.map_nil]); first | done | rfl | (simp only [List.length_drop, List.length_take]; rfl)) ?_; (with_reducible refine (abacusref08_Cmp.calls k a0_0 a0_1 a0_2 a1_0 a1_1 a1_2 t397 t398 _ A3.out).mono ?_); rintro e w11 ⟨rfl, hb⟩; refine ⟨_, rfl, ?_⟩; have n0_ := Aside0.mk (blk_below (g := gb395) (o := .cells #[.bool a0_0, .string a0_1, .int .i64 a0_2] 23 (0, 0)) (by (with_reducible repeat (first | refine blk_drewN ?_ _ | refine blk_drew ?_ | refine blk_alloc ?_ _)); exact BK395.out) hb); have n1_ := Aside0.mk (blk_below (g := gb396) (o := .cells #[.bool a1_0, .string a1_1, .int .i64 a1_2] 23 (0, 0)) (by (with_reducible repeat (first | refine blk_drewN ?_ _ | refine blk_drew ?_ | refine blk_alloc ?_ _)); exact BK396.out) hb); have n2_ := Aside0.mk (below_step (by repeat (first | (with_reducible first | exact HB.out | apply below_alloc | apply pw_below_drewN | apply below_drew1 | refine below_set ?_ GE395.out | refine below_set ?_ GE396.out) | exact HB.out)) hb); clear BK395; clear BK396; clear HB; have BK395 := n0_; have BK396 := n1_; have HB := n2_; clear n0_ n1_ n2_; (try clear hb); (try clear hb2); (try clear hk); (try clear hi); have hcz12_0 : w11.cell? ⟨gb395, 0, none⟩ = some (.bool a0_0) := (blk_cell BK395.out 0).trans rfl; have hcz12_1 : w11.cell? ⟨gb395, 1, none⟩ = some (.string a0_1) := (blk_cell BK395.out 1).trans rfl; have hcz12_2 : w11.cell? ⟨gb395, 2, none⟩ = some (.int .i64 a0_2) := (blk_cell BK395.out 2).trans rfl; have hfz12_0 := blk_frozen BK395.out 0; have hfz12_1 := blk_frozen BK395.out 1; have hfz12_2 := blk_frozen BK395.out 2; have hcz13_0 : w11.cell? ⟨gb396, 0, none⟩ = some (.bool a1_0) := (blk_cell BK396.out 0).trans rfl; have hcz13_1 : w11.cell? ⟨gb396, 1, none⟩ = some (.string a1_1) := (blk_cell BK396.out 1).trans rfl; have hcz13_2 : w11.cell? ⟨gb396, 2, none⟩ = some (.int .i64 a1_2) := (blk_cell BK396.out 2).trans rfl; have hfz13_0 := blk_frozen BK396.out 0; have hfz13_1 := blk_frozen BK396.out 1; have hfz13_2 := blk_frozen BK396.out 2) | ((with_reducible refine gate_callee (f := 9) rfl ?_); refine goesL_ (some 18) rfl rfl Tryd.func9 (by kernel_rfl) rfl #[.agg #[.bool a0_0, .string a0_1, .int .i64 a0_2], .agg #[.bool a1_0, .string a1_1, .int .i64 a1_2]] rfl (by (try simp only [List.map_toArray, List.map_cons, List.map_nil]); first | done | rfl | (simp only [List.length_drop, List.length_take]; rfl)) ?_; (with_reducible refine (scan_Cmp.calls k a0_0 a0_1 a0_2 a1_0 a1_1 a1_2 t399 t400 _ A4.out).mono ?_); rintro e w14 ⟨rfl, hb⟩; refine ⟨_, rfl, ?_⟩; have n0_ := Aside0.mk (blk_below (g := gb395) (o := .cells #[.bool a0_0, .string a0_1, .int .i64 a0_2] 23 (0, 0)) (by (with_reducible repeat (first | refine blk_drewN ?_ _ | refine blk_drew ?_ | refine blk_alloc ?_ _)); exact BK395.out) hb); have n1_ := Aside0.mk (blk_below (g := gb396) (o := .cells #[.bool a1_0, .string a1_1, .int .i64 a1_2] 23 (0, 0)) (by (with_reducible repeat (first | refine blk_drewN ?_ _ | refine blk_drew ?_ | refine blk_alloc ?_ _)); exact BK396.out) hb); have n2_ := Aside0.mk (below_step (by repeat (first | (with_reducible first | exact HB.out | apply below_alloc | apply pw_below_drewN | apply below_drew1 | refine below_set ?_ GE395.out | refine below_set ?_ GE396.out) | exact HB.out)) hb); clear BK395; clear BK396; clear HB; have BK395 := n0_; have BK396 := n1_; have HB := n2_; clear n0_ n1_ n2_; (try clear hb); (try clear hb2); (try clear hk); (try clear hi)))
    go_ret
    exact ⟨by first | rfl | (simp [errW_none, errW_some] <;> rfl) | (simp [*, errW_none, errW_some] <;> rfl), by repeat (first | (with_reducible first | exact HB.out | apply below_alloc | apply pw_below_drewN | apply below_drew1 | refine below_set ?_ GE395.out | refine below_set ?_ GE396.out) | exact HB.out)⟩
  · rw [if_neg c5] at H
    have c5b0 : (t399 == t397) = false := beq_eq_false_iff_ne.mpr c5
    have c5b1 : (t399 != t397) = true := bne_iff_ne.mpr c5
    obtain rfl := Option.some.inj H
    go_enter Tryd.func23, Tryd.ntmps23
    go_wp2_with (first | ((with_reducible refine gate_dst (N := 2) rfl ?_); refine box_event ?hg (N := 2) ?hd (cs := #[.bool a0_0, .string a0_1, .int .i64 a0_2]) (t := 23) ?hr ?_; (case hd => rfl); (case hg => rfl); (case hr => first | (go_simp; done) | (go_simp; rfl)); intro gb395 hg w15 hbox hb; have n0_ := Aside0.mk (below_step (by repeat (first | (with_reducible first | exact HB.out | apply below_alloc | apply pw_below_drewN | apply below_drew1) | exact HB.out)) hb); have n1_ := Aside0.mk (hbox); have n2_ := Aside0.mk ((by rw [hg]; exact (below_size (by repeat (first | (with_reducible first | exact HB.out | apply below_alloc | apply pw_below_drewN | apply below_drew1) | exact HB.out))) : w.heap.size ≤ gb395)); have n3_ := Aside0.mk ((by rw [hg]; exact (below_size (by repeat (first | (with_reducible first | exact HB.out | apply below_alloc | apply pw_below_drewN | apply below_drew1) | exact HB.out))) : w.heap.size ≤ gb395)); clear HB; have HB := n0_; have BK395 := n1_; have GW395 := n2_; have GE395 := n3_; clear n0_ n1_ n2_ n3_; clear hb hbox hg) | ((with_reducible refine gate_dst (N := 3) rfl ?_); refine box_event ?hg (N := 3) ?hd (cs := #[.bool a1_0, .string a1_1, .int .i64 a1_2]) (t := 23) ?hr ?_; (case hd => rfl); (case hg => rfl); (case hr => first | (go_simp; done) | (go_simp; rfl)); intro gb396 hg w16 hbox hb; have n0_ := Aside0.mk (blk_below (g := gb395) (o := .cells #[.bool a0_0, .string a0_1, .int .i64 a0_2] 23 (0, 0)) (by (with_reducible repeat (first | refine blk_drewN ?_ _ | refine blk_drew ?_ | refine blk_alloc ?_ _)); exact BK395.out) hb); have n1_ := Aside0.mk (below_step (by repeat (first | (with_reducible first | exact HB.out | apply below_alloc | apply pw_below_drewN | apply below_drew1 | refine below_set ?_ GE395.out) | exact HB.out)) hb); have n2_ := Aside0.mk (hbox); have n3_ := Aside0.mk ((by rw [hg]; exact (below_size (by repeat (first | (with_reducible first | exact HB.out | apply below_alloc | apply pw_below_drewN | apply below_drew1 | refine below_set ?_ GE395.out) | exact HB.out))) : w.heap.size ≤ gb396)); have n4_ := Aside0.mk ((by rw [hg]; exact (below_size (by repeat (first | (with_reducible first | exact HB.out | apply below_alloc | apply pw_below_drewN | apply below_drew1 | refine below_set ?_ GE395.out) | exact HB.out))) : w.heap.size ≤ gb396)); have n5_ := Aside0.mk ((by rw [hg]; exact Nat.ne_of_lt (blk_lt (g := gb395) (o := .cells #[.bool a0_0, .string a0_1, .int .i64 a0_2] 23 (0, 0)) (by (with_reducible repeat (first | refine blk_drewN ?_ _ | refine blk_drew ?_ | refine blk_alloc ?_ _)); exact BK395.out)) : gb395 ≠ gb396)); have n6_ := Aside0.mk ((by rw [hg]; exact Nat.ne_of_gt (blk_lt (g := gb395) (o := .cells #[.bool a0_0, .string a0_1, .int .i64 a0_2] 23 (0, 0)) (by (with_reducible repeat (first | refine blk_drewN ?_ _ | refine blk_drew ?_ | refine blk_alloc ?_ _)); exact BK395.out)) : gb396 ≠ gb395)); clear BK395; clear HB; have BK395 := n0_; have HB := n1_; have BK396 := n2_; have GW396 := n3_; have GE396 := n4_; have NB395_396 := n5_; have NB396_395 := n6_; clear n0_ n1_ n2_ n3_ n4_ n5_ n6_; clear hb hbox hg; have hnb17 := NB395_396.out; have hnc17 := NB396_395.out; have hcz18_0 : w16.cell? ⟨gb395, 0, none⟩ = some (.bool a0_0) := (blk_cell BK395.out 0).trans rfl; have hcz18_1 : w16.cell? ⟨gb395, 1, none⟩ = some (.string a0_1) := (blk_cell BK395.out 1).trans rfl; have hcz18_2 : w16.cell? ⟨gb395, 2, none⟩ = some (.int .i64 a0_2) := (blk_cell BK395.out 2).trans rfl; have hfz18_0 := blk_frozen BK395.out 0; have hfz18_1 := blk_frozen BK395.out 1; have hfz18_2 := blk_frozen BK395.out 2; have hcz19_0 : w16.cell? ⟨gb396, 0, none⟩ = some (.bool a1_0) := (blk_cell BK396.out 0).trans rfl; have hcz19_1 : w16.cell? ⟨gb396, 1, none⟩ = some (.string a1_1) := (blk_cell BK396.out 1).trans rfl; have hcz19_2 : w16.cell? ⟨gb396, 2, none⟩ = some (.int .i64 a1_2) := (blk_cell BK396.out 2).trans rfl; have hfz19_0 := blk_frozen BK396.out 0; have hfz19_1 := blk_frozen BK396.out 1; have hfz19_2 := blk_frozen BK396.out 2) | ((with_reducible refine gate_callee (f := 38) rfl ?_); refine goesL_ (some 12) rfl rfl Tryd.func38 (by kernel_rfl) rfl #[.agg #[.bool a0_0, .string a0_1, .int .i64 a0_2], .agg #[.bool a1_0, .string a1_1, .int .i64 a1_2]] rfl (by (try simp only [List.map_toArray, List.map_cons, List.map_nil]); first | done | rfl | (simp only [List.length_drop, List.length_take]; rfl)) ?_; (with_reducible refine (abacusref08_Cmp.calls k a0_0 a0_1 a0_2 a1_0 a1_1 a1_2 t397 t398 _ A3.out).mono ?_); rintro e w20 ⟨rfl, hb⟩; refine ⟨_, rfl, ?_⟩; have n0_ := Aside0.mk (blk_below (g := gb395) (o := .cells #[.bool a0_0, .string a0_1, .int .i64 a0_2] 23 (0, 0)) (by (with_reducible repeat (first | refine blk_drewN ?_ _ | refine blk_drew ?_ | refine blk_alloc ?_ _)); exact BK395.out) hb); have n1_ := Aside0.mk (blk_below (g := gb396) (o := .cells #[.bool a1_0, .string a1_1, .int .i64 a1_2] 23 (0, 0)) (by (with_reducible repeat (first | refine blk_drewN ?_ _ | refine blk_drew ?_ | refine blk_alloc ?_ _)); exact BK396.out) hb); have n2_ := Aside0.mk (below_step (by repeat (first | (with_reducible first | exact HB.out | apply below_alloc | apply pw_below_drewN | apply below_drew1 | refine below_set ?_ GE395.out | refine below_set ?_ GE396.out) | exact HB.out)) hb); clear BK395; clear BK396; clear HB; have BK395 := n0_; have BK396 := n1_; have HB := n2_; clear n0_ n1_ n2_; (try clear hb); (try clear hb2); (try clear hk); (try clear hi); have hcz21_0 : w20.cell? ⟨gb395, 0, none⟩ = some (.bool a0_0) := (blk_cell BK395.out 0).trans rfl; have hcz21_1 : w20.cell? ⟨gb395, 1, none⟩ = some (.string a0_1) := (blk_cell BK395.out 1).trans rfl; have hcz21_2 : w20.cell? ⟨gb395, 2, none⟩ = some (.int .i64 a0_2) := (blk_cell BK395.out 2).trans rfl; have hfz21_0 := blk_frozen BK395.out 0; have hfz21_1 := blk_frozen BK395.out 1; have hfz21_2 := blk_frozen BK395.out 2; have hcz22_0 : w20.cell? ⟨gb396, 0, none⟩ = some (.bool a1_0) := (blk_cell BK396.out 0).trans rfl; have hcz22_1 : w20.cell? ⟨gb396, 1, none⟩ = some (.string a1_1) := (blk_cell BK396.out 1).trans rfl; have hcz22_2 : w20.cell? ⟨gb396, 2, none⟩ = some (.int .i64 a1_2) := (blk_cell BK396.out 2).trans rfl; have hfz22_0 := blk_frozen BK396.out 0; have hfz22_1 := blk_frozen BK396.out 1; have hfz22_2 := blk_frozen BK396.out 2) | ((with_reducible refine gate_callee (f := 9) rfl ?_); refine goesL_ (some 18) rfl rfl Tryd.func9 (by kernel_rfl) rfl #[.agg #[.bool a0_0, .string a0_1, .int .i64 a0_2], .agg #[.bool a1_0, .string a1_1, .int .i64 a1_2]] rfl (by (try simp only [List.map_toArray, List.map_cons, List.map_nil]); first | done | rfl | (simp only [List.length_drop, List.length_take]; rfl)) ?_; (with_reducible refine (scan_Cmp.calls k a0_0 a0_1 a0_2 a1_0 a1_1 a1_2 t399 t400 _ A4.out).mono ?_); rintro e w23 ⟨rfl, hb⟩; refine ⟨_, rfl, ?_⟩; have n0_ := Aside0.mk (blk_below (g := gb395) (o := .cells #[.bool a0_0, .string a0_1, .int .i64 a0_2] 23 (0, 0)) (by (with_reducible repeat (first | refine blk_drewN ?_ _ | refine blk_drew ?_ | refine blk_alloc ?_ _)); exact BK395.out) hb); have n1_ := Aside0.mk (blk_below (g := gb396) (o := .cells #[.bool a1_0, .string a1_1, .int .i64 a1_2] 23 (0, 0)) (by (with_reducible repeat (first | refine blk_drewN ?_ _ | refine blk_drew ?_ | refine blk_alloc ?_ _)); exact BK396.out) hb); have n2_ := Aside0.mk (below_step (by repeat (first | (with_reducible first | exact HB.out | apply below_alloc | apply pw_below_drewN | apply below_drew1 | refine below_set ?_ GE395.out | refine below_set ?_ GE396.out) | exact HB.out)) hb); clear BK395; clear BK396; clear HB; have BK395 := n0_; have BK396 := n1_; have HB := n2_; clear n0_ n1_ n2_; (try clear hb); (try clear hb2); (try clear hk); (try clear hi)))
    go_ret
    exact ⟨by first | rfl | (simp [errW_none, errW_some] <;> rfl) | (simp [*, errW_none, errW_some] <;> rfl), by repeat (first | (with_reducible first | exact HB.out | apply below_alloc | apply pw_below_drewN | apply below_drew1 | refine below_set ?_ GE395.out | refine below_set ?_ GE396.out) | exact HB.out)⟩

end Go.Proofs.YtcgjfckhnpimbaaDoor.EScan
end
