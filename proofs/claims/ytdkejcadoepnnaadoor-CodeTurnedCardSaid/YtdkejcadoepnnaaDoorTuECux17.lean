/-
 A text of this session's own.
-/
import Derived.Test.YtdkejcadoepnnaaDoorTuA0
import Derived.Test.YtdkejcadoepnnaaDoorTuECcx0
import Derived.Test.YtdkejcadoepnnaaDoorTuXMk
namespace Go.Proofs.YtdkejcadoepnnaaDoor.ECc
open Go.RowKit Go.Proofs.YtdkejcadoepnnaaDoorW.PrintWords Go.Proofs.YtdkejcadoepnnaaDoorW.PrintLast Go.Proofs.YtdkejcadoepnnaaDoorW.PrintMore
open Go.Proofs.YtdkejcadoepnnaaDoor.X
attribute [local go_sem] max2_int min2_int max_two min_two max_three min_three max_four min_four   -- for this text's walks alone
set_option linter.unusedVariables false
set_option linter.unusedSimpArgs false
theorem info9 : (Tryd.prog.info? 9).map (fun i => (i.zero, i.size, i.bytes)) = some (some (.string ⟨#[]⟩), 1, 16) := by kernel_rfl
def abacuslaw26_copied.f (l0_0 : List (S41)) (l0_1 : List Int) (l0_2 : List ByteArray) : Option ((List (S41)) × List Int × List ByteArray) := if ([] : List (S41)).length + l0_0.length < 5864062014805 then (if ([] : List Int).length + l0_1.length < 17592186044416 then (if ([] : List ByteArray).length + l0_2.length < 8796093022208 then (some ((([] : List (S41)) ++ l0_0), (([] : List Int) ++ l0_1), (([] : List ByteArray) ++ l0_2))) else (none)) else (none)) else (none)
def abacuslaw26_copied.T2 : Bool × List (List Nat × List Nat) := (true, [([], []), ([0], [0]), ([1], [1]), ([2], [2]), ([], []), ([4], [4]), ([3, 5], [3, 5]), ([0, 1, 2, 3, 4, 5, 6], []), ([7, 6, 6, 0, 1, 2, 3, 4, 5, 6], [6, 7])])
def abacuslaw26_copied.B2 : List Nat := [0, 1, 3, 7, 0, 16, 63, 127, 255]
theorem abacuslaw26_copied.tab2 : rtab .any (opsOf Tryd.f18 2) = abacuslaw26_copied.T2 := by kernel_rfl
theorem abacuslaw26_copied.bits2 : waitsOk abacuslaw26_copied.T2.2 abacuslaw26_copied.B2 = true := by kernel_rfl
def abacuslaw26_copied.T3 : Bool × List (List Nat × List Nat) := (true, [([], []), ([0], [0]), ([1], [1]), ([2], [2]), ([], []), ([4], [4]), ([3, 5], [3, 5]), ([0, 1, 2, 3, 4, 5, 6], []), ([7, 6, 6, 0, 1, 2, 3, 4, 5, 6], [6, 7])])
def abacuslaw26_copied.B3 : List Nat := [0, 1, 3, 7, 0, 16, 63, 127, 255]
theorem abacuslaw26_copied.tab3 : rtab .any (opsOf Tryd.f18 3) = abacuslaw26_copied.T3 := by kernel_rfl
theorem abacuslaw26_copied.bits3 : waitsOk abacuslaw26_copied.T3.2 abacuslaw26_copied.B3 = true := by kernel_rfl
def abacuslaw26_copied.T4 : Bool × List (List Nat × List Nat) := (true, [([], []), ([0], [0]), ([1], [1]), ([2], [2]), ([], []), ([4], [4]), ([3, 5], [3, 5]), ([0, 1, 2, 3, 4, 5, 6], []), ([7, 6, 6, 0, 1, 2, 3, 4, 5, 6], [6, 7])])
def abacuslaw26_copied.B4 : List Nat := [0, 1, 3, 7, 0, 16, 63, 127, 255]
theorem abacuslaw26_copied.tab4 : rtab .any (opsOf Tryd.f18 4) = abacuslaw26_copied.T4 := by kernel_rfl
theorem abacuslaw26_copied.bits4 : waitsOk abacuslaw26_copied.T4.2 abacuslaw26_copied.B4 = true := by kernel_rfl
set_option maxHeartbeats 8000000 in
set_option maxRecDepth 100000 in
theorem abacuslaw26_copied.calls (A0_0 : Option Addr) (c0_0 : Nat) (l0_0 : List (S41)) (A0_1 : Option Addr) (c0_1 : Nat) (l0_1 : List Int) (A0_2 : Option Addr) (c0_2 : Nat) (l0_2 : List ByteArray) (r1 : List (S41)) (r2 : List Int) (r3 : List ByteArray) (w : World) (hr0_0 : Kd.C k41 w A0_0 l0_0.length l0_0) (hc0_0 : l0_0.length ≤ c0_0) (hr0_1 : Kd.C (Kd.int .u64) w A0_1 l0_1.length l0_1) (hc0_1 : l0_1.length ≤ c0_1) (hr0_2 : Kd.C Kd.string w A0_2 l0_2.length l0_2) (hc0_2 : l0_2.length ≤ c0_2) (h : abacuslaw26_copied.f l0_0 l0_1 l0_2 = some (r1, r2, r3)) :
  Calls Tryd.prog 18 #[.agg #[.slice A0_0 l0_0.length c0_0, .slice A0_1 l0_1.length c0_1, .slice A0_2 l0_2.length c0_2]] w fun e w' => ∃ v0_ v1_ v2_ : Value, e = .returned (.agg #[v0_, v1_, v2_]) ∧ Kd.R k41 41 w' w.heap.size (fun _ => True) v0_ r1 ∧ Kd.R (Kd.int .u64) 66 w' w.heap.size (fun _ => True) v1_ r2 ∧ Kd.R Kd.string 9 w' w.heap.size (fun _ => True) v2_ r3 ∧ Below w.heap.size w w' := by
 have hu26 := Tryd.underlying26
 have HR0_0 := Aside0.mk hr0_0
 have HC0_0 := Aside0.mk hc0_0
 clear hr0_0 hc0_0
 have HR0_1 := Aside0.mk hr0_1
 have HC0_1 := Aside0.mk hc0_1
 clear hr0_1 hc0_1
 have HR0_2 := Aside0.mk hr0_2
 have HC0_2 := Aside0.mk hc0_2
 clear hr0_2 hc0_2
 have HB := Aside0.mk (Below.refl w.heap.size w)
 have H : (if ([] : List (S41)).length + l0_0.length < 5864062014805 then (if ([] : List Int).length + l0_1.length < 17592186044416 then (if ([] : List ByteArray).length + l0_2.length < 8796093022208 then (some ((([] : List (S41)) ++ l0_0), (([] : List Int) ++ l0_1), (([] : List ByteArray) ++ l0_2))) else (none)) else (none)) else (none)) = some (r1, r2, r3) := h
 clear h
 by_cases c2 : ([] : List (S41)).length + l0_0.length < 5864062014805
 rotate_left
 ·rw [if_neg c2] at H
  exact absurd H (by simp)
 rw [if_pos c2] at H
 have LMc2 := Aside0.mk c2
 clear c2
 obtain ⟨y264, hy264⟩ : ∃ y_ : List (S41), y_ = (([] : List (S41)) ++ l0_0) := ⟨_, rfl⟩
 replace H : (if ([] : List Int).length + l0_1.length < 17592186044416 then (if ([] : List ByteArray).length + l0_2.length < 8796093022208 then (some (y264, (([] : List Int) ++ l0_1), (([] : List ByteArray) ++ l0_2))) else (none)) else (none)) = some (r1, r2, r3) := by first | (rw [hy264]; with_reducible exact H) | (have H2_ := (Option.bind_some _ _).symm.trans H; rw [hy264]; with_reducible exact H2_) | (have H2_ := (Option.bind_some _ _).symm.trans H; with_reducible exact H2_) | with_reducible exact H | (rw [hy264]; exact H) | exact H
 have Ny264 := Aside0.mk hy264
 clear hy264
 by_cases c3 : ([] : List Int).length + l0_1.length < 17592186044416
 rotate_left
 ·rw [if_neg c3] at H
  exact absurd H (by simp)
 rw [if_pos c3] at H
 have LMc3 := Aside0.mk c3
 clear c3
 obtain ⟨y267, hy267⟩ : ∃ y_ : List Int, y_ = (([] : List Int) ++ l0_1) := ⟨_, rfl⟩
 replace H : (if ([] : List ByteArray).length + l0_2.length < 8796093022208 then (some (y264, y267, (([] : List ByteArray) ++ l0_2))) else (none)) = some (r1, r2, r3) := by first | (rw [hy267]; with_reducible exact H) | (have H2_ := (Option.bind_some _ _).symm.trans H; rw [hy267]; with_reducible exact H2_) | (have H2_ := (Option.bind_some _ _).symm.trans H; with_reducible exact H2_) | with_reducible exact H | (rw [hy267]; exact H) | exact H
 have Ny267 := Aside0.mk hy267
 clear hy267
 by_cases c4 : ([] : List ByteArray).length + l0_2.length < 8796093022208
 rotate_left
 ·rw [if_neg c4] at H
  exact absurd H (by simp)
 rw [if_pos c4] at H
 have LMc4 := Aside0.mk c4
 clear c4
 obtain ⟨y270, hy270⟩ : ∃ y_ : List ByteArray, y_ = (([] : List ByteArray) ++ l0_2) := ⟨_, rfl⟩
 replace H : (some (y264, y267, y270)) = some (r1, r2, r3) := by first | (rw [hy270]; with_reducible exact H) | (have H2_ := (Option.bind_some _ _).symm.trans H; rw [hy270]; with_reducible exact H2_) | (have H2_ := (Option.bind_some _ _).symm.trans H; with_reducible exact H2_) | with_reducible exact H | (rw [hy270]; exact H) | exact H
 have Ny270 := Aside0.mk hy270
 clear hy270
 simp only [Option.some.injEq, Prod.mk.injEq] at H
 obtain ⟨rfl, rfl, rfl⟩ := H
 go_enter Tryd.func18, Tryd.ntmps18
 try go_wp2_with (first | ((with_reducible refine gate_dst (N := 1) rfl ?_); refine box_event ?hg (N := 1) ?hd (cs := #[.slice A0_0 l0_0.length c0_0, .slice A0_1 l0_1.length c0_1, .slice A0_2 l0_2.length c0_2]) (t := 26) ?hr ?_; (case hd => rfl); (case hg => rfl); (case hr => first | (go_simp; done) | (go_simp; rfl)); intro gb261 hg w5 hbox hb; have n0_ := Aside0.mk (below_step bl hb); have n1_ := Aside0.mk (hbox); have n2_ := Aside0.mk ((by rw [hg]; exact (below_size bl) : w.heap.size ≤ gb261)); have n3_ := Aside0.mk ((by rw [hg]; exact (below_size bl) : w.heap.size ≤ gb261)); clear HB; have HB := n0_; have BK261 := n1_; have GW261 := n2_; have GE261 := n3_; clear n0_ n1_ n2_ n3_; clear hb hbox hg) | ((with_reducible refine gate_dst (N := 2) rfl ?_); refine box_event ?hg (N := 2) ?hd (cs := #[.slice none 0 0, .slice none 0 0, .slice none 0 0]) (t := 26) ?hr ?_; (case hd => rfl); (case hg => rfl); (case hr => first | (go_simp; done) | (go_simp; rfl)); intro gb262 hg w6 hbox hb; have n0_ := Aside0.mk (blk_below (bu BK261.out) hb); have n1_ := Aside0.mk (below_step bs hb); have n2_ := Aside0.mk (hbox); have n3_ := Aside0.mk ((by rw [hg]; exact (below_size bs) : w.heap.size ≤ gb262)); have n4_ := Aside0.mk ((by rw [hg]; exact (below_size bs) : w.heap.size ≤ gb262)); have n5_ := Aside0.mk ((by rw [hg]; exact Nat.ne_of_lt (blk_lt (bu BK261.out)) : gb261 ≠ gb262)); have n6_ := Aside0.mk ((by rw [hg]; exact Nat.ne_of_gt (blk_lt (bu BK261.out)) : gb262 ≠ gb261)); clear BK261; clear HB; have BK261 := n0_; have HB := n1_; have BK262 := n2_; have GW262 := n3_; have GE262 := n4_; have NB261_262 := n5_; have NB262_261 := n6_; clear n0_ n1_ n2_ n3_ n4_ n5_ n6_; clear hb hbox hg) | ((with_reducible refine gate_dst (N := 3) rfl ?_); refine box_event ?hg (N := 3) ?hd (cs := #[.slice none 0 0, .slice none 0 0, .slice none 0 0]) (t := 26) ?hr ?_; (case hd => rfl); (case hg => rfl); (case hr => first | (go_simp; done) | (go_simp; rfl)); intro gb263 hg w7 hbox hb; have n0_ := Aside0.mk (blk_below (bu BK261.out) hb); have n1_ := Aside0.mk (blk_below (bu BK262.out) hb); have n2_ := Aside0.mk (below_step bs hb); have n3_ := Aside0.mk (hbox); have n4_ := Aside0.mk ((by rw [hg]; exact (below_size bs) : w.heap.size ≤ gb263)); have n5_ := Aside0.mk ((by rw [hg]; exact (below_size bs) : w.heap.size ≤ gb263)); have n6_ := Aside0.mk ((by rw [hg]; exact Nat.ne_of_lt (blk_lt (bu BK261.out)) : gb261 ≠ gb263)); have n7_ := Aside0.mk ((by rw [hg]; exact Nat.ne_of_gt (blk_lt (bu BK261.out)) : gb263 ≠ gb261)); have n8_ := Aside0.mk ((by rw [hg]; exact Nat.ne_of_lt (blk_lt (bu BK262.out)) : gb262 ≠ gb263)); have n9_ := Aside0.mk ((by rw [hg]; exact Nat.ne_of_gt (blk_lt (bu BK262.out)) : gb263 ≠ gb262)); clear BK261; clear BK262; clear HB; have BK261 := n0_; have BK262 := n1_; have HB := n2_; have BK263 := n3_; have GW263 := n4_; have GE263 := n5_; have NB261_263 := n6_; have NB263_261 := n7_; have NB262_263 := n8_; have NB263_262 := n9_; clear n0_ n1_ n2_ n3_ n4_ n5_ n6_ n7_ n8_ n9_; clear hb hbox hg))
 have n0_ := Aside0.mk (blk_drew BK261.out)
 have n1_ := Aside0.mk (blk_drew BK262.out)
 have n2_ := Aside0.mk (blk_drew BK263.out)
 have n3_ := Aside0.mk (below_drew1 HB.out)
 clear BK261
 clear BK262
 clear BK263
 clear HB
 have BK261 := n0_
 have BK262 := n1_
 have BK263 := n2_
 have HB := n3_
 clear n0_ n1_ n2_ n3_
 refine start_ (n := 9) (S := fun w' => w'.cell? ⟨gb261, 0, none⟩ = some (.slice A0_0 l0_0.length c0_0) ∧ w'.cell? ⟨gb261, 1, none⟩ = some (.slice A0_1 l0_1.length c0_1) ∧ w'.cell? ⟨gb261, 2, none⟩ = some (.slice A0_2 l0_2.length c0_2)) (ds := []) #[false, false, false, false, false, false, false, false, false] (by kernel_rfl) rfl rfl ⟨(blk_cell BK261.out 0).trans rfl, (blk_cell BK261.out 1).trans rfl, (blk_cell BK261.out 2).trans rfl⟩ (fun hHeld => ?_); refine with_tabW abacuslaw26_copied.tab2 abacuslaw26_copied.bits2 (fun HT_ HW_ => ?_)
 generalize w7.drew = w8 at BK261 BK262 BK263 HB hHeld ⊢
 refine pure_ (i := 0) (N := some 4) (v := ?_) (a' := ?_) #[true, false, false, false, false, false, false, false, false] rfl rfl (any_of HT_.out (by kernel_rfl)) (fun _ _ _ h => h) (Or.inl ⟨by rfl, ?_⟩) ?_ ?_
 rotate_left
 ·intro w'
  go_simp
  with_reducible rfl
 rotate_left
 ·simp only [Act.put, List.setIfInBounds_toArray, List.set_cons_zero, List.set_cons_succ, i64_w, i32_w]
  rfl
 refine pure_ (i := 4) (N := some 8) (v := ?_) (a' := ?_) #[true, false, false, false, true, false, false, false, false] rfl rfl (any_of HT_.out (by kernel_rfl)) (fun _ _ _ h => h) (Or.inl ⟨by rfl, ?_⟩) ?_ ?_
 rotate_left
 ·intro w'
  go_simp
  with_reducible rfl
 rotate_left
 ·simp only [Act.put, List.setIfInBounds_toArray, List.set_cons_zero, List.set_cons_succ, i64_w, i32_w]
  rfl
 refine take_ (i := 1) (N := some 5) (v := ?_) (a' := ?_) #[true, true, false, false, true, false, false, false, false] rfl rfl (take_ofW HT_.out HW_.out (by kernel_rfl)) (fun _ _ _ h => h) (Or.inl ⟨by rfl, ?_⟩) hHeld ?_ ?_
 rotate_left
 ·rintro w' ⟨s0, s1, s2⟩
  go_simp
  with_reducible rfl
 rotate_left
 ·simp only [Act.put, List.setIfInBounds_toArray, List.set_cons_zero, List.set_cons_succ, i64_w, i32_w]
  rfl
 refine pure_ (i := 2) (N := some 6) (v := ?_) (a' := ?_) #[true, true, true, false, true, false, false, false, false] rfl rfl (any_of HT_.out (by kernel_rfl)) (fun _ _ _ h => h) (Or.inl ⟨by rfl, ?_⟩) ?_ ?_
 rotate_left
 ·intro w'
  go_simp
  with_reducible rfl
 rotate_left
 ·simp only [Act.put, List.setIfInBounds_toArray, List.set_cons_zero, List.set_cons_succ, i64_w, i32_w]
  rfl
 refine take_ (i := 5) (N := some 9) (v := ?_) (a' := ?_) #[true, true, true, false, true, true, false, false, false] rfl rfl (take_ofW HT_.out HW_.out (by kernel_rfl)) (fun _ _ _ h => h) (Or.inl ⟨by rfl, ?_⟩) hHeld ?_ ?_
 rotate_left
 ·rintro w' ⟨s0, s1, s2⟩
  go_simp
  with_reducible rfl
 rotate_left
 ·simp only [Act.put, List.setIfInBounds_toArray, List.set_cons_zero, List.set_cons_succ, i64_w, i32_w]
  rfl
 refine one_ (i := 3) (N := some 7) #[true, true, true, true, true, true, false, false, false] rfl rfl (one_of HT_.out (by kernel_rfl)) (by decide) (fun K hK => ?_)
 refine R_make0_step k41 (w0 := w) w.heap.size 41 (by rfl) (N := 7) rfl 22 _ _ rfl (l0_0.length : Int) rfl rfl Tryd.underlying22 (.agg #[(.int .i64 0), (.int .i64 0), (.int .i64 0)]) 24 info41 rfl (by decide) (ok := fun _ => True) trivial (by omega) (by have := LMc2.out; simp only [List.length_nil, Int.toNat_natCast] at this ⊢; omega) bs (below_size bs) ?_
 intro vmk wmk hmk hb1 hb2 hvb
 refine hK.out _ _ ⟨(blk_cell (blk_below BK261.out hb2) 0).trans rfl, (blk_cell (blk_below BK261.out hb2) 1).trans rfl, (blk_cell (blk_below BK261.out hb2) 2).trans rfl⟩ (fun hHeld => ?_)
 clear hK K
 refine norm_ (a' := ?_) ?_ ?_
 rotate_left
 ·show Act.put _ (some 7) _ = _
  simp only [Act.put, List.setIfInBounds_toArray, List.set_cons_zero, List.set_cons_succ, i64_w, i32_w]
  rfl
 refine one_ (i := 6) (N := some 10) #[true, true, true, true, true, true, true, false, false] rfl rfl (one_of HT_.out (by kernel_rfl)) (by decide) (fun K hK => ?_)
 refine Kd.R_append_rows_step k41 (w0 := w) w.heap.size (by rfl) (.tmp 7) (.tmp 9) 22 41 (.agg #[(.int .i64 0), (.int .i64 0), (.int .i64 0)]) 24 rfl Tryd.underlying22 info41 rfl (by decide) (by omega) vmk ([] : List (S41)) l0_0 _ _ _ (fun _ => True) (fun _ => False) rfl rfl ?aO ?aR (fun _ _ h => h) (fun _ h => h.elim) ?aF ?aB ?aS ?aL ?_
 (case aR => repeat (first | exact (Kd.C_below HR0_0.out hb1) | (with_reducible refine Kd.C_alloc ?_ _) | (with_reducible refine Kd.C_drewN ?_ _) | (with_reducible refine Kd.C_drew ?_)))
 (case aB => exact hb1)
 (case aF => exact (fun _ _ => trivial))
 (case aO => exact hmk)
 (case aS => exact (below_size hb1))
 (case aL => have := LMc2.out; omega)
 intro v265 w9 ho hb hg hat
 have hb3 := below_grown hb2 hvb hg
 rw [← Ny264.out] at ho
 have n0_ := Aside0.mk (blk_below (bu BK261.out) hb3)
 have n1_ := Aside0.mk (blk_below (bu BK262.out) hb3)
 have n2_ := Aside0.mk (blk_below (bu BK263.out) hb3)
 have n3_ := Aside0.mk (hb)
 have n4_ := Aside0.mk (ho)
 clear BK261
 clear BK262
 clear BK263
 clear HB
 have BK261 := n0_
 have BK262 := n1_
 have BK263 := n2_
 have HB := n3_
 have HO266 := n4_
 clear n0_ n1_ n2_ n3_ n4_
 clear ho hb hg hat
 obtain ⟨Ao10, co10, eo10⟩ := Kd.R_slice HO266.out
 (first | subst eo10 | (injection eo10 with f1_ f2_ f3_; have f4_ := f1_.symm; have f5_ := f3_.symm; clear f1_ f2_ f3_; subst f4_; subst f5_))
 refine hK.out _ _ ⟨(blk_cell BK261.out 0).trans rfl, (blk_cell BK261.out 1).trans rfl, (blk_cell BK261.out 2).trans rfl⟩ (fun hHeld => ?_)
 clear hK K
 refine norm_ (a' := ?_) ?_ ?_
 rotate_left
 ·show Act.put _ (some 10) _ = _
  simp only [Act.put, List.setIfInBounds_toArray, List.set_cons_zero, List.set_cons_succ, i64_w, i32_w]
  rfl
 refine pure_ (i := 7) (N := some 11) (v := ?_) (a' := ?_) #[true, true, true, true, true, true, true, true, false] rfl rfl (any_of HT_.out (by kernel_rfl)) (fun _ _ _ h => h) (Or.inl ⟨by rfl, ?_⟩) ?_ ?_
 rotate_left
 ·intro w'
  go_simp
  with_reducible rfl
 rotate_left
 ·simp only [Act.put, List.setIfInBounds_toArray, List.set_cons_zero, List.set_cons_succ, i64_w, i32_w]
  rfl
 refine one_ (i := 8) (N := none) #[true, true, true, true, true, true, true, true, true] rfl rfl (one_of HT_.out (by kernel_rfl)) (by decide) (fun K hK => ?_)
 have hs11 : w9.cell? ⟨gb263, 0, none⟩ = some (.slice none 0 0) := (blk_cell BK263.out 0).trans rfl
 have hfs11 := blk_frozen BK263.out 0
 have hns11_0 := NB261_263.out
 have hns11_1 := NB262_263.out
 have hms11_0 := NB263_261.out
 have hms11_1 := NB263_262.out
 refine skip_ (w1 := ?_) (by rfl) rfl ?_ ?_
 rotate_left
 ·go_simp
  rfl
 refine hK.out _ _ ⟨((cell_far (p := ⟨gb263, _, none⟩) NB261_263.out _).trans (hHeld.1)), ((cell_far (p := ⟨gb263, _, none⟩) NB261_263.out _).trans (hHeld.2.1)), ((cell_far (p := ⟨gb263, _, none⟩) NB261_263.out _).trans (hHeld.2.2))⟩ (fun hHeld => ?_)
 clear hK K
 refine done_ (done_of HT_.out (by kernel_rfl)) ?_
 try go_wp2
 have n0_ : Aside0 (Kd.R k41 41 (w9.setCell ⟨gb263, 0, none⟩ (.slice Ao10 y264.length co10)) w.heap.size (fun _ => True) (.slice Ao10 y264.length co10) y264) := ⟨by (with_reducible repeat (first | apply Kd.R_alloc | apply Kd.R_drewN | apply Kd.R_drew)); exact Kd.R_mono (Kd.R_far (p := ⟨gb263, 0, none⟩) (Kd.R_types HO266.out BK263.out (by decide)) (fun _ hk => hk.2) (.slice Ao10 y264.length co10)) (fun _ hk => trivial)⟩
 have n1_ : Aside0 ((w9.setCell ⟨gb263, 0, none⟩ (.slice Ao10 y264.length co10)).heap[gb261]? = some (.cells #[.slice A0_0 l0_0.length c0_0, .slice A0_1 l0_1.length c0_1, .slice A0_2 l0_2.length c0_2] 26 (0, 0))) := ⟨by refine bu ?_; refine blk_far ?_ NB261_263.out _; refine bu ?_; exact BK261.out⟩
 have n2_ : Aside0 ((w9.setCell ⟨gb263, 0, none⟩ (.slice Ao10 y264.length co10)).heap[gb262]? = some (.cells #[.slice none 0 0, .slice none 0 0, .slice none 0 0] 26 (0, 0))) := ⟨by refine bu ?_; refine blk_far ?_ NB262_263.out _; refine bu ?_; exact BK262.out⟩
 have n3_ : Aside0 ((w9.setCell ⟨gb263, 0, none⟩ (.slice Ao10 y264.length co10)).heap[gb263]? = some (.cells #[.slice Ao10 y264.length co10, .slice none 0 0, .slice none 0 0] 26 (0, 0))) := ⟨by refine bu ?_; refine blk_put (cs := #[.slice none 0 0, .slice none 0 0, .slice none 0 0]) ?_ 0 _ rfl; refine bu ?_; exact BK263.out⟩
 have n4_ : Aside0 (Below w.heap.size w (w9.setCell ⟨gb263, 0, none⟩ (.slice Ao10 y264.length co10))) := ⟨bs⟩
 (try clear HO266)
 (try clear BK261)
 (try clear BK262)
 (try clear BK263)
 (try clear HB)
 generalize (w9.setCell ⟨gb263, 0, none⟩ (.slice Ao10 y264.length co10)) = w12 at n0_ n1_ n2_ n3_ n4_ ⊢
 have HO266 := n0_
 have BK261 := n1_
 have BK262 := n2_
 have BK263 := n3_
 have HB := n4_
 clear n0_ n1_ n2_ n3_ n4_
 have n0_ := Aside0.mk (Kd.R_drew HO266.out)
 have n1_ := Aside0.mk (blk_drew BK261.out)
 have n2_ := Aside0.mk (blk_drew BK262.out)
 have n3_ := Aside0.mk (blk_drew BK263.out)
 have n4_ := Aside0.mk (below_drew1 HB.out)
 clear HO266
 clear BK261
 clear BK262
 clear BK263
 clear HB
 have HO266 := n0_
 have BK261 := n1_
 have BK262 := n2_
 have BK263 := n3_
 have HB := n4_
 clear n0_ n1_ n2_ n3_ n4_
 refine start_ (n := 9) (S := fun w' => w'.cell? ⟨gb261, 0, none⟩ = some (.slice A0_0 l0_0.length c0_0) ∧ w'.cell? ⟨gb261, 1, none⟩ = some (.slice A0_1 l0_1.length c0_1) ∧ w'.cell? ⟨gb261, 2, none⟩ = some (.slice A0_2 l0_2.length c0_2)) (ds := []) #[false, false, false, false, false, false, false, false, false] (by kernel_rfl) rfl rfl ⟨(blk_cell BK261.out 0).trans rfl, (blk_cell BK261.out 1).trans rfl, (blk_cell BK261.out 2).trans rfl⟩ (fun hHeld => ?_); refine with_tabW abacuslaw26_copied.tab3 abacuslaw26_copied.bits3 (fun HT_ HW_ => ?_)
 generalize w12.drew = w13 at HO266 BK261 BK262 BK263 HB hHeld ⊢
 refine pure_ (i := 0) (N := some 12) (v := ?_) (a' := ?_) #[true, false, false, false, false, false, false, false, false] rfl rfl (any_of HT_.out (by kernel_rfl)) (fun _ _ _ h => h) (Or.inl ⟨by rfl, ?_⟩) ?_ ?_
 rotate_left
 ·intro w'
  go_simp
  with_reducible rfl
 rotate_left
 ·simp only [Act.put, List.setIfInBounds_toArray, List.set_cons_zero, List.set_cons_succ, i64_w, i32_w]
  rfl
 refine pure_ (i := 4) (N := some 16) (v := ?_) (a' := ?_) #[true, false, false, false, true, false, false, false, false] rfl rfl (any_of HT_.out (by kernel_rfl)) (fun _ _ _ h => h) (Or.inl ⟨by rfl, ?_⟩) ?_ ?_
 rotate_left
 ·intro w'
  go_simp
  with_reducible rfl
 rotate_left
 ·simp only [Act.put, List.setIfInBounds_toArray, List.set_cons_zero, List.set_cons_succ, i64_w, i32_w]
  rfl
 refine take_ (i := 1) (N := some 13) (v := ?_) (a' := ?_) #[true, true, false, false, true, false, false, false, false] rfl rfl (take_ofW HT_.out HW_.out (by kernel_rfl)) (fun _ _ _ h => h) (Or.inl ⟨by rfl, ?_⟩) hHeld ?_ ?_
 rotate_left
 ·rintro w' ⟨s0, s1, s2⟩
  go_simp
  with_reducible rfl
 rotate_left
 ·simp only [Act.put, List.setIfInBounds_toArray, List.set_cons_zero, List.set_cons_succ, i64_w, i32_w]
  rfl
 refine pure_ (i := 2) (N := some 14) (v := ?_) (a' := ?_) #[true, true, true, false, true, false, false, false, false] rfl rfl (any_of HT_.out (by kernel_rfl)) (fun _ _ _ h => h) (Or.inl ⟨by rfl, ?_⟩) ?_ ?_
 rotate_left
 ·intro w'
  go_simp
  with_reducible rfl
 rotate_left
 ·simp only [Act.put, List.setIfInBounds_toArray, List.set_cons_zero, List.set_cons_succ, i64_w, i32_w]
  rfl
 refine take_ (i := 5) (N := some 17) (v := ?_) (a' := ?_) #[true, true, true, false, true, true, false, false, false] rfl rfl (take_ofW HT_.out HW_.out (by kernel_rfl)) (fun _ _ _ h => h) (Or.inl ⟨by rfl, ?_⟩) hHeld ?_ ?_
 rotate_left
 ·rintro w' ⟨s0, s1, s2⟩
  go_simp
  with_reducible rfl
 rotate_left
 ·simp only [Act.put, List.setIfInBounds_toArray, List.set_cons_zero, List.set_cons_succ, i64_w, i32_w]
  rfl
 refine one_ (i := 3) (N := some 15) #[true, true, true, true, true, true, false, false, false] rfl rfl (one_of HT_.out (by kernel_rfl)) (by decide) (fun K hK => ?_)
 refine R_make0_step (Kd.int .u64) (w0 := w) w.heap.size 66 (by rfl) (N := 15) rfl 23 _ _ rfl (l0_1.length : Int) rfl rfl Tryd.underlying23 (.int .u64 0) 8 info66 rfl (by decide) (ok := fun _ => True) trivial (by omega) (by have := LMc3.out; simp only [List.length_nil, Int.toNat_natCast] at this ⊢; omega) bs (below_size bs) ?_
 intro vmk wmk hmk hb1 hb2 hvb
 refine hK.out _ _ ⟨(blk_cell (blk_below BK261.out hb2) 0).trans rfl, (blk_cell (blk_below BK261.out hb2) 1).trans rfl, (blk_cell (blk_below BK261.out hb2) 2).trans rfl⟩ (fun hHeld => ?_)
 clear hK K
 refine norm_ (a' := ?_) ?_ ?_
 rotate_left
 ·show Act.put _ (some 15) _ = _
  simp only [Act.put, List.setIfInBounds_toArray, List.set_cons_zero, List.set_cons_succ, i64_w, i32_w]
  rfl
 refine one_ (i := 6) (N := some 18) #[true, true, true, true, true, true, true, false, false] rfl rfl (one_of HT_.out (by kernel_rfl)) (by decide) (fun K hK => ?_)
 refine Kd.R_append_rows_step (Kd.int .u64) (w0 := w) w.heap.size (by rfl) (.tmp 15) (.tmp 17) 23 66 (.int .u64 0) 8 rfl Tryd.underlying23 info66 rfl (by decide) (by omega) vmk ([] : List Int) l0_1 _ _ _ (fun _ => True) (fun _ => False) rfl rfl ?aO ?aR (fun _ _ h => h) (fun _ h => h.elim) ?aF ?aB ?aS ?aL ?_
 (case aR => repeat (first | exact (Kd.C_below HR0_1.out hb1) | (with_reducible refine Kd.C_alloc ?_ _) | (with_reducible refine Kd.C_drewN ?_ _) | (with_reducible refine Kd.C_drew ?_)))
 (case aB => exact hb1)
 (case aF => exact (fun _ _ => trivial))
 (case aO => exact hmk)
 (case aS => exact (below_size hb1))
 (case aL => have := LMc3.out; omega)
 intro v268 w14 ho hb hg hat
 have hb3 := below_grown hb2 hvb hg
 rw [← Ny267.out] at ho
 have n0_ := Aside0.mk (blk_below (bu BK261.out) hb3)
 have n1_ := Aside0.mk (blk_below (bu BK262.out) hb3)
 have n2_ := Aside0.mk (blk_below (bu BK263.out) hb3)
 have n3_ := Aside0.mk (Kd.R_below (by exact HO266.out) hb3)
 have n4_ := Aside0.mk (hb)
 have n5_ := Aside0.mk (ho)
 clear BK261
 clear BK262
 clear BK263
 clear HO266
 clear HB
 have BK261 := n0_
 have BK262 := n1_
 have BK263 := n2_
 have HO266 := n3_
 have HB := n4_
 have HO269 := n5_
 clear n0_ n1_ n2_ n3_ n4_ n5_
 clear ho hb hg hat
 obtain ⟨Ao15, co15, eo15⟩ := Kd.R_slice HO269.out
 (first | subst eo15 | (injection eo15 with f1_ f2_ f3_; have f4_ := f1_.symm; have f5_ := f3_.symm; clear f1_ f2_ f3_; subst f4_; subst f5_))
 refine hK.out _ _ ⟨(blk_cell BK261.out 0).trans rfl, (blk_cell BK261.out 1).trans rfl, (blk_cell BK261.out 2).trans rfl⟩ (fun hHeld => ?_)
 clear hK K
 refine norm_ (a' := ?_) ?_ ?_
 rotate_left
 ·show Act.put _ (some 18) _ = _
  simp only [Act.put, List.setIfInBounds_toArray, List.set_cons_zero, List.set_cons_succ, i64_w, i32_w]
  rfl
 refine pure_ (i := 7) (N := some 19) (v := ?_) (a' := ?_) #[true, true, true, true, true, true, true, true, false] rfl rfl (any_of HT_.out (by kernel_rfl)) (fun _ _ _ h => h) (Or.inl ⟨by rfl, ?_⟩) ?_ ?_
 rotate_left
 ·intro w'
  go_simp
  with_reducible rfl
 rotate_left
 ·simp only [Act.put, List.setIfInBounds_toArray, List.set_cons_zero, List.set_cons_succ, i64_w, i32_w]
  rfl
 refine one_ (i := 8) (N := none) #[true, true, true, true, true, true, true, true, true] rfl rfl (one_of HT_.out (by kernel_rfl)) (by decide) (fun K hK => ?_)
 have hs16 : w14.cell? ⟨gb263, 1, none⟩ = some (.slice none 0 0) := (blk_cell BK263.out 1).trans rfl
 have hfs16 := blk_frozen BK263.out 1
 have hns16_0 := NB261_263.out
 have hns16_1 := NB262_263.out
 have hms16_0 := NB263_261.out
 have hms16_1 := NB263_262.out
 refine skip_ (w1 := ?_) (by rfl) rfl ?_ ?_
 rotate_left
 ·go_simp
  rfl
 refine hK.out _ _ ⟨((cell_far (p := ⟨gb263, _, none⟩) NB261_263.out _).trans (hHeld.1)), ((cell_far (p := ⟨gb263, _, none⟩) NB261_263.out _).trans (hHeld.2.1)), ((cell_far (p := ⟨gb263, _, none⟩) NB261_263.out _).trans (hHeld.2.2))⟩ (fun hHeld => ?_)
 clear hK K
 refine done_ (done_of HT_.out (by kernel_rfl)) ?_
 try go_wp2
 have n0_ : Aside0 (Kd.R k41 41 (w14.setCell ⟨gb263, 1, none⟩ (.slice Ao15 y267.length co15)) w.heap.size (fun _ => True) (.slice Ao10 y264.length co10) y264) := ⟨by (with_reducible repeat (first | apply Kd.R_alloc | apply Kd.R_drewN | apply Kd.R_drew)); exact Kd.R_mono (Kd.R_far (p := ⟨gb263, 1, none⟩) (Kd.R_types HO266.out BK263.out (by decide)) (fun _ hk => hk.2) (.slice Ao15 y267.length co15)) (fun _ hk => trivial)⟩
 have n1_ : Aside0 (Kd.R (Kd.int .u64) 66 (w14.setCell ⟨gb263, 1, none⟩ (.slice Ao15 y267.length co15)) w.heap.size (fun _ => True) (.slice Ao15 y267.length co15) y267) := ⟨by (with_reducible repeat (first | apply Kd.R_alloc | apply Kd.R_drewN | apply Kd.R_drew)); exact Kd.R_mono (Kd.R_far (p := ⟨gb263, 1, none⟩) (Kd.R_types HO269.out BK263.out (by decide)) (fun _ hk => hk.2) (.slice Ao15 y267.length co15)) (fun _ hk => trivial)⟩
 have n2_ : Aside0 ((w14.setCell ⟨gb263, 1, none⟩ (.slice Ao15 y267.length co15)).heap[gb261]? = some (.cells #[.slice A0_0 l0_0.length c0_0, .slice A0_1 l0_1.length c0_1, .slice A0_2 l0_2.length c0_2] 26 (0, 0))) := ⟨by refine bu ?_; refine blk_far ?_ NB261_263.out _; refine bu ?_; exact BK261.out⟩
 have n3_ : Aside0 ((w14.setCell ⟨gb263, 1, none⟩ (.slice Ao15 y267.length co15)).heap[gb262]? = some (.cells #[.slice none 0 0, .slice none 0 0, .slice none 0 0] 26 (0, 0))) := ⟨by refine bu ?_; refine blk_far ?_ NB262_263.out _; refine bu ?_; exact BK262.out⟩
 have n4_ : Aside0 ((w14.setCell ⟨gb263, 1, none⟩ (.slice Ao15 y267.length co15)).heap[gb263]? = some (.cells #[.slice Ao10 y264.length co10, .slice Ao15 y267.length co15, .slice none 0 0] 26 (0, 0))) := ⟨by refine bu ?_; refine blk_put (cs := #[.slice Ao10 y264.length co10, .slice none 0 0, .slice none 0 0]) ?_ 1 _ rfl; refine bu ?_; exact BK263.out⟩
 have n5_ : Aside0 (Below w.heap.size w (w14.setCell ⟨gb263, 1, none⟩ (.slice Ao15 y267.length co15))) := ⟨bs⟩
 (try clear HO266)
 (try clear HO269)
 (try clear BK261)
 (try clear BK262)
 (try clear BK263)
 (try clear HB)
 generalize (w14.setCell ⟨gb263, 1, none⟩ (.slice Ao15 y267.length co15)) = w17 at n0_ n1_ n2_ n3_ n4_ n5_ ⊢
 have HO266 := n0_
 have HO269 := n1_
 have BK261 := n2_
 have BK262 := n3_
 have BK263 := n4_
 have HB := n5_
 clear n0_ n1_ n2_ n3_ n4_ n5_
 have n0_ := Aside0.mk (Kd.R_drew HO266.out)
 have n1_ := Aside0.mk (Kd.R_drew HO269.out)
 have n2_ := Aside0.mk (blk_drew BK261.out)
 have n3_ := Aside0.mk (blk_drew BK262.out)
 have n4_ := Aside0.mk (blk_drew BK263.out)
 have n5_ := Aside0.mk (below_drew1 HB.out)
 clear HO266
 clear HO269
 clear BK261
 clear BK262
 clear BK263
 clear HB
 have HO266 := n0_
 have HO269 := n1_
 have BK261 := n2_
 have BK262 := n3_
 have BK263 := n4_
 have HB := n5_
 clear n0_ n1_ n2_ n3_ n4_ n5_
 refine start_ (n := 9) (S := fun w' => w'.cell? ⟨gb261, 0, none⟩ = some (.slice A0_0 l0_0.length c0_0) ∧ w'.cell? ⟨gb261, 1, none⟩ = some (.slice A0_1 l0_1.length c0_1) ∧ w'.cell? ⟨gb261, 2, none⟩ = some (.slice A0_2 l0_2.length c0_2)) (ds := []) #[false, false, false, false, false, false, false, false, false] (by kernel_rfl) rfl rfl ⟨(blk_cell BK261.out 0).trans rfl, (blk_cell BK261.out 1).trans rfl, (blk_cell BK261.out 2).trans rfl⟩ (fun hHeld => ?_); refine with_tabW abacuslaw26_copied.tab4 abacuslaw26_copied.bits4 (fun HT_ HW_ => ?_)
 generalize w17.drew = w18 at HO266 HO269 BK261 BK262 BK263 HB hHeld ⊢
 refine pure_ (i := 0) (N := some 20) (v := ?_) (a' := ?_) #[true, false, false, false, false, false, false, false, false] rfl rfl (any_of HT_.out (by kernel_rfl)) (fun _ _ _ h => h) (Or.inl ⟨by rfl, ?_⟩) ?_ ?_
 rotate_left
 ·intro w'
  go_simp
  with_reducible rfl
 rotate_left
 ·simp only [Act.put, List.setIfInBounds_toArray, List.set_cons_zero, List.set_cons_succ, i64_w, i32_w]
  rfl
 refine pure_ (i := 4) (N := some 24) (v := ?_) (a' := ?_) #[true, false, false, false, true, false, false, false, false] rfl rfl (any_of HT_.out (by kernel_rfl)) (fun _ _ _ h => h) (Or.inl ⟨by rfl, ?_⟩) ?_ ?_
 rotate_left
 ·intro w'
  go_simp
  with_reducible rfl
 rotate_left
 ·simp only [Act.put, List.setIfInBounds_toArray, List.set_cons_zero, List.set_cons_succ, i64_w, i32_w]
  rfl
 refine take_ (i := 1) (N := some 21) (v := ?_) (a' := ?_) #[true, true, false, false, true, false, false, false, false] rfl rfl (take_ofW HT_.out HW_.out (by kernel_rfl)) (fun _ _ _ h => h) (Or.inl ⟨by rfl, ?_⟩) hHeld ?_ ?_
 rotate_left
 ·rintro w' ⟨s0, s1, s2⟩
  go_simp
  with_reducible rfl
 rotate_left
 ·simp only [Act.put, List.setIfInBounds_toArray, List.set_cons_zero, List.set_cons_succ, i64_w, i32_w]
  rfl
 refine pure_ (i := 2) (N := some 22) (v := ?_) (a' := ?_) #[true, true, true, false, true, false, false, false, false] rfl rfl (any_of HT_.out (by kernel_rfl)) (fun _ _ _ h => h) (Or.inl ⟨by rfl, ?_⟩) ?_ ?_
 rotate_left
 ·intro w'
  go_simp
  with_reducible rfl
 rotate_left
 ·simp only [Act.put, List.setIfInBounds_toArray, List.set_cons_zero, List.set_cons_succ, i64_w, i32_w]
  rfl
 refine take_ (i := 5) (N := some 25) (v := ?_) (a' := ?_) #[true, true, true, false, true, true, false, false, false] rfl rfl (take_ofW HT_.out HW_.out (by kernel_rfl)) (fun _ _ _ h => h) (Or.inl ⟨by rfl, ?_⟩) hHeld ?_ ?_
 rotate_left
 ·rintro w' ⟨s0, s1, s2⟩
  go_simp
  with_reducible rfl
 rotate_left
 ·simp only [Act.put, List.setIfInBounds_toArray, List.set_cons_zero, List.set_cons_succ, i64_w, i32_w]
  rfl
 refine one_ (i := 3) (N := some 23) #[true, true, true, true, true, true, false, false, false] rfl rfl (one_of HT_.out (by kernel_rfl)) (by decide) (fun K hK => ?_)
 refine R_make0_step Kd.string (w0 := w) w.heap.size 9 (by rfl) (N := 23) rfl 24 _ _ rfl (l0_2.length : Int) rfl rfl Tryd.underlying24 (.string ⟨#[]⟩) 16 info9 rfl (by decide) (ok := fun _ => True) trivial (by omega) (by have := LMc4.out; simp only [List.length_nil, Int.toNat_natCast] at this ⊢; omega) bs (below_size bs) ?_
 intro vmk wmk hmk hb1 hb2 hvb
 refine hK.out _ _ ⟨(blk_cell (blk_below BK261.out hb2) 0).trans rfl, (blk_cell (blk_below BK261.out hb2) 1).trans rfl, (blk_cell (blk_below BK261.out hb2) 2).trans rfl⟩ (fun hHeld => ?_)
 clear hK K
 refine norm_ (a' := ?_) ?_ ?_
 rotate_left
 ·show Act.put _ (some 23) _ = _
  simp only [Act.put, List.setIfInBounds_toArray, List.set_cons_zero, List.set_cons_succ, i64_w, i32_w]
  rfl
 refine one_ (i := 6) (N := some 26) #[true, true, true, true, true, true, true, false, false] rfl rfl (one_of HT_.out (by kernel_rfl)) (by decide) (fun K hK => ?_)
 refine Kd.R_append_rows_step Kd.string (w0 := w) w.heap.size (by rfl) (.tmp 23) (.tmp 25) 24 9 (.string ⟨#[]⟩) 16 rfl Tryd.underlying24 info9 rfl (by decide) (by omega) vmk ([] : List ByteArray) l0_2 _ _ _ (fun _ => True) (fun _ => False) rfl rfl ?aO ?aR (fun _ _ h => h) (fun _ h => h.elim) ?aF ?aB ?aS ?aL ?_
 (case aR => repeat (first | exact (Kd.C_below HR0_2.out hb1) | (with_reducible refine Kd.C_alloc ?_ _) | (with_reducible refine Kd.C_drewN ?_ _) | (with_reducible refine Kd.C_drew ?_)))
 (case aB => exact hb1)
 (case aF => exact (fun _ _ => trivial))
 (case aO => exact hmk)
 (case aS => exact (below_size hb1))
 (case aL => have := LMc4.out; omega)
 intro v271 w19 ho hb hg hat
 have hb3 := below_grown hb2 hvb hg
 rw [← Ny270.out] at ho
 have n0_ := Aside0.mk (blk_below (bu BK261.out) hb3)
 have n1_ := Aside0.mk (blk_below (bu BK262.out) hb3)
 have n2_ := Aside0.mk (blk_below (bu BK263.out) hb3)
 have n3_ := Aside0.mk (Kd.R_below (by exact HO266.out) hb3)
 have n4_ := Aside0.mk (Kd.R_below (by exact HO269.out) hb3)
 have n5_ := Aside0.mk (hb)
 have n6_ := Aside0.mk (ho)
 clear BK261
 clear BK262
 clear BK263
 clear HO266
 clear HO269
 clear HB
 have BK261 := n0_
 have BK262 := n1_
 have BK263 := n2_
 have HO266 := n3_
 have HO269 := n4_
 have HB := n5_
 have HO272 := n6_
 clear n0_ n1_ n2_ n3_ n4_ n5_ n6_
 clear ho hb hg hat
 obtain ⟨Ao20, co20, eo20⟩ := Kd.R_slice HO272.out
 (first | subst eo20 | (injection eo20 with f1_ f2_ f3_; have f4_ := f1_.symm; have f5_ := f3_.symm; clear f1_ f2_ f3_; subst f4_; subst f5_))
 refine hK.out _ _ ⟨(blk_cell BK261.out 0).trans rfl, (blk_cell BK261.out 1).trans rfl, (blk_cell BK261.out 2).trans rfl⟩ (fun hHeld => ?_)
 clear hK K
 refine norm_ (a' := ?_) ?_ ?_
 rotate_left
 ·show Act.put _ (some 26) _ = _
  simp only [Act.put, List.setIfInBounds_toArray, List.set_cons_zero, List.set_cons_succ, i64_w, i32_w]
  rfl
 refine pure_ (i := 7) (N := some 27) (v := ?_) (a' := ?_) #[true, true, true, true, true, true, true, true, false] rfl rfl (any_of HT_.out (by kernel_rfl)) (fun _ _ _ h => h) (Or.inl ⟨by rfl, ?_⟩) ?_ ?_
 rotate_left
 ·intro w'
  go_simp
  with_reducible rfl
 rotate_left
 ·simp only [Act.put, List.setIfInBounds_toArray, List.set_cons_zero, List.set_cons_succ, i64_w, i32_w]
  rfl
 refine one_ (i := 8) (N := none) #[true, true, true, true, true, true, true, true, true] rfl rfl (one_of HT_.out (by kernel_rfl)) (by decide) (fun K hK => ?_)
 have hs21 : w19.cell? ⟨gb263, 2, none⟩ = some (.slice none 0 0) := (blk_cell BK263.out 2).trans rfl
 have hfs21 := blk_frozen BK263.out 2
 have hns21_0 := NB261_263.out
 have hns21_1 := NB262_263.out
 have hms21_0 := NB263_261.out
 have hms21_1 := NB263_262.out
 refine skip_ (w1 := ?_) (by rfl) rfl ?_ ?_
 rotate_left
 ·go_simp
  rfl
 refine hK.out _ _ ⟨((cell_far (p := ⟨gb263, _, none⟩) NB261_263.out _).trans (hHeld.1)), ((cell_far (p := ⟨gb263, _, none⟩) NB261_263.out _).trans (hHeld.2.1)), ((cell_far (p := ⟨gb263, _, none⟩) NB261_263.out _).trans (hHeld.2.2))⟩ (fun hHeld => ?_)
 clear hK K
 refine done_ (done_of HT_.out (by kernel_rfl)) ?_
 have hnb22 := NB263_261.out
 have hnc22 := NB261_263.out
 have hnb23 := NB263_262.out
 have hnc23 := NB262_263.out
 obtain ⟨⟨hcz24_0, hcz24_1, hcz24_2⟩, hfz24_0, hfz24_1, hfz24_2⟩ := blkAll3 BK263
 have hnb25 := NB262_261.out
 have hnc25 := NB261_262.out
 obtain ⟨⟨hcz26_0, hcz26_1, hcz26_2⟩, hfz26_0, hfz26_1, hfz26_2⟩ := blkAll3 BK262
 try go_wp2
 refine bodyPost_ret (results_cell_row rfl _ _ gb262 26 #[.slice Ao10 y264.length co10, .slice Ao15 y267.length co15, .slice Ao20 y270.length co20] (0, 0) _ rfl (by refine bu ?_; refine blk_put (cs := #[.slice Ao10 y264.length co10, .slice Ao15 y267.length co15, .slice none 0 0]) ?_ 2 _ rfl; refine bu ?_; refine blk_put (cs := #[.slice Ao10 y264.length co10, .slice none 0 0, .slice none 0 0]) ?_ 1 _ rfl; refine bu ?_; refine blk_put (cs := #[.slice none 0 0, .slice none 0 0, .slice none 0 0]) ?_ 0 _ rfl; refine bu ?_; refine blk_far ?_ NB262_263.out _; refine bu ?_; exact BK262.out) Tryd.underlying26 rfl (by kernel_rfl)) rfl ?_
 exact ⟨_, _, _, er, by (with_reducible repeat (first | apply Kd.R_alloc | apply Kd.R_drewN | apply Kd.R_drew)); exact Kd.R_mono (Kd.R_far (p := ⟨gb262, 2, none⟩) (Kd.R_far (p := ⟨gb262, 1, none⟩) (Kd.R_far (p := ⟨gb262, 0, none⟩) (Kd.R_far (p := ⟨gb263, 2, none⟩) (Kd.R_types (Kd.R_types HO266.out BK263.out (by decide)) BK262.out (by decide)) (fun _ hk => hk.1.2) (.slice Ao20 y270.length co20)) (fun _ hk => hk.2) (.slice Ao10 y264.length co10)) (fun _ hk => hk.2) (.slice Ao15 y267.length co15)) (fun _ hk => hk.2) (.slice Ao20 y270.length co20)) (fun _ hk => trivial), by (with_reducible repeat (first | apply Kd.R_alloc | apply Kd.R_drewN | apply Kd.R_drew)); exact Kd.R_mono (Kd.R_far (p := ⟨gb262, 2, none⟩) (Kd.R_far (p := ⟨gb262, 1, none⟩) (Kd.R_far (p := ⟨gb262, 0, none⟩) (Kd.R_far (p := ⟨gb263, 2, none⟩) (Kd.R_types (Kd.R_types HO269.out BK263.out (by decide)) BK262.out (by decide)) (fun _ hk => hk.1.2) (.slice Ao20 y270.length co20)) (fun _ hk => hk.2) (.slice Ao10 y264.length co10)) (fun _ hk => hk.2) (.slice Ao15 y267.length co15)) (fun _ hk => hk.2) (.slice Ao20 y270.length co20)) (fun _ hk => trivial), by (with_reducible repeat (first | apply Kd.R_alloc | apply Kd.R_drewN | apply Kd.R_drew)); exact Kd.R_mono (Kd.R_far (p := ⟨gb262, 2, none⟩) (Kd.R_far (p := ⟨gb262, 1, none⟩) (Kd.R_far (p := ⟨gb262, 0, none⟩) (Kd.R_far (p := ⟨gb263, 2, none⟩) (Kd.R_types (Kd.R_types HO272.out BK263.out (by decide)) BK262.out (by decide)) (fun _ hk => hk.1.2) (.slice Ao20 y270.length co20)) (fun _ hk => hk.2) (.slice Ao10 y264.length co10)) (fun _ hk => hk.2) (.slice Ao15 y267.length co15)) (fun _ hk => hk.2) (.slice Ao20 y270.length co20)) (fun _ hk => trivial), bs⟩
end Go.Proofs.YtdkejcadoepnnaaDoor.ECc
