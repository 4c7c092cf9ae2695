/-
  A text of this session's own.
-/
import Derived.Test.YtcgjfckhnpimbaaDoorBuEScanx0
import Derived.Test.YtcgjfckhnpimbaaDoorBuEScanx30
import Derived.Test.YtcgjfckhnpimbaaDoorBuEScanx31
import Derived.Test.YtcgjfckhnpimbaaDoorBuEScanx32
namespace Go.Proofs.YtcgjfckhnpimbaaDoor.EScan
open Go.RowKit Go.Proofs.YtcgjfckhnpimbaaDoorW.PrintWords Go.Proofs.YtcgjfckhnpimbaaDoorW.PrintLast Go.Proofs.YtcgjfckhnpimbaaDoorW.PrintMore
attribute [local go_sem] max2_int min2_int max_two min_two max_three min_three max_four min_four   -- for this text's walks alone
set_option linter.unusedVariables false
set_option linter.unusedSimpArgs false
mutual
def abacuslaw08_built.j0 : Nat → ByteArray → ByteArray → Int → Int → List Int → Bool → List Int → Int → Int → Int → ByteArray → Option (ByteArray × ByteArray × Int × Bool)
  | 0, _, _, _, _, _, _, _, _, _, _, _ => none
  | k + 1, x6, x7, x299000, x299001, x299002, x299003, x299004, x299005, x299006, x299007, x299008 => if (wrap64 ((x299002.length : Int) + (x6.size : Int))) = 0 then (some ((⟨#[]⟩ : ByteArray), (⟨#[]⟩ : ByteArray), 0, false)) else (if x299005 = 1 then (abacuslaw08_built.j1 k x6 x7 0 true x299000 x299001 x299002 x299003 x299004 x299005 x299006 x299007 x299008) else (abacuslaw08_built.j1 k x6 x7 0 (x299005 == 2) x299000 x299001 x299002 x299003 x299004 x299005 x299006 x299007 x299008))
def abacuslaw08_built.j1 : Nat → ByteArray → ByteArray → Int → Bool → Int → Int → List Int → Bool → List Int → Int → Int → Int → ByteArray → Option (ByteArray × ByteArray × Int × Bool)
  | 0, _, _, _, _, _, _, _, _, _, _, _, _, _ => none
  | k + 1, x6, x7, x8, x39, x299000, x299001, x299002, x299003, x299004, x299005, x299006, x299007, x299008 => if x39 = true then (if x299007 < 0 then (some ((⟨#[]⟩ : ByteArray), (⟨#[]⟩ : ByteArray), 0, false)) else (if 0 ≤ (wrap64 (x299005 - 1)) then (if (wrap64 (x299005 - 1)) ≤ x299005 then (if x299005 ≤ 2 then (if x7.size + ((⟨#[101, 69]⟩ : ByteArray).extract ((wrap64 (x299005 - 1)) : Int).toNat (x299005 : Int).toNat).size ≤ 9223372036854775807 then ((abacuslaw08_sign.f x299006).bind fun t302 => (if (x7 ++ ((⟨#[101, 69]⟩ : ByteArray).extract ((wrap64 (x299005 - 1)) : Int).toNat (x299005 : Int).toNat)).size + t302.size ≤ 9223372036854775807 then ((abacuslaw08_number.f k x299007).bind fun t303 => (if ((x7 ++ ((⟨#[101, 69]⟩ : ByteArray).extract ((wrap64 (x299005 - 1)) : Int).toNat (x299005 : Int).toNat)) ++ t302).size + t303.size ≤ 9223372036854775807 then (if x299007 > 1000000000000000 then (if x299006 = 2 then ((abacuslaw08_figures.f k x299002).bind fun t304 => (if t304.size + x6.size ≤ 9223372036854775807 then (some (((x7 ++ ((⟨#[101, 69]⟩ : ByteArray).extract ((wrap64 (x299005 - 1)) : Int).toNat (x299005 : Int).toNat)) ++ t302) ++ t303, t304 ++ x6, wrap64 ((-1000000000000000) - (x6.size : Int)), true)) else (none))) else ((abacuslaw08_figures.f k x299002).bind fun t305 => (if t305.size + x6.size ≤ 9223372036854775807 then (some (((x7 ++ ((⟨#[101, 69]⟩ : ByteArray).extract ((wrap64 (x299005 - 1)) : Int).toNat (x299005 : Int).toNat)) ++ t302) ++ t303, t305 ++ x6, wrap64 (1000000000000000 - (x6.size : Int)), true)) else (none)))) else (if x299006 = 2 then ((abacuslaw08_figures.f k x299002).bind fun t306 => (if t306.size + x6.size ≤ 9223372036854775807 then (some (((x7 ++ ((⟨#[101, 69]⟩ : ByteArray).extract ((wrap64 (x299005 - 1)) : Int).toNat (x299005 : Int).toNat)) ++ t302) ++ t303, t306 ++ x6, wrap64 ((wrap64 (-x299007)) - (x6.size : Int)), true)) else (none))) else ((abacuslaw08_figures.f k x299002).bind fun t307 => (if t307.size + x6.size ≤ 9223372036854775807 then (some (((x7 ++ ((⟨#[101, 69]⟩ : ByteArray).extract ((wrap64 (x299005 - 1)) : Int).toNat (x299005 : Int).toNat)) ++ t302) ++ t303, t307 ++ x6, wrap64 (x299007 - (x6.size : Int)), true)) else (none))))) else (none))) else (none))) else (none)) else (none)) else (none)) else (none))) else ((abacuslaw08_figures.f k x299002).bind fun t308 => (if t308.size + x6.size ≤ 9223372036854775807 then (some (x7, t308 ++ x6, wrap64 (x8 - (x6.size : Int)), true)) else (none)))
end
def abacuslaw08_built.f (k : Nat) (a0_0 : Int) (a0_1 : Int) (l0_2 : List Int) (a0_3 : Bool) (l0_4 : List Int) (a0_5 : Int) (a0_6 : Int) (a0_7 : Int) (a0_8 : ByteArray) : Option (ByteArray × ByteArray × Int × Bool) := (abacuslaw08_sign.f a0_1).bind fun t299 => ((abacuslaw08_figures.f k l0_2).bind fun t300 => (if t299.size + t300.size ≤ 9223372036854775807 then (if a0_3 = true then ((abacuslaw08_figures.f k l0_4).bind fun t301 => (if (t299 ++ t300).size + 1 ≤ 9223372036854775807 then (if ((t299 ++ t300) ++ (⟨#[46]⟩ : ByteArray)).size + t301.size ≤ 9223372036854775807 then (abacuslaw08_built.j0 k t301 (((t299 ++ t300) ++ (⟨#[46]⟩ : ByteArray)) ++ t301) a0_0 a0_1 l0_2 a0_3 l0_4 a0_5 a0_6 a0_7 a0_8) else (none)) else (none))) else (abacuslaw08_built.j0 k (⟨#[]⟩ : ByteArray) (t299 ++ t300) a0_0 a0_1 l0_2 a0_3 l0_4 a0_5 a0_6 a0_7 a0_8)) else (none)))
def abacuslaw08_built.T2 : Bool × List (List Nat × List Nat) := (true, [([], []), ([0], [0]), ([1], [1]), ([], []), ([3], [3]), ([4, 2], [4]), ([2, 5], [2, 5]), ([6, 5, 0, 1, 2, 3, 4, 5, 6], [6])])
def abacuslaw08_built.B2 : List Nat := [0, 1, 3, 0, 8, 31, 63, 127]
theorem abacuslaw08_built.tab2 : rtab .any (opsOf Tryd.f20 2) = abacuslaw08_built.T2 := by kernel_rfl
theorem abacuslaw08_built.bits2 : waitsOk abacuslaw08_built.T2.2 abacuslaw08_built.B2 = true := by kernel_rfl
def abacuslaw08_built.T12 : Bool × List (List Nat × List Nat) := (true, [([], []), ([], []), ([1], [1]), ([2], [2]), ([], []), ([4], [4]), ([3, 5], [3, 5]), ([0, 6], [0, 6]), ([], []), ([8], [8]), ([9], [9]), ([7, 10], [7, 10]), ([], []), ([12], [12]), ([13, 10], [13]), ([11, 14], [11, 14]), ([15, 14, 0, 1, 2, 3, 4, 5, 6, 7, 8, 9, 10, 11, 12, 13, 14, 15], [0, 15])])
def abacuslaw08_built.B12 : List Nat := [0, 0, 2, 6, 0, 16, 62, 127, 0, 256, 768, 2047, 0, 4096, 14080, 32767, 65535]
theorem abacuslaw08_built.tab12 : rtab .any (opsOf Tryd.f20 12) = abacuslaw08_built.T12 := by kernel_rfl
theorem abacuslaw08_built.bits12 : waitsOk abacuslaw08_built.T12.2 abacuslaw08_built.B12 = true := by kernel_rfl
set_option maxHeartbeats 8000000 in
set_option maxRecDepth 100000 in
theorem abacuslaw08_built.calls (k : Nat) (a0_0 : Int) (a0_1 : Int) (A0_2 : Option Addr) (c0_2 : Nat) (l0_2 : List Int) (a0_3 : Bool) (A0_4 : Option Addr) (c0_4 : Nat) (l0_4 : List Int) (a0_5 : Int) (a0_6 : Int) (a0_7 : Int) (a0_8 : ByteArray) (r1 : ByteArray) (r2 : ByteArray) (r3 : Int) (r4 : Bool) (w : World) (hr0_2 : Kd.C (Kd.int .u8) w A0_2 l0_2.length l0_2) (hc0_2 : l0_2.length ≤ c0_2) (hr0_4 : Kd.C (Kd.int .u8) w A0_4 l0_4.length l0_4) (hc0_4 : l0_4.length ≤ c0_4) (h : abacuslaw08_built.f k a0_0 a0_1 l0_2 a0_3 l0_4 a0_5 a0_6 a0_7 a0_8 = some (r1, r2, r3, r4)) :
    Calls Tryd.prog 20 #[.agg #[.int .i64 a0_0, .int .i64 a0_1, .slice A0_2 l0_2.length c0_2, .bool a0_3, .slice A0_4 l0_4.length c0_4, .int .i64 a0_5, .int .i64 a0_6, .int .i64 a0_7, .string a0_8]] w fun e w' => e = .returned (.tuple #[.string r1, .string r2, .int .i64 r3, .bool r4]) ∧ Below w.heap.size w w' := by
  have hu44 := Tryd.underlying44
  have HR0_2 := Aside0.mk hr0_2
  have HC0_2 := Aside0.mk hc0_2
  clear hr0_2 hc0_2
  have HR0_4 := Aside0.mk hr0_4
  have HC0_4 := Aside0.mk hc0_4
  clear hr0_4 hc0_4
  have HB := Aside0.mk (Below.refl w.heap.size w)
  have H : ((abacuslaw08_sign.f a0_1).bind fun t299 => ((abacuslaw08_figures.f k l0_2).bind fun t300 => (if t299.size + t300.size ≤ 9223372036854775807 then (if a0_3 = true then ((abacuslaw08_figures.f k l0_4).bind fun t301 => (if (t299 ++ t300).size + 1 ≤ 9223372036854775807 then (if ((t299 ++ t300) ++ (⟨#[46]⟩ : ByteArray)).size + t301.size ≤ 9223372036854775807 then (abacuslaw08_built.j0 k t301 (((t299 ++ t300) ++ (⟨#[46]⟩ : ByteArray)) ++ t301) a0_0 a0_1 l0_2 a0_3 l0_4 a0_5 a0_6 a0_7 a0_8) else (none)) else (none))) else (abacuslaw08_built.j0 k (⟨#[]⟩ : ByteArray) (t299 ++ t300) a0_0 a0_1 l0_2 a0_3 l0_4 a0_5 a0_6 a0_7 a0_8)) else (none)))) = some (r1, r2, r3, r4) := h
  clear h
  replace H := Option.bind_eq_some_iff.mp H
  obtain ⟨t299, A20, H⟩ := H
  replace H : ((abacuslaw08_figures.f k l0_2).bind fun t300 => (if t299.size + t300.size ≤ 9223372036854775807 then (if a0_3 = true then ((abacuslaw08_figures.f k l0_4).bind fun t301 => (if (t299 ++ t300).size + 1 ≤ 9223372036854775807 then (if ((t299 ++ t300) ++ (⟨#[46]⟩ : ByteArray)).size + t301.size ≤ 9223372036854775807 then (abacuslaw08_built.j0 k t301 (((t299 ++ t300) ++ (⟨#[46]⟩ : ByteArray)) ++ t301) a0_0 a0_1 l0_2 a0_3 l0_4 a0_5 a0_6 a0_7 a0_8) else (none)) else (none))) else (abacuslaw08_built.j0 k (⟨#[]⟩ : ByteArray) (t299 ++ t300) a0_0 a0_1 l0_2 a0_3 l0_4 a0_5 a0_6 a0_7 a0_8)) else (none))) = some (r1, r2, r3, r4) := H
  have A2 := Aside0.mk A20
  clear A20
  replace H := Option.bind_eq_some_iff.mp H
  obtain ⟨t300, A30, H⟩ := H
  replace H : (if t299.size + t300.size ≤ 9223372036854775807 then (if a0_3 = true then ((abacuslaw08_figures.f k l0_4).bind fun t301 => (if (t299 ++ t300).size + 1 ≤ 9223372036854775807 then (if ((t299 ++ t300) ++ (⟨#[46]⟩ : ByteArray)).size + t301.size ≤ 9223372036854775807 then (abacuslaw08_built.j0 k t301 (((t299 ++ t300) ++ (⟨#[46]⟩ : ByteArray)) ++ t301) a0_0 a0_1 l0_2 a0_3 l0_4 a0_5 a0_6 a0_7 a0_8) else (none)) else (none))) else (abacuslaw08_built.j0 k (⟨#[]⟩ : ByteArray) (t299 ++ t300) a0_0 a0_1 l0_2 a0_3 l0_4 a0_5 a0_6 a0_7 a0_8)) else (none)) = some (r1, r2, r3, r4) := H
  have A3 := Aside0.mk A30
  clear A30
  by_cases c4 : t299.size + t300.size ≤ 9223372036854775807
  · rw [if_pos c4] at H
    have c4b0 := eq_true c4
    have c4b1 : decide (t299.size + t300.size ≤ 9223372036854775807) = true := decide_eq_true c4
    try have c4b2 : (9223372036854775807 < t299.size + t300.size) = False := eq_false (Nat.not_lt.2 c4)
    have HC5 := Aside0.mk H
    clear H
    go_enter Tryd.func20, Tryd.ntmps20
    try go_wp2_with (first | ((with_reducible refine gate_dst (N := 1) rfl ?_); refine box_event ?hg (N := 1) ?hd (cs := #[.int .i64 a0_0, .int .i64 a0_1, .slice A0_2 l0_2.length c0_2, .bool a0_3, .slice A0_4 l0_4.length c0_4, .int .i64 a0_5, .int .i64 a0_6, .int .i64 a0_7, .string a0_8]) (t := 44) ?hr ?_; (case hd => rfl); (case hg => rfl); (case hr => first | (go_simp; done) | (go_simp; rfl)); intro gb298 hg w6 hbox hb; have n0_ := Aside0.mk (below_step (by repeat (first | (with_reducible first | exact HB.out | apply below_alloc | apply pw_below_drewN | apply below_drew1) | exact HB.out)) hb); have n1_ := Aside0.mk (hbox); have n2_ := Aside0.mk ((by rw [hg]; exact (below_size (by repeat (first | (with_reducible first | exact HB.out | apply below_alloc | apply pw_below_drewN | apply below_drew1) | exact HB.out))) : w.heap.size ≤ gb298)); have n3_ := Aside0.mk ((by rw [hg]; exact (below_size (by repeat (first | (with_reducible first | exact HB.out | apply below_alloc | apply pw_below_drewN | apply below_drew1) | exact HB.out))) : w.heap.size ≤ gb298)); clear HB; have HB := n0_; have BK298 := n1_; have GW298 := n2_; have GE298 := n3_; clear n0_ n1_ n2_ n3_; clear hb hbox hg))
    have n0_ := Aside0.mk (blk_drew BK298.out)
    have n1_ := Aside0.mk (below_drew1 HB.out)
    clear BK298
    clear HB
    have BK298 := n0_
    have HB := n1_
    clear n0_ n1_
    refine start_ (n := 8) (S := fun w' => w'.cell? ⟨gb298, 0, none⟩ = some (.int .i64 a0_0) ∧ w'.cell? ⟨gb298, 1, none⟩ = some (.int .i64 a0_1) ∧ w'.cell? ⟨gb298, 2, none⟩ = some (.slice A0_2 l0_2.length c0_2) ∧ w'.cell? ⟨gb298, 3, none⟩ = some (.bool a0_3) ∧ w'.cell? ⟨gb298, 4, none⟩ = some (.slice A0_4 l0_4.length c0_4) ∧ w'.cell? ⟨gb298, 5, none⟩ = some (.int .i64 a0_5) ∧ w'.cell? ⟨gb298, 6, none⟩ = some (.int .i64 a0_6) ∧ w'.cell? ⟨gb298, 7, none⟩ = some (.int .i64 a0_7) ∧ w'.cell? ⟨gb298, 8, none⟩ = some (.string a0_8)) (ds := []) #[false, false, false, false, false, false, false, false] (by kernel_rfl) rfl rfl ⟨(blk_cell BK298.out 0).trans rfl, (blk_cell BK298.out 1).trans rfl, (blk_cell BK298.out 2).trans rfl, (blk_cell BK298.out 3).trans rfl, (blk_cell BK298.out 4).trans rfl, (blk_cell BK298.out 5).trans rfl, (blk_cell BK298.out 6).trans rfl, (blk_cell BK298.out 7).trans rfl, (blk_cell BK298.out 8).trans rfl⟩ (fun hHeld => ?_); refine with_tabW abacuslaw08_built.tab2 abacuslaw08_built.bits2 (fun HT_ HW_ => ?_)
    generalize w6.drew = w7 at BK298 HB hHeld ⊢
    refine pure_ (i := 0) (N := some 9) (v := ?_) (a' := ?_) #[true, false, false, false, false, false, false, false] rfl rfl (any_of HT_.out (by kernel_rfl)) (fun _ _ _ h => h) (Or.inl ⟨by rfl, ?_⟩) ?_ ?_
    rotate_left
    · intro w'
      go_simp
      with_reducible rfl
    rotate_left
    · simp only [Act.put, List.setIfInBounds_toArray, List.set_cons_zero, List.set_cons_succ, i64_w, i32_w]
      rfl
    refine pure_ (i := 3) (N := some 12) (v := ?_) (a' := ?_) #[true, false, false, true, false, false, false, false] rfl rfl (any_of HT_.out (by kernel_rfl)) (fun _ _ _ h => h) (Or.inl ⟨by rfl, ?_⟩) ?_ ?_
    rotate_left
    · intro w'
      go_simp
      with_reducible rfl
    rotate_left
    · simp only [Act.put, List.setIfInBounds_toArray, List.set_cons_zero, List.set_cons_succ, i64_w, i32_w]
      rfl
    refine take_ (i := 1) (N := some 10) (v := ?_) (a' := ?_) #[true, true, false, true, false, false, false, false] rfl rfl (take_ofW HT_.out HW_.out (by kernel_rfl)) (fun _ _ _ h => h) (Or.inl ⟨by rfl, ?_⟩) hHeld ?_ ?_
    rotate_left
    · rintro w' ⟨s0, s1, s2, s3, s4, s5, s6, s7, s8⟩
      go_simp
      with_reducible rfl
    rotate_left
    · simp only [Act.put, List.setIfInBounds_toArray, List.set_cons_zero, List.set_cons_succ, i64_w, i32_w]
      rfl
    refine take_ (i := 4) (N := some 13) (v := ?_) (a' := ?_) #[true, true, false, true, true, false, false, false] rfl rfl (take_ofW HT_.out HW_.out (by kernel_rfl)) (fun _ _ _ h => h) (Or.inl ⟨by rfl, ?_⟩) hHeld ?_ ?_
    rotate_left
    · rintro w' ⟨s0, s1, s2, s3, s4, s5, s6, s7, s8⟩
      go_simp
      with_reducible rfl
    rotate_left
    · simp only [Act.put, List.setIfInBounds_toArray, List.set_cons_zero, List.set_cons_succ, i64_w, i32_w]
      rfl
    refine one_ (i := 2) (N := some 11) #[true, true, true, true, true, false, false, false] rfl rfl (one_of HT_.out (by kernel_rfl)) (by decide) (fun K hK => ?_)
    refine goes_ Tryd.func33 (by kernel_rfl) rfl #[.int .i64 a0_1] (by rfl) rfl rfl (by (try simp only [List.map_toArray, List.map_cons, List.map_nil]); first | done | rfl | (simp only [List.length_drop, List.length_take]; rfl)) ?_
    with_reducible refine (abacuslaw08_sign.calls a0_1 t299 _ A2.out).mono ?_
    rintro e w' ⟨rfl, ⟨nd, rfl⟩⟩
    refine ⟨_, rfl, ?_⟩
    refine hK.out _ _ ⟨(blk_cell BK298.out 0).trans rfl, (blk_cell BK298.out 1).trans rfl, (blk_cell BK298.out 2).trans rfl, (blk_cell BK298.out 3).trans rfl, (blk_cell BK298.out 4).trans rfl, (blk_cell BK298.out 5).trans rfl, (blk_cell BK298.out 6).trans rfl, (blk_cell BK298.out 7).trans rfl, (blk_cell BK298.out 8).trans rfl⟩ (fun hHeld => ?_)
    clear hK K
    refine norm_ (a' := ?_) ?_ ?_
    rotate_left
    · show Act.put _ (some 11) _ = _
      simp only [Act.put, List.setIfInBounds_toArray, List.set_cons_zero, List.set_cons_succ, i64_w, i32_w]
      rfl
    refine one_ (i := 5) (N := some 14) #[true, true, true, true, true, true, false, false] rfl rfl (one_of HT_.out (by kernel_rfl)) (by decide) (fun K hK => ?_)
    refine goes_ Tryd.func34 (by kernel_rfl) rfl #[.slice A0_2 l0_2.length c0_2] (by rfl) rfl rfl (by (try simp only [List.map_toArray, List.map_cons, List.map_nil]); first | done | rfl | (simp only [List.length_drop, List.length_take]; rfl)) ?_
    with_reducible refine (abacuslaw08_figures.calls k _ _ l0_2 t300 _ ?side1 ?side2 A3.out).mono ?_
    (case side1 => repeat (first | exact (Kd.C_below HR0_2.out (by repeat (first | (with_reducible first | exact HB.out | apply below_alloc | apply pw_below_drewN | apply below_drew1 | refine below_set ?_ GE298.out) | exact HB.out))) | (with_reducible refine Kd.C_alloc ?_ _) | (with_reducible refine Kd.C_drewN ?_ _) | (with_reducible refine Kd.C_drew ?_)))
    (case side2 => exact HC0_2.out)
    rintro e w8 ⟨rfl, hb⟩
    refine ⟨_, rfl, ?_⟩
    have n0_ := Aside0.mk (blk_below (g := gb298) (o := .cells #[.int .i64 a0_0, .int .i64 a0_1, .slice A0_2 l0_2.length c0_2, .bool a0_3, .slice A0_4 l0_4.length c0_4, .int .i64 a0_5, .int .i64 a0_6, .int .i64 a0_7, .string a0_8] 44 (0, 0)) (by (with_reducible repeat (first | refine blk_drewN ?_ _ | refine blk_drew ?_ | refine blk_alloc ?_ _)); exact BK298.out) hb)
    have n1_ := Aside0.mk (below_step (by repeat (first | (with_reducible first | exact HB.out | apply below_alloc | apply pw_below_drewN | apply below_drew1 | refine below_set ?_ GE298.out) | exact HB.out)) hb)
    clear BK298
    clear HB
    have BK298 := n0_
    have HB := n1_
    clear n0_ n1_
    (try clear hb)
    (try clear hb2)
    (try clear hk)
    (try clear hi)
    refine hK.out _ _ ⟨(blk_cell BK298.out 0).trans rfl, (blk_cell BK298.out 1).trans rfl, (blk_cell BK298.out 2).trans rfl, (blk_cell BK298.out 3).trans rfl, (blk_cell BK298.out 4).trans rfl, (blk_cell BK298.out 5).trans rfl, (blk_cell BK298.out 6).trans rfl, (blk_cell BK298.out 7).trans rfl, (blk_cell BK298.out 8).trans rfl⟩ (fun hHeld => ?_)
    clear hK K
    refine norm_ (a' := ?_) ?_ ?_
    rotate_left
    · show Act.put _ (some 14) _ = _
      simp only [Act.put, List.setIfInBounds_toArray, List.set_cons_zero, List.set_cons_succ, i64_w, i32_w]
      rfl
    refine pure_ (i := 6) (N := some 15) (v := ?_) (a' := ?_) #[true, true, true, true, true, true, true, false] rfl rfl (any_of HT_.out (by kernel_rfl)) (fun _ _ _ h => h) (Or.inl ⟨by rfl, ?_⟩) ?_ ?_
    rotate_left
    · intro w'
      go_simp
      with_reducible rfl
    rotate_left
    · simp only [Act.put, List.setIfInBounds_toArray, List.set_cons_zero, List.set_cons_succ, i64_w, i32_w]
      rfl
    refine pure_ (i := 7) (N := some 7) (v := ?_) (a' := ?_) #[true, true, true, true, true, true, true, true] rfl rfl (any_of HT_.out (by kernel_rfl)) (fun _ _ _ h => h) (Or.inl ⟨by rfl, ?_⟩) ?_ ?_
    rotate_left
    · intro w'
      go_simp
      with_reducible rfl
    rotate_left
    · simp only [Act.put, List.setIfInBounds_toArray, List.set_cons_zero, List.set_cons_succ, i64_w, i32_w]
      rfl
    refine done_ (done_of HT_.out (by kernel_rfl)) ?_
    have hcz9_0 : w8.cell? ⟨gb298, 0, none⟩ = some (.int .i64 a0_0) := (blk_cell BK298.out 0).trans rfl
    have hcz9_1 : w8.cell? ⟨gb298, 1, none⟩ = some (.int .i64 a0_1) := (blk_cell BK298.out 1).trans rfl
    have hcz9_2 : w8.cell? ⟨gb298, 2, none⟩ = some (.slice A0_2 l0_2.length c0_2) := (blk_cell BK298.out 2).trans rfl
    have hcz9_3 : w8.cell? ⟨gb298, 3, none⟩ = some (.bool a0_3) := (blk_cell BK298.out 3).trans rfl
    have hcz9_4 : w8.cell? ⟨gb298, 4, none⟩ = some (.slice A0_4 l0_4.length c0_4) := (blk_cell BK298.out 4).trans rfl
    have hcz9_5 : w8.cell? ⟨gb298, 5, none⟩ = some (.int .i64 a0_5) := (blk_cell BK298.out 5).trans rfl
    have hcz9_6 : w8.cell? ⟨gb298, 6, none⟩ = some (.int .i64 a0_6) := (blk_cell BK298.out 6).trans rfl
    have hcz9_7 : w8.cell? ⟨gb298, 7, none⟩ = some (.int .i64 a0_7) := (blk_cell BK298.out 7).trans rfl
    have hcz9_8 : w8.cell? ⟨gb298, 8, none⟩ = some (.string a0_8) := (blk_cell BK298.out 8).trans rfl
    have hfz9_0 := blk_frozen BK298.out 0
    have hfz9_1 := blk_frozen BK298.out 1
    have hfz9_2 := blk_frozen BK298.out 2
    have hfz9_3 := blk_frozen BK298.out 3
    have hfz9_4 := blk_frozen BK298.out 4
    have hfz9_5 := blk_frozen BK298.out 5
    have hfz9_6 := blk_frozen BK298.out 6
    have hfz9_7 := blk_frozen BK298.out 7
    have hfz9_8 := blk_frozen BK298.out 8
    go_upto_if 17 with (fail)
    go_cut [6, 7] (fun v6 v7 wc => ∃ (kq : Nat) (x6_4 : ByteArray) (x7_4 : ByteArray), v6 = .string x6_4 ∧ v7 = .string x7_4 ∧ Aside0 (abacuslaw08_built.j0 kq x6_4 x7_4 a0_0 a0_1 l0_2 a0_3 l0_4 a0_5 a0_6 a0_7 a0_8 = some (r1, r2, r3, r4)) ∧ Aside0 (kq ≤ k) ∧ Aside0 (wc.heap[gb298]? = some (.cells #[.int .i64 a0_0, .int .i64 a0_1, (.slice A0_2 l0_2.length c0_2), .bool a0_3, (.slice A0_4 l0_4.length c0_4), .int .i64 a0_5, .int .i64 a0_6, .int .i64 a0_7, .string a0_8] 44 (0, 0))) ∧ Aside0 (Below w.heap.size w wc))
    case first =>
      have H := HC5.out
      clear HC5
      by_cases c10 : a0_3 = true
      · subst c10
        have H1 : ((abacuslaw08_figures.f k l0_4).bind fun t301 => (if (t299 ++ t300).size + 1 ≤ 9223372036854775807 then (if ((t299 ++ t300) ++ (⟨#[46]⟩ : ByteArray)).size + t301.size ≤ 9223372036854775807 then (abacuslaw08_built.j0 k t301 (((t299 ++ t300) ++ (⟨#[46]⟩ : ByteArray)) ++ t301) a0_0 a0_1 l0_2 true l0_4 a0_5 a0_6 a0_7 a0_8) else (none)) else (none))) = some (r1, r2, r3, r4) := by rw [if_pos rfl] at H; exact H
        clear H
        have H := H1
        clear H1
        replace H := Option.bind_eq_some_iff.mp H
        obtain ⟨t301, A110, H⟩ := H
        replace H : (if (t299 ++ t300).size + 1 ≤ 9223372036854775807 then (if ((t299 ++ t300) ++ (⟨#[46]⟩ : ByteArray)).size + t301.size ≤ 9223372036854775807 then (abacuslaw08_built.j0 k t301 (((t299 ++ t300) ++ (⟨#[46]⟩ : ByteArray)) ++ t301) a0_0 a0_1 l0_2 true l0_4 a0_5 a0_6 a0_7 a0_8) else (none)) else (none)) = some (r1, r2, r3, r4) := H
        have A11 := Aside0.mk A110
        clear A110
        by_cases c12 : (t299 ++ t300).size + 1 ≤ 9223372036854775807
        · rw [if_pos c12] at H
          have c12b0 := eq_true c12
          have c12b1 : decide ((t299 ++ t300).size + 1 ≤ 9223372036854775807) = true := decide_eq_true c12
          try have c12b2 : (9223372036854775807 < (t299 ++ t300).size + 1) = False := eq_false (Nat.not_lt.2 c12)
          (try (have c12b3 : (9223372036854775807 < t299.size + t300.size + 1) = False := by have h_ := c12b2; simp only [ByteArray.size_append] at h_; exact h_))
          by_cases c13 : ((t299 ++ t300) ++ (⟨#[46]⟩ : ByteArray)).size + t301.size ≤ 9223372036854775807
          · rw [if_pos c13] at H
            have c13b0 := eq_true c13
            have c13b1 : decide (((t299 ++ t300) ++ (⟨#[46]⟩ : ByteArray)).size + t301.size ≤ 9223372036854775807) = true := decide_eq_true c13
            try have c13b2 : (9223372036854775807 < ((t299 ++ t300) ++ (⟨#[46]⟩ : ByteArray)).size + t301.size) = False := eq_false (Nat.not_lt.2 c13)
            (try (have c13b3 : (9223372036854775807 < t299.size + t300.size + 1 + t301.size) = False := by have h_ := c13b2; simp only [ByteArray.size_append] at h_; exact h_))
            have H' := Aside0.mk H
            clear H
            have hcz14_0 : w8.cell? ⟨gb298, 0, none⟩ = some (.int .i64 a0_0) := (blk_cell BK298.out 0).trans rfl
            have hcz14_1 : w8.cell? ⟨gb298, 1, none⟩ = some (.int .i64 a0_1) := (blk_cell BK298.out 1).trans rfl
            have hcz14_2 : w8.cell? ⟨gb298, 2, none⟩ = some (.slice A0_2 l0_2.length c0_2) := (blk_cell BK298.out 2).trans rfl
            have hcz14_3 : w8.cell? ⟨gb298, 3, none⟩ = some (.bool true) := (blk_cell BK298.out 3).trans rfl
            have hcz14_4 : w8.cell? ⟨gb298, 4, none⟩ = some (.slice A0_4 l0_4.length c0_4) := (blk_cell BK298.out 4).trans rfl
            have hcz14_5 : w8.cell? ⟨gb298, 5, none⟩ = some (.int .i64 a0_5) := (blk_cell BK298.out 5).trans rfl
            have hcz14_6 : w8.cell? ⟨gb298, 6, none⟩ = some (.int .i64 a0_6) := (blk_cell BK298.out 6).trans rfl
            have hcz14_7 : w8.cell? ⟨gb298, 7, none⟩ = some (.int .i64 a0_7) := (blk_cell BK298.out 7).trans rfl
            have hcz14_8 : w8.cell? ⟨gb298, 8, none⟩ = some (.string a0_8) := (blk_cell BK298.out 8).trans rfl
            have hfz14_0 := blk_frozen BK298.out 0
            have hfz14_1 := blk_frozen BK298.out 1
            have hfz14_2 := blk_frozen BK298.out 2
            have hfz14_3 := blk_frozen BK298.out 3
            have hfz14_4 := blk_frozen BK298.out 4
            have hfz14_5 := blk_frozen BK298.out 5
            have hfz14_6 := blk_frozen BK298.out 6
            have hfz14_7 := blk_frozen BK298.out 7
            have hfz14_8 := blk_frozen BK298.out 8
            go_wp2_with (first | ((with_reducible refine gate_callee (f := 34) rfl ?_); refine goesL_ (some 20) rfl rfl Tryd.func34 (by kernel_rfl) rfl #[.slice A0_4 l0_4.length c0_4] rfl (by (try simp only [List.map_toArray, List.map_cons, List.map_nil]); first | done | rfl | (simp only [List.length_drop, List.length_take]; rfl)) ?_; (with_reducible refine (abacuslaw08_figures.calls k _ _ l0_4 t301 _ ?side1 ?side2 A11.out).mono ?_); (case side1 => repeat (first | exact (Kd.C_below HR0_4.out HB.out) | (with_reducible refine Kd.C_alloc ?_ _) | (with_reducible refine Kd.C_drewN ?_ _) | (with_reducible refine Kd.C_drew ?_))); (case side2 => exact HC0_4.out); rintro e w15 ⟨rfl, hb⟩; refine ⟨_, rfl, ?_⟩; have n0_ := Aside0.mk (blk_below (g := gb298) (o := .cells #[.int .i64 a0_0, .int .i64 a0_1, .slice A0_2 l0_2.length c0_2, .bool true, .slice A0_4 l0_4.length c0_4, .int .i64 a0_5, .int .i64 a0_6, .int .i64 a0_7, .string a0_8] 44 (0, 0)) (by (with_reducible repeat (first | refine blk_drewN ?_ _ | refine blk_drew ?_ | refine blk_alloc ?_ _)); exact BK298.out) hb); have n1_ := Aside0.mk (below_step (by repeat (first | (with_reducible first | exact HB.out | apply below_alloc | apply pw_below_drewN | apply below_drew1 | refine below_set ?_ GE298.out) | exact HB.out)) hb); clear BK298; clear HB; have BK298 := n0_; have HB := n1_; clear n0_ n1_; (try clear hb); (try clear hb2); (try clear hk); (try clear hi)))
            go_meet
            case rel => exact ⟨_, (t301), (((t299 ++ t300) ++ (⟨#[46]⟩ : ByteArray)) ++ t301), (by first | rfl | (simp; done) | (simp [*]; done)), (by first | rfl | (simp; done) | (simp [*]; done)), H', ⟨by first | omega | exact Nat.le_refl _⟩, ⟨by (with_reducible repeat (first | refine blk_drewN ?_ _ | refine blk_drew ?_ | refine blk_alloc ?_ _)); exact BK298.out⟩, ⟨by repeat (first | (with_reducible first | exact HB.out | apply below_alloc | apply pw_below_drewN | apply below_drew1 | refine below_set ?_ GE298.out) | exact HB.out)⟩⟩
          · rw [if_neg c13] at H
            exact absurd H (by simp)
        · rw [if_neg c12] at H
          exact absurd H (by simp)
      · replace c10 := Bool.eq_false_iff.mpr c10
        subst c10
        have H1 : (abacuslaw08_built.j0 k (⟨#[]⟩ : ByteArray) (t299 ++ t300) a0_0 a0_1 l0_2 false l0_4 a0_5 a0_6 a0_7 a0_8) = some (r1, r2, r3, r4) := by rw [if_neg (show ¬ (false = true) by decide)] at H; exact H
        clear H
        have H := H1
        clear H1
        have H' := Aside0.mk H
        clear H
        go_wp2
        go_meet
        case rel => exact ⟨_, ((⟨#[]⟩ : ByteArray)), (t299 ++ t300), (by first | rfl | (simp; done) | (simp [*]; done)), (by first | rfl | (simp; done) | (simp [*]; done)), H', ⟨by first | omega | exact Nat.le_refl _⟩, ⟨by (with_reducible repeat (first | refine blk_drewN ?_ _ | refine blk_drew ?_ | refine blk_alloc ?_ _)); exact BK298.out⟩, ⟨by repeat (first | (with_reducible first | exact HB.out | apply below_alloc | apply pw_below_drewN | apply below_drew1 | refine below_set ?_ GE298.out) | exact HB.out)⟩⟩
    case rest =>
      clear HC5
      try clear c1
      try clear c2
      try clear p2
      try clear c3
      try clear c4
      try clear c4b0
      try clear c4b1
      try clear c4b2
      try clear c10
      try clear c12
      try clear c12b0
      try clear c12b1
      try clear c12b2
      try clear c13
      try clear c13b0
      try clear c13b1
      try clear c13b2
      try clear hcz14_0
      try clear hcz14_1
      try clear hcz14_2
      try clear hcz14_3
      try clear hcz14_4
      try clear hcz14_5
      try clear hcz14_6
      try clear hcz14_7
      try clear hcz14_8
      try clear hcz9_0
      try clear hcz9_1
      try clear hcz9_2
      try clear hcz9_3
      try clear hcz9_4
      try clear hcz9_5
      try clear hcz9_6
      try clear hcz9_7
      try clear hcz9_8
      try clear hfz14_0
      try clear hfz14_1
      try clear hfz14_2
      try clear hfz14_3
      try clear hfz14_4
      try clear hfz14_5
      try clear hfz14_6
      try clear hfz14_7
      try clear hfz14_8
      try clear hfz9_0
      try clear hfz9_1
      try clear hfz9_2
      try clear hfz9_3
      try clear hfz9_4
      try clear hfz9_5
      try clear hfz9_6
      try clear hfz9_7
      try clear hfz9_8
      obtain ⟨kq, x6_4, x7_4, rfl, rfl, HA, HJ4, BK298, HB⟩ := hcut
      cases kq with
      | zero => exact absurd HA.out (by simp [abacuslaw08_built.j0])
      | succ kj4 =>
        have H := HA.out
        clear HA
        simp only [abacuslaw08_built.j0] at H
        by_cases c16 : (wrap64 ((l0_2.length : Int) + (x6_4.size : Int))) = 0
        · rw [if_pos c16] at H
          have c16b0 : ((wrap64 ((l0_2.length : Int) + (x6_4.size : Int))) == 0) = true := beq_iff_eq.mpr c16
          have c16b1 : ((wrap64 ((l0_2.length : Int) + (x6_4.size : Int))) != 0) = false := bne_eq_false_iff_eq.mpr c16
          clear c16
          simp only [Option.some.injEq, Prod.mk.injEq] at H
          obtain ⟨rfl, rfl, rfl, rfl⟩ := H
          have hcz17_0 : wc.cell? ⟨gb298, 0, none⟩ = some (.int .i64 a0_0) := (blk_cell BK298.out 0).trans rfl
          have hcz17_1 : wc.cell? ⟨gb298, 1, none⟩ = some (.int .i64 a0_1) := (blk_cell BK298.out 1).trans rfl
          have hcz17_2 : wc.cell? ⟨gb298, 2, none⟩ = some (.slice A0_2 l0_2.length c0_2) := (blk_cell BK298.out 2).trans rfl
          have hcz17_3 : wc.cell? ⟨gb298, 3, none⟩ = some (.bool a0_3) := (blk_cell BK298.out 3).trans rfl
          have hcz17_4 : wc.cell? ⟨gb298, 4, none⟩ = some (.slice A0_4 l0_4.length c0_4) := (blk_cell BK298.out 4).trans rfl
          have hcz17_5 : wc.cell? ⟨gb298, 5, none⟩ = some (.int .i64 a0_5) := (blk_cell BK298.out 5).trans rfl
          have hcz17_6 : wc.cell? ⟨gb298, 6, none⟩ = some (.int .i64 a0_6) := (blk_cell BK298.out 6).trans rfl
          have hcz17_7 : wc.cell? ⟨gb298, 7, none⟩ = some (.int .i64 a0_7) := (blk_cell BK298.out 7).trans rfl
          have hcz17_8 : wc.cell? ⟨gb298, 8, none⟩ = some (.string a0_8) := (blk_cell BK298.out 8).trans rfl
          have hfz17_0 := blk_frozen BK298.out 0
          have hfz17_1 := blk_frozen BK298.out 1
          have hfz17_2 := blk_frozen BK298.out 2
          have hfz17_3 := blk_frozen BK298.out 3
          have hfz17_4 := blk_frozen BK298.out 4
          have hfz17_5 := blk_frozen BK298.out 5
          have hfz17_6 := blk_frozen BK298.out 6
          have hfz17_7 := blk_frozen BK298.out 7
          have hfz17_8 := blk_frozen BK298.out 8
          go_wp2
          refine bodyPost_ret (results_list (rs := [.tmp 2, .tmp 3, .tmp 4, .tmp 5]) rfl (by simp) (.tmp (.tmp (.tmp (.tmp .nil))))) rfl ?_
          exact ⟨by first | rfl | (simp [errW_none, errW_some] <;> rfl) | (simp [*, errW_none, errW_some] <;> rfl), by repeat (first | (with_reducible first | exact HB.out | apply below_alloc | apply pw_below_drewN | apply below_drew1 | refine below_set ?_ GE298.out) | exact HB.out)⟩
        · rw [if_neg c16] at H
          have c16b0 : ((wrap64 ((l0_2.length : Int) + (x6_4.size : Int))) == 0) = false := beq_eq_false_iff_ne.mpr c16
          have c16b1 : ((wrap64 ((l0_2.length : Int) + (x6_4.size : Int))) != 0) = true := bne_iff_ne.mpr c16
          have HC18 := Aside0.mk H
          clear H
          have hcz19_0 : wc.cell? ⟨gb298, 0, none⟩ = some (.int .i64 a0_0) := (blk_cell BK298.out 0).trans rfl
          have hcz19_1 : wc.cell? ⟨gb298, 1, none⟩ = some (.int .i64 a0_1) := (blk_cell BK298.out 1).trans rfl
          have hcz19_2 : wc.cell? ⟨gb298, 2, none⟩ = some (.slice A0_2 l0_2.length c0_2) := (blk_cell BK298.out 2).trans rfl
          have hcz19_3 : wc.cell? ⟨gb298, 3, none⟩ = some (.bool a0_3) := (blk_cell BK298.out 3).trans rfl
          have hcz19_4 : wc.cell? ⟨gb298, 4, none⟩ = some (.slice A0_4 l0_4.length c0_4) := (blk_cell BK298.out 4).trans rfl
          have hcz19_5 : wc.cell? ⟨gb298, 5, none⟩ = some (.int .i64 a0_5) := (blk_cell BK298.out 5).trans rfl
          have hcz19_6 : wc.cell? ⟨gb298, 6, none⟩ = some (.int .i64 a0_6) := (blk_cell BK298.out 6).trans rfl
          have hcz19_7 : wc.cell? ⟨gb298, 7, none⟩ = some (.int .i64 a0_7) := (blk_cell BK298.out 7).trans rfl
          have hcz19_8 : wc.cell? ⟨gb298, 8, none⟩ = some (.string a0_8) := (blk_cell BK298.out 8).trans rfl
          have hfz19_0 := blk_frozen BK298.out 0
          have hfz19_1 := blk_frozen BK298.out 1
          have hfz19_2 := blk_frozen BK298.out 2
          have hfz19_3 := blk_frozen BK298.out 3
          have hfz19_4 := blk_frozen BK298.out 4
          have hfz19_5 := blk_frozen BK298.out 5
          have hfz19_6 := blk_frozen BK298.out 6
          have hfz19_7 := blk_frozen BK298.out 7
          have hfz19_8 := blk_frozen BK298.out 8
          go_upto_region 9 with (fail)
          go_cut [39] (fun v39 wc => ∃ (kq : Nat) (x39_17 : Bool), v39 = .bool x39_17 ∧ Aside0 (abacuslaw08_built.j1 kq x6_4 x7_4 0 x39_17 a0_0 a0_1 l0_2 a0_3 l0_4 a0_5 a0_6 a0_7 a0_8 = some (r1, r2, r3, r4)) ∧ Aside0 (kq ≤ kj4) ∧ Aside0 (wc.heap[gb298]? = some (.cells #[.int .i64 a0_0, .int .i64 a0_1, (.slice A0_2 l0_2.length c0_2), .bool a0_3, (.slice A0_4 l0_4.length c0_4), .int .i64 a0_5, .int .i64 a0_6, .int .i64 a0_7, .string a0_8] 44 (0, 0))) ∧ Aside0 (Below w.heap.size w wc))
          case first =>
            have H := HC18.out
            clear HC18
            by_cases c20 : a0_5 = 1
            · rw [if_pos c20] at H
              have c20b0 : (a0_5 == 1) = true := beq_iff_eq.mpr c20
              have c20b1 : (a0_5 != 1) = false := bne_eq_false_iff_eq.mpr c20
              clear c20
              (first | rw [c20b0] | (simp only [i64_w, i32_w]; rw [c20b0]) | skip)
              have H' := Aside0.mk H
              clear H
              have hcz21_0 : wc.cell? ⟨gb298, 0, none⟩ = some (.int .i64 a0_0) := (blk_cell BK298.out 0).trans rfl
              have hcz21_1 : wc.cell? ⟨gb298, 1, none⟩ = some (.int .i64 a0_1) := (blk_cell BK298.out 1).trans rfl
              have hcz21_2 : wc.cell? ⟨gb298, 2, none⟩ = some (.slice A0_2 l0_2.length c0_2) := (blk_cell BK298.out 2).trans rfl
              have hcz21_3 : wc.cell? ⟨gb298, 3, none⟩ = some (.bool a0_3) := (blk_cell BK298.out 3).trans rfl
              have hcz21_4 : wc.cell? ⟨gb298, 4, none⟩ = some (.slice A0_4 l0_4.length c0_4) := (blk_cell BK298.out 4).trans rfl
              have hcz21_5 : wc.cell? ⟨gb298, 5, none⟩ = some (.int .i64 a0_5) := (blk_cell BK298.out 5).trans rfl
              have hcz21_6 : wc.cell? ⟨gb298, 6, none⟩ = some (.int .i64 a0_6) := (blk_cell BK298.out 6).trans rfl
              have hcz21_7 : wc.cell? ⟨gb298, 7, none⟩ = some (.int .i64 a0_7) := (blk_cell BK298.out 7).trans rfl
              have hcz21_8 : wc.cell? ⟨gb298, 8, none⟩ = some (.string a0_8) := (blk_cell BK298.out 8).trans rfl
              have hfz21_0 := blk_frozen BK298.out 0
              have hfz21_1 := blk_frozen BK298.out 1
              have hfz21_2 := blk_frozen BK298.out 2
              have hfz21_3 := blk_frozen BK298.out 3
              have hfz21_4 := blk_frozen BK298.out 4
              have hfz21_5 := blk_frozen BK298.out 5
              have hfz21_6 := blk_frozen BK298.out 6
              have hfz21_7 := blk_frozen BK298.out 7
              have hfz21_8 := blk_frozen BK298.out 8
              go_wp2
              go_meet
              case rel => exact ⟨_, (true), (by first | rfl | (simp; done) | (simp [*]; done)), H', ⟨by have := HJ4.out; first | omega | exact Nat.le_refl _⟩, ⟨by (with_reducible repeat (first | refine blk_drewN ?_ _ | refine blk_drew ?_ | refine blk_alloc ?_ _)); exact BK298.out⟩, ⟨by repeat (first | (with_reducible first | exact HB.out | apply below_alloc | apply pw_below_drewN | apply below_drew1 | refine below_set ?_ GE298.out) | exact HB.out)⟩⟩
            · rw [if_neg c20] at H
              have c20b0 : (a0_5 == 1) = false := beq_eq_false_iff_ne.mpr c20
              have c20b1 : (a0_5 != 1) = true := bne_iff_ne.mpr c20
              (first | rw [c20b0] | (simp only [i64_w, i32_w]; rw [c20b0]) | skip)
              have H' := Aside0.mk H
              clear H
              have hcz22_0 : wc.cell? ⟨gb298, 0, none⟩ = some (.int .i64 a0_0) := (blk_cell BK298.out 0).trans rfl
              have hcz22_1 : wc.cell? ⟨gb298, 1, none⟩ = some (.int .i64 a0_1) := (blk_cell BK298.out 1).trans rfl
              have hcz22_2 : wc.cell? ⟨gb298, 2, none⟩ = some (.slice A0_2 l0_2.length c0_2) := (blk_cell BK298.out 2).trans rfl
              have hcz22_3 : wc.cell? ⟨gb298, 3, none⟩ = some (.bool a0_3) := (blk_cell BK298.out 3).trans rfl
              have hcz22_4 : wc.cell? ⟨gb298, 4, none⟩ = some (.slice A0_4 l0_4.length c0_4) := (blk_cell BK298.out 4).trans rfl
              have hcz22_5 : wc.cell? ⟨gb298, 5, none⟩ = some (.int .i64 a0_5) := (blk_cell BK298.out 5).trans rfl
              have hcz22_6 : wc.cell? ⟨gb298, 6, none⟩ = some (.int .i64 a0_6) := (blk_cell BK298.out 6).trans rfl
              have hcz22_7 : wc.cell? ⟨gb298, 7, none⟩ = some (.int .i64 a0_7) := (blk_cell BK298.out 7).trans rfl
              have hcz22_8 : wc.cell? ⟨gb298, 8, none⟩ = some (.string a0_8) := (blk_cell BK298.out 8).trans rfl
              have hfz22_0 := blk_frozen BK298.out 0
              have hfz22_1 := blk_frozen BK298.out 1
              have hfz22_2 := blk_frozen BK298.out 2
              have hfz22_3 := blk_frozen BK298.out 3
              have hfz22_4 := blk_frozen BK298.out 4
              have hfz22_5 := blk_frozen BK298.out 5
              have hfz22_6 := blk_frozen BK298.out 6
              have hfz22_7 := blk_frozen BK298.out 7
              have hfz22_8 := blk_frozen BK298.out 8
              go_wp2
              go_meet
              case rel => exact ⟨_, ((a0_5 == 2)), (by first | rfl | (simp; done) | (simp [*]; done)), H', ⟨by have := HJ4.out; first | omega | exact Nat.le_refl _⟩, ⟨by (with_reducible repeat (first | refine blk_drewN ?_ _ | refine blk_drew ?_ | refine blk_alloc ?_ _)); exact BK298.out⟩, ⟨by repeat (first | (with_reducible first | exact HB.out | apply below_alloc | apply pw_below_drewN | apply below_drew1 | refine below_set ?_ GE298.out) | exact HB.out)⟩⟩
          case rest =>
            clear HC18
            try clear c1
            try clear c2
            try clear p2
            try clear c3
            try clear c4
            try clear c4b0
            try clear c4b1
            try clear c4b2
            try clear p6
            try clear c10
            try clear c12
            try clear c12b0
            try clear c12b1
            try clear c12b2
            try clear c13
            try clear c13b0
            try clear c13b1
            try clear c13b2
            try clear c16
            try clear c16b0
            try clear c16b1
            try clear c20
            try clear c20b0
            try clear c20b1
            try clear hcz14_0
            try clear hcz14_1
            try clear hcz14_2
            try clear hcz14_3
            try clear hcz14_4
            try clear hcz14_5
            try clear hcz14_6
            try clear hcz14_7
            try clear hcz14_8
            try clear hcz17_0
            try clear hcz17_1
            try clear hcz17_2
            try clear hcz17_3
            try clear hcz17_4
            try clear hcz17_5
            try clear hcz17_6
            try clear hcz17_7
            try clear hcz17_8
            try clear hcz19_0
            try clear hcz19_1
            try clear hcz19_2
            try clear hcz19_3
            try clear hcz19_4
            try clear hcz19_5
            try clear hcz19_6
            try clear hcz19_7
            try clear hcz19_8
            try clear hcz21_0
            try clear hcz21_1
            try clear hcz21_2
            try clear hcz21_3
            try clear hcz21_4
            try clear hcz21_5
            try clear hcz21_6
            try clear hcz21_7
            try clear hcz21_8
            try clear hcz22_0
            try clear hcz22_1
            try clear hcz22_2
            try clear hcz22_3
            try clear hcz22_4
            try clear hcz22_5
            try clear hcz22_6
            try clear hcz22_7
            try clear hcz22_8
            try clear hcz9_0
            try clear hcz9_1
            try clear hcz9_2
            try clear hcz9_3
            try clear hcz9_4
            try clear hcz9_5
            try clear hcz9_6
            try clear hcz9_7
            try clear hcz9_8
            try clear hfz14_0
            try clear hfz14_1
            try clear hfz14_2
            try clear hfz14_3
            try clear hfz14_4
            try clear hfz14_5
            try clear hfz14_6
            try clear hfz14_7
            try clear hfz14_8
            try clear hfz17_0
            try clear hfz17_1
            try clear hfz17_2
            try clear hfz17_3
            try clear hfz17_4
            try clear hfz17_5
            try clear hfz17_6
            try clear hfz17_7
            try clear hfz17_8
            try clear hfz19_0
            try clear hfz19_1
            try clear hfz19_2
            try clear hfz19_3
            try clear hfz19_4
            try clear hfz19_5
            try clear hfz19_6
            try clear hfz19_7
            try clear hfz19_8
            try clear hfz21_0
            try clear hfz21_1
            try clear hfz21_2
            try clear hfz21_3
            try clear hfz21_4
            try clear hfz21_5
            try clear hfz21_6
            try clear hfz21_7
            try clear hfz21_8
            try clear hfz22_0
            try clear hfz22_1
            try clear hfz22_2
            try clear hfz22_3
            try clear hfz22_4
            try clear hfz22_5
            try clear hfz22_6
            try clear hfz22_7
            try clear hfz22_8
            try clear hfz9_0
            try clear hfz9_1
            try clear hfz9_2
            try clear hfz9_3
            try clear hfz9_4
            try clear hfz9_5
            try clear hfz9_6
            try clear hfz9_7
            try clear hfz9_8
            try clear p2
            obtain ⟨kq, x39_17, rfl, HA, HJ17, BK298, HB⟩ := hcut
            cases kq with
            | zero => exact absurd HA.out (by simp [abacuslaw08_built.j1])
            | succ kj17 =>
              have H := HA.out
              clear HA
              simp only [abacuslaw08_built.j1] at H
              by_cases c23 : x39_17 = true
              · subst c23
                have H1 : (if a0_7 < 0 then (some ((⟨#[]⟩ : ByteArray), (⟨#[]⟩ : ByteArray), 0, false)) else (if 0 ≤ (wrap64 (a0_5 - 1)) then (if (wrap64 (a0_5 - 1)) ≤ a0_5 then (if a0_5 ≤ 2 then (if x7_4.size + ((⟨#[101, 69]⟩ : ByteArray).extract ((wrap64 (a0_5 - 1)) : Int).toNat (a0_5 : Int).toNat).size ≤ 9223372036854775807 then ((abacuslaw08_sign.f a0_6).bind fun t302 => (if (x7_4 ++ ((⟨#[101, 69]⟩ : ByteArray).extract ((wrap64 (a0_5 - 1)) : Int).toNat (a0_5 : Int).toNat)).size + t302.size ≤ 9223372036854775807 then ((abacuslaw08_number.f kj17 a0_7).bind fun t303 => (if ((x7_4 ++ ((⟨#[101, 69]⟩ : ByteArray).extract ((wrap64 (a0_5 - 1)) : Int).toNat (a0_5 : Int).toNat)) ++ t302).size + t303.size ≤ 9223372036854775807 then (if a0_7 > 1000000000000000 then (if a0_6 = 2 then ((abacuslaw08_figures.f kj17 l0_2).bind fun t304 => (if t304.size + x6_4.size ≤ 9223372036854775807 then (some (((x7_4 ++ ((⟨#[101, 69]⟩ : ByteArray).extract ((wrap64 (a0_5 - 1)) : Int).toNat (a0_5 : Int).toNat)) ++ t302) ++ t303, t304 ++ x6_4, wrap64 ((-1000000000000000) - (x6_4.size : Int)), true)) else (none))) else ((abacuslaw08_figures.f kj17 l0_2).bind fun t305 => (if t305.size + x6_4.size ≤ 9223372036854775807 then (some (((x7_4 ++ ((⟨#[101, 69]⟩ : ByteArray).extract ((wrap64 (a0_5 - 1)) : Int).toNat (a0_5 : Int).toNat)) ++ t302) ++ t303, t305 ++ x6_4, wrap64 (1000000000000000 - (x6_4.size : Int)), true)) else (none)))) else (if a0_6 = 2 then ((abacuslaw08_figures.f kj17 l0_2).bind fun t306 => (if t306.size + x6_4.size ≤ 9223372036854775807 then (some (((x7_4 ++ ((⟨#[101, 69]⟩ : ByteArray).extract ((wrap64 (a0_5 - 1)) : Int).toNat (a0_5 : Int).toNat)) ++ t302) ++ t303, t306 ++ x6_4, wrap64 ((wrap64 (-a0_7)) - (x6_4.size : Int)), true)) else (none))) else ((abacuslaw08_figures.f kj17 l0_2).bind fun t307 => (if t307.size + x6_4.size ≤ 9223372036854775807 then (some (((x7_4 ++ ((⟨#[101, 69]⟩ : ByteArray).extract ((wrap64 (a0_5 - 1)) : Int).toNat (a0_5 : Int).toNat)) ++ t302) ++ t303, t307 ++ x6_4, wrap64 (a0_7 - (x6_4.size : Int)), true)) else (none))))) else (none))) else (none))) else (none)) else (none)) else (none)) else (none))) = some (r1, r2, r3, r4) := by rw [if_pos rfl] at H; exact H
                clear H
                have H := H1
                clear H1
                by_cases c24 : a0_7 < 0
                · rw [if_pos c24] at H
                  have c24b0 : decide (a0_7 < 0) = true := decide_eq_true c24
                  clear c24
                  simp only [Option.some.injEq, Prod.mk.injEq] at H
                  obtain ⟨rfl, rfl, rfl, rfl⟩ := H
                  have hcz25_0 : wc.cell? ⟨gb298, 0, none⟩ = some (.int .i64 a0_0) := (blk_cell BK298.out 0).trans rfl
                  have hcz25_1 : wc.cell? ⟨gb298, 1, none⟩ = some (.int .i64 a0_1) := (blk_cell BK298.out 1).trans rfl
                  have hcz25_2 : wc.cell? ⟨gb298, 2, none⟩ = some (.slice A0_2 l0_2.length c0_2) := (blk_cell BK298.out 2).trans rfl
                  have hcz25_3 : wc.cell? ⟨gb298, 3, none⟩ = some (.bool a0_3) := (blk_cell BK298.out 3).trans rfl
                  have hcz25_4 : wc.cell? ⟨gb298, 4, none⟩ = some (.slice A0_4 l0_4.length c0_4) := (blk_cell BK298.out 4).trans rfl
                  have hcz25_5 : wc.cell? ⟨gb298, 5, none⟩ = some (.int .i64 a0_5) := (blk_cell BK298.out 5).trans rfl
                  have hcz25_6 : wc.cell? ⟨gb298, 6, none⟩ = some (.int .i64 a0_6) := (blk_cell BK298.out 6).trans rfl
                  have hcz25_7 : wc.cell? ⟨gb298, 7, none⟩ = some (.int .i64 a0_7) := (blk_cell BK298.out 7).trans rfl
                  have hcz25_8 : wc.cell? ⟨gb298, 8, none⟩ = some (.string a0_8) := (blk_cell BK298.out 8).trans rfl
                  have hfz25_0 := blk_frozen BK298.out 0
                  have hfz25_1 := blk_frozen BK298.out 1
                  have hfz25_2 := blk_frozen BK298.out 2
                  have hfz25_3 := blk_frozen BK298.out 3
                  have hfz25_4 := blk_frozen BK298.out 4
                  have hfz25_5 := blk_frozen BK298.out 5
                  have hfz25_6 := blk_frozen BK298.out 6
                  have hfz25_7 := blk_frozen BK298.out 7
                  have hfz25_8 := blk_frozen BK298.out 8
                  go_wp2
                  refine bodyPost_ret (results_list (rs := [.tmp 2, .tmp 3, .tmp 4, .tmp 5]) rfl (by simp) (.tmp (.tmp (.tmp (.tmp .nil))))) rfl ?_
                  exact ⟨by first | rfl | (simp [errW_none, errW_some] <;> rfl) | (simp [*, errW_none, errW_some] <;> rfl), by repeat (first | (with_reducible first | exact HB.out | apply below_alloc | apply pw_below_drewN | apply below_drew1 | refine below_set ?_ GE298.out) | exact HB.out)⟩
                · rw [if_neg c24] at H
                  have c24b0 : decide (a0_7 < 0) = false := decide_eq_false c24
                  clear c24
                  obtain ⟨ji26, hji26⟩ : ∃ j_ : Int, (wrap64 (a0_5 - 1)) = j_ := ⟨_, rfl⟩
                  replace H : (if 0 ≤ (ji26) then (if (ji26) ≤ a0_5 then (if a0_5 ≤ 2 then (if x7_4.size + ((⟨#[101, 69]⟩ : ByteArray).extract ((ji26) : Int).toNat (a0_5 : Int).toNat).size ≤ 9223372036854775807 then ((abacuslaw08_sign.f a0_6).bind fun t302 => (if (x7_4 ++ ((⟨#[101, 69]⟩ : ByteArray).extract ((ji26) : Int).toNat (a0_5 : Int).toNat)).size + t302.size ≤ 9223372036854775807 then ((abacuslaw08_number.f kj17 a0_7).bind fun t303 => (if ((x7_4 ++ ((⟨#[101, 69]⟩ : ByteArray).extract ((ji26) : Int).toNat (a0_5 : Int).toNat)) ++ t302).size + t303.size ≤ 9223372036854775807 then (if a0_7 > 1000000000000000 then (if a0_6 = 2 then ((abacuslaw08_figures.f kj17 l0_2).bind fun t304 => (if t304.size + x6_4.size ≤ 9223372036854775807 then (some (((x7_4 ++ ((⟨#[101, 69]⟩ : ByteArray).extract ((ji26) : Int).toNat (a0_5 : Int).toNat)) ++ t302) ++ t303, t304 ++ x6_4, wrap64 ((-1000000000000000) - (x6_4.size : Int)), true)) else (none))) else ((abacuslaw08_figures.f kj17 l0_2).bind fun t305 => (if t305.size + x6_4.size ≤ 9223372036854775807 then (some (((x7_4 ++ ((⟨#[101, 69]⟩ : ByteArray).extract ((ji26) : Int).toNat (a0_5 : Int).toNat)) ++ t302) ++ t303, t305 ++ x6_4, wrap64 (1000000000000000 - (x6_4.size : Int)), true)) else (none)))) else (if a0_6 = 2 then ((abacuslaw08_figures.f kj17 l0_2).bind fun t306 => (if t306.size + x6_4.size ≤ 9223372036854775807 then (some (((x7_4 ++ ((⟨#[101, 69]⟩ : ByteArray).extract ((ji26) : Int).toNat (a0_5 : Int).toNat)) ++ t302) ++ t303, t306 ++ x6_4, wrap64 ((wrap64 (-a0_7)) - (x6_4.size : Int)), true)) else (none))) else ((abacuslaw08_figures.f kj17 l0_2).bind fun t307 => (if t307.size + x6_4.size ≤ 9223372036854775807 then (some (((x7_4 ++ ((⟨#[101, 69]⟩ : ByteArray).extract ((ji26) : Int).toNat (a0_5 : Int).toNat)) ++ t302) ++ t303, t307 ++ x6_4, wrap64 (a0_7 - (x6_4.size : Int)), true)) else (none))))) else (none))) else (none))) else (none)) else (none)) else (none)) else (none)) = some (r1, r2, r3, r4) := by first | (rw [hji26] at H; exact H) | (simp only [hji26] at H ⊢; exact H)
                  have hji26w : (IntKind.i64.wrap (a0_5 - 1)) = ji26 := (i64_w _).trans hji26
                  by_cases c27 : 0 ≤ (ji26)
                  · rw [if_pos c27] at H
                    have c27b0 := eq_true c27
                    have c27b1 : decide (0 ≤ (ji26)) = true := decide_eq_true c27
                    clear c27
                    by_cases c28 : (ji26) ≤ a0_5
                    · rw [if_pos c28] at H
                      have c28b0 := eq_true c28
                      have c28b1 : decide ((ji26) ≤ a0_5) = true := decide_eq_true c28
                      clear c28
                      by_cases c29 : a0_5 ≤ 2
                      · rw [if_pos c29] at H
                        have c29b0 := eq_true c29
                        have c29b1 : decide (a0_5 ≤ 2) = true := decide_eq_true c29
                        clear c29
                        by_cases c30 : x7_4.size + ((⟨#[101, 69]⟩ : ByteArray).extract ((ji26) : Int).toNat (a0_5 : Int).toNat).size ≤ 9223372036854775807
                        · rw [if_pos c30] at H
                          have c30b0 := eq_true c30
                          have c30b1 : decide (x7_4.size + ((⟨#[101, 69]⟩ : ByteArray).extract ((ji26) : Int).toNat (a0_5 : Int).toNat).size ≤ 9223372036854775807) = true := decide_eq_true c30
                          try have c30b2 : (9223372036854775807 < x7_4.size + ((⟨#[101, 69]⟩ : ByteArray).extract ((ji26) : Int).toNat (a0_5 : Int).toNat).size) = False := eq_false (Nat.not_lt.2 c30)
                          (try (have c30b4 : (9223372036854775807 < x7_4.size + ((a0_5 : Int).toNat - ((ji26) : Int).toNat)) = False := eq_false (by have g_ : a0_5 ≤ 2 := of_decide_eq_true (by first | (with_reducible assumption) | assumption); have z_ : (⟨#[101, 69]⟩ : ByteArray).size = 2 := rfl; have h_ := of_eq_false c30b2; simp only [ByteArray.size_append, ByteArray.size_extract, z_] at h_; omega)))
                          replace H := Option.bind_eq_some_iff.mp H
                          obtain ⟨t302, A310, H⟩ := H
                          replace H : (if (x7_4 ++ ((⟨#[101, 69]⟩ : ByteArray).extract ((ji26) : Int).toNat (a0_5 : Int).toNat)).size + t302.size ≤ 9223372036854775807 then ((abacuslaw08_number.f kj17 a0_7).bind fun t303 => (if ((x7_4 ++ ((⟨#[101, 69]⟩ : ByteArray).extract ((ji26) : Int).toNat (a0_5 : Int).toNat)) ++ t302).size + t303.size ≤ 9223372036854775807 then (if a0_7 > 1000000000000000 then (if a0_6 = 2 then ((abacuslaw08_figures.f kj17 l0_2).bind fun t304 => (if t304.size + x6_4.size ≤ 9223372036854775807 then (some (((x7_4 ++ ((⟨#[101, 69]⟩ : ByteArray).extract ((ji26) : Int).toNat (a0_5 : Int).toNat)) ++ t302) ++ t303, t304 ++ x6_4, wrap64 ((-1000000000000000) - (x6_4.size : Int)), true)) else (none))) else ((abacuslaw08_figures.f kj17 l0_2).bind fun t305 => (if t305.size + x6_4.size ≤ 9223372036854775807 then (some (((x7_4 ++ ((⟨#[101, 69]⟩ : ByteArray).extract ((ji26) : Int).toNat (a0_5 : Int).toNat)) ++ t302) ++ t303, t305 ++ x6_4, wrap64 (1000000000000000 - (x6_4.size : Int)), true)) else (none)))) else (if a0_6 = 2 then ((abacuslaw08_figures.f kj17 l0_2).bind fun t306 => (if t306.size + x6_4.size ≤ 9223372036854775807 then (some (((x7_4 ++ ((⟨#[101, 69]⟩ : ByteArray).extract ((ji26) : Int).toNat (a0_5 : Int).toNat)) ++ t302) ++ t303, t306 ++ x6_4, wrap64 ((wrap64 (-a0_7)) - (x6_4.size : Int)), true)) else (none))) else ((abacuslaw08_figures.f kj17 l0_2).bind fun t307 => (if t307.size + x6_4.size ≤ 9223372036854775807 then (some (((x7_4 ++ ((⟨#[101, 69]⟩ : ByteArray).extract ((ji26) : Int).toNat (a0_5 : Int).toNat)) ++ t302) ++ t303, t307 ++ x6_4, wrap64 (a0_7 - (x6_4.size : Int)), true)) else (none))))) else (none))) else (none)) = some (r1, r2, r3, r4) := H
                          have A31 := Aside0.mk A310
                          clear A310
                          by_cases c32 : (x7_4 ++ ((⟨#[101, 69]⟩ : ByteArray).extract ((ji26) : Int).toNat (a0_5 : Int).toNat)).size + t302.size ≤ 9223372036854775807
                          · rw [if_pos c32] at H
                            have c32b0 := eq_true c32
                            have c32b1 : decide ((x7_4 ++ ((⟨#[101, 69]⟩ : ByteArray).extract ((ji26) : Int).toNat (a0_5 : Int).toNat)).size + t302.size ≤ 9223372036854775807) = true := decide_eq_true c32
                            try have c32b2 : (9223372036854775807 < (x7_4 ++ ((⟨#[101, 69]⟩ : ByteArray).extract ((ji26) : Int).toNat (a0_5 : Int).toNat)).size + t302.size) = False := eq_false (Nat.not_lt.2 c32)
                            (try (have c32b4 : (9223372036854775807 < x7_4.size + ((a0_5 : Int).toNat - ((ji26) : Int).toNat) + t302.size) = False := eq_false (by have g_ : a0_5 ≤ 2 := of_decide_eq_true (by first | (with_reducible assumption) | assumption); have z_ : (⟨#[101, 69]⟩ : ByteArray).size = 2 := rfl; have h_ := of_eq_false c32b2; simp only [ByteArray.size_append, ByteArray.size_extract, z_] at h_; omega)))
                            (try (have c32b3 : (9223372036854775807 < x7_4.size + ((⟨#[101, 69]⟩ : ByteArray).extract ((ji26) : Int).toNat (a0_5 : Int).toNat).size + t302.size) = False := by have h_ := c32b2; simp only [ByteArray.size_append] at h_; exact h_))
                            replace H := Option.bind_eq_some_iff.mp H
                            obtain ⟨t303, A330, H⟩ := H
                            replace H : (if ((x7_4 ++ ((⟨#[101, 69]⟩ : ByteArray).extract ((ji26) : Int).toNat (a0_5 : Int).toNat)) ++ t302).size + t303.size ≤ 9223372036854775807 then (if a0_7 > 1000000000000000 then (if a0_6 = 2 then ((abacuslaw08_figures.f kj17 l0_2).bind fun t304 => (if t304.size + x6_4.size ≤ 9223372036854775807 then (some (((x7_4 ++ ((⟨#[101, 69]⟩ : ByteArray).extract ((ji26) : Int).toNat (a0_5 : Int).toNat)) ++ t302) ++ t303, t304 ++ x6_4, wrap64 ((-1000000000000000) - (x6_4.size : Int)), true)) else (none))) else ((abacuslaw08_figures.f kj17 l0_2).bind fun t305 => (if t305.size + x6_4.size ≤ 9223372036854775807 then (some (((x7_4 ++ ((⟨#[101, 69]⟩ : ByteArray).extract ((ji26) : Int).toNat (a0_5 : Int).toNat)) ++ t302) ++ t303, t305 ++ x6_4, wrap64 (1000000000000000 - (x6_4.size : Int)), true)) else (none)))) else (if a0_6 = 2 then ((abacuslaw08_figures.f kj17 l0_2).bind fun t306 => (if t306.size + x6_4.size ≤ 9223372036854775807 then (some (((x7_4 ++ ((⟨#[101, 69]⟩ : ByteArray).extract ((ji26) : Int).toNat (a0_5 : Int).toNat)) ++ t302) ++ t303, t306 ++ x6_4, wrap64 ((wrap64 (-a0_7)) - (x6_4.size : Int)), true)) else (none))) else ((abacuslaw08_figures.f kj17 l0_2).bind fun t307 => (if t307.size + x6_4.size ≤ 9223372036854775807 then (some (((x7_4 ++ ((⟨#[101, 69]⟩ : ByteArray).extract ((ji26) : Int).toNat (a0_5 : Int).toNat)) ++ t302) ++ t303, t307 ++ x6_4, wrap64 (a0_7 - (x6_4.size : Int)), true)) else (none))))) else (none)) = some (r1, r2, r3, r4) := H
                            have A33 := Aside0.mk A330
                            clear A330
                            by_cases c34 : ((x7_4 ++ ((⟨#[101, 69]⟩ : ByteArray).extract ((ji26) : Int).toNat (a0_5 : Int).toNat)) ++ t302).size + t303.size ≤ 9223372036854775807
                            · rw [if_pos c34] at H
                              have c34b0 := eq_true c34
                              have c34b1 : decide (((x7_4 ++ ((⟨#[101, 69]⟩ : ByteArray).extract ((ji26) : Int).toNat (a0_5 : Int).toNat)) ++ t302).size + t303.size ≤ 9223372036854775807) = true := decide_eq_true c34
                              try have c34b2 : (9223372036854775807 < ((x7_4 ++ ((⟨#[101, 69]⟩ : ByteArray).extract ((ji26) : Int).toNat (a0_5 : Int).toNat)) ++ t302).size + t303.size) = False := eq_false (Nat.not_lt.2 c34)
                              (try (have c34b4 : (9223372036854775807 < x7_4.size + ((a0_5 : Int).toNat - ((ji26) : Int).toNat) + t302.size + t303.size) = False := eq_false (by have g_ : a0_5 ≤ 2 := of_decide_eq_true (by first | (with_reducible assumption) | assumption); have z_ : (⟨#[101, 69]⟩ : ByteArray).size = 2 := rfl; have h_ := of_eq_false c34b2; simp only [ByteArray.size_append, ByteArray.size_extract, z_] at h_; omega)))
                              (try (have c34b3 : (9223372036854775807 < x7_4.size + ((⟨#[101, 69]⟩ : ByteArray).extract ((ji26) : Int).toNat (a0_5 : Int).toNat).size + t302.size + t303.size) = False := by have h_ := c34b2; simp only [ByteArray.size_append] at h_; exact h_))
                              by_cases c35 : a0_7 > 1000000000000000
                              · rw [if_pos c35] at H
                                have c35b0 : decide (1000000000000000 < a0_7) = true := decide_eq_true c35
                                clear c35
                                by_cases c36 : a0_6 = 2
                                · rw [if_pos c36] at H
                                  have c36b0 : (a0_6 == 2) = true := beq_iff_eq.mpr c36
                                  have c36b1 : (a0_6 != 2) = false := bne_eq_false_iff_eq.mpr c36
                                  clear c36
                                  replace H := Option.bind_eq_some_iff.mp H
                                  obtain ⟨t304, A370, H⟩ := H
                                  replace H : (if t304.size + x6_4.size ≤ 9223372036854775807 then (some (((x7_4 ++ ((⟨#[101, 69]⟩ : ByteArray).extract ((ji26) : Int).toNat (a0_5 : Int).toNat)) ++ t302) ++ t303, t304 ++ x6_4, wrap64 ((-1000000000000000) - (x6_4.size : Int)), true)) else (none)) = some (r1, r2, r3, r4) := H
                                  have A37 := Aside0.mk A370
                                  clear A370
                                  by_cases c38 : t304.size + x6_4.size ≤ 9223372036854775807
                                  · rw [if_pos c38] at H
                                    have c38b0 := eq_true c38
                                    have c38b1 : decide (t304.size + x6_4.size ≤ 9223372036854775807) = true := decide_eq_true c38
                                    try have c38b2 : (9223372036854775807 < t304.size + x6_4.size) = False := eq_false (Nat.not_lt.2 c38)
                                    simp only [Option.some.injEq, Prod.mk.injEq] at H
                                    obtain ⟨rfl, rfl, rfl, rfl⟩ := H
                                    have hcz39_0 : wc.cell? ⟨gb298, 0, none⟩ = some (.int .i64 a0_0) := (blk_cell BK298.out 0).trans rfl
                                    have hcz39_1 : wc.cell? ⟨gb298, 1, none⟩ = some (.int .i64 a0_1) := (blk_cell BK298.out 1).trans rfl
                                    have hcz39_2 : wc.cell? ⟨gb298, 2, none⟩ = some (.slice A0_2 l0_2.length c0_2) := (blk_cell BK298.out 2).trans rfl
                                    have hcz39_3 : wc.cell? ⟨gb298, 3, none⟩ = some (.bool a0_3) := (blk_cell BK298.out 3).trans rfl
                                    have hcz39_4 : wc.cell? ⟨gb298, 4, none⟩ = some (.slice A0_4 l0_4.length c0_4) := (blk_cell BK298.out 4).trans rfl
                                    have hcz39_5 : wc.cell? ⟨gb298, 5, none⟩ = some (.int .i64 a0_5) := (blk_cell BK298.out 5).trans rfl
                                    have hcz39_6 : wc.cell? ⟨gb298, 6, none⟩ = some (.int .i64 a0_6) := (blk_cell BK298.out 6).trans rfl
                                    have hcz39_7 : wc.cell? ⟨gb298, 7, none⟩ = some (.int .i64 a0_7) := (blk_cell BK298.out 7).trans rfl
                                    have hcz39_8 : wc.cell? ⟨gb298, 8, none⟩ = some (.string a0_8) := (blk_cell BK298.out 8).trans rfl
                                    have hfz39_0 := blk_frozen BK298.out 0
                                    have hfz39_1 := blk_frozen BK298.out 1
                                    have hfz39_2 := blk_frozen BK298.out 2
                                    have hfz39_3 := blk_frozen BK298.out 3
                                    have hfz39_4 := blk_frozen BK298.out 4
                                    have hfz39_5 := blk_frozen BK298.out 5
                                    have hfz39_6 := blk_frozen BK298.out 6
                                    have hfz39_7 := blk_frozen BK298.out 7
                                    have hfz39_8 := blk_frozen BK298.out 8
                                    try go_wp2
                                    have n0_ := Aside0.mk (blk_drew BK298.out)
                                    have n1_ := Aside0.mk (below_drew1 HB.out)
                                    clear BK298
                                    clear HB
                                    have BK298 := n0_
                                    have HB := n1_
                                    clear n0_ n1_
                                    refine start_ (n := 17) (S := fun w' => w'.cell? ⟨gb298, 0, none⟩ = some (.int .i64 a0_0) ∧ w'.cell? ⟨gb298, 1, none⟩ = some (.int .i64 a0_1) ∧ w'.cell? ⟨gb298, 2, none⟩ = some (.slice A0_2 l0_2.length c0_2) ∧ w'.cell? ⟨gb298, 3, none⟩ = some (.bool a0_3) ∧ w'.cell? ⟨gb298, 4, none⟩ = some (.slice A0_4 l0_4.length c0_4) ∧ w'.cell? ⟨gb298, 5, none⟩ = some (.int .i64 a0_5) ∧ w'.cell? ⟨gb298, 6, none⟩ = some (.int .i64 a0_6) ∧ w'.cell? ⟨gb298, 7, none⟩ = some (.int .i64 a0_7) ∧ w'.cell? ⟨gb298, 8, none⟩ = some (.string a0_8)) (ds := []) #[false, false, false, false, false, false, false, false, false, false, false, false, false, false, false, false, false] (by kernel_rfl) rfl rfl ⟨(blk_cell BK298.out 0).trans rfl, (blk_cell BK298.out 1).trans rfl, (blk_cell BK298.out 2).trans rfl, (blk_cell BK298.out 3).trans rfl, (blk_cell BK298.out 4).trans rfl, (blk_cell BK298.out 5).trans rfl, (blk_cell BK298.out 6).trans rfl, (blk_cell BK298.out 7).trans rfl, (blk_cell BK298.out 8).trans rfl⟩ (fun hHeld => ?_); refine with_tabW abacuslaw08_built.tab12 abacuslaw08_built.bits12 (fun HT_ HW_ => ?_)
                                    generalize wc.drew = w40 at BK298 HB hHeld ⊢
                                    refine pure_ (i := 0) (N := some 43) (v := ?_) (a' := ?_) #[true, false, false, false, false, false, false, false, false, false, false, false, false, false, false, false, false] rfl rfl (any_of HT_.out (by kernel_rfl)) (fun _ _ _ h => h) (Or.inl ⟨by rfl, ?_⟩) ?_ ?_
                                    rotate_left
                                    · intro w'
                                      go_simp
                                      with_reducible rfl
                                    rotate_left
                                    · simp only [Act.put, List.setIfInBounds_toArray, List.set_cons_zero, List.set_cons_succ, i64_w, i32_w]
                                      rfl
                                    refine pure_ (i := 1) (N := some 44) (v := ?_) (a' := ?_) #[true, true, false, false, false, false, false, false, false, false, false, false, false, false, false, false, false] rfl rfl (any_of HT_.out (by kernel_rfl)) (fun _ _ _ h => h) (Or.inl ⟨by rfl, ?_⟩) ?_ ?_
                                    rotate_left
                                    · intro w'
                                      go_simp
                                      with_reducible rfl
                                    rotate_left
                                    · simp only [Act.put, List.setIfInBounds_toArray, List.set_cons_zero, List.set_cons_succ, i64_w, i32_w]
                                      rfl
                                    refine pure_ (i := 4) (N := some 47) (v := ?_) (a' := ?_) #[true, true, false, false, true, false, false, false, false, false, false, false, false, false, false, false, false] rfl rfl (any_of HT_.out (by kernel_rfl)) (fun _ _ _ h => h) (Or.inl ⟨by rfl, ?_⟩) ?_ ?_
                                    rotate_left
                                    · intro w'
                                      go_simp
                                      with_reducible rfl
                                    rotate_left
                                    · simp only [Act.put, List.setIfInBounds_toArray, List.set_cons_zero, List.set_cons_succ, i64_w, i32_w]
                                      rfl
                                    refine pure_ (i := 8) (N := some 51) (v := ?_) (a' := ?_) #[true, true, false, false, true, false, false, false, true, false, false, false, false, false, false, false, false] rfl rfl (any_of HT_.out (by kernel_rfl)) (fun _ _ _ h => h) (Or.inl ⟨by rfl, ?_⟩) ?_ ?_
                                    rotate_left
                                    · intro w'
                                      go_simp
                                      with_reducible rfl
                                    rotate_left
                                    · simp only [Act.put, List.setIfInBounds_toArray, List.set_cons_zero, List.set_cons_succ, i64_w, i32_w]
                                      rfl
                                    refine pure_ (i := 12) (N := some 55) (v := ?_) (a' := ?_) #[true, true, false, false, true, false, false, false, true, false, false, false, true, false, false, false, false] rfl rfl (any_of HT_.out (by kernel_rfl)) (fun _ _ _ h => h) (Or.inl ⟨by rfl, ?_⟩) ?_ ?_
                                    rotate_left
                                    · intro w'
                                      go_simp
                                      with_reducible rfl
                                    rotate_left
                                    · simp only [Act.put, List.setIfInBounds_toArray, List.set_cons_zero, List.set_cons_succ, i64_w, i32_w]
                                      rfl
                                    refine take_ (i := 2) (N := some 45) (v := ?_) (a' := ?_) #[true, true, true, false, true, false, false, false, true, false, false, false, true, false, false, false, false] rfl rfl (take_ofW HT_.out HW_.out (by kernel_rfl)) (fun _ _ _ h => h) (Or.inl ⟨by rfl, ?_⟩) hHeld ?_ ?_
                                    rotate_left
                                    · rintro w' ⟨s0, s1, s2, s3, s4, s5, s6, s7, s8⟩
                                      go_simp
                                      with_reducible rfl
                                    rotate_left
                                    · simp only [Act.put, List.setIfInBounds_toArray, List.set_cons_zero, List.set_cons_succ, i64_w, i32_w]
                                      rfl
                                    refine pure_ (i := 3) (N := some 46) (v := ?_) (a' := ?_) #[true, true, true, true, true, false, false, false, true, false, false, false, true, false, false, false, false] rfl rfl (any_of HT_.out (by kernel_rfl)) (fun _ _ _ h => h) (Or.inl ⟨by rfl, ?_⟩) ?_ ?_
                                    rotate_left
                                    · intro w'
                                      go_simp
                                      with_reducible rfl
                                    rotate_left
                                    · simp only [Act.put, List.setIfInBounds_toArray, List.set_cons_zero, List.set_cons_succ, i64_w, i32_w]
                                      rfl
                                    refine take_ (i := 5) (N := some 48) (v := ?_) (a' := ?_) #[true, true, true, true, true, true, false, false, true, false, false, false, true, false, false, false, false] rfl rfl (take_ofW HT_.out HW_.out (by kernel_rfl)) (fun _ _ _ h => h) (Or.inl ⟨by rfl, ?_⟩) hHeld ?_ ?_
                                    rotate_left
                                    · rintro w' ⟨s0, s1, s2, s3, s4, s5, s6, s7, s8⟩
                                      go_simp
                                      with_reducible rfl
                                    rotate_left
                                    · simp only [Act.put, List.setIfInBounds_toArray, List.set_cons_zero, List.set_cons_succ, i64_w, i32_w]
                                      rfl
                                    refine pure_ (i := 6) (N := some 49) (v := ?_) (a' := ?_) #[true, true, true, true, true, true, true, false, true, false, false, false, true, false, false, false, false] rfl rfl (any_of HT_.out (by kernel_rfl)) (fun _ _ _ h => h) (Or.inl ⟨by rfl, ?_⟩) ?_ ?_
                                    rotate_left
                                    · intro w'
                                      go_simp
                                      with_reducible rfl
                                    rotate_left
                                    · simp only [Act.put, List.setIfInBounds_toArray, List.set_cons_zero, List.set_cons_succ, i64_w, i32_w]
                                      rfl
                                    refine pure_ (i := 7) (N := some 50) (v := ?_) (a' := ?_) #[true, true, true, true, true, true, true, true, true, false, false, false, true, false, false, false, false] rfl rfl (any_of HT_.out (by kernel_rfl)) (fun _ _ _ h => h) (Or.inl ⟨by rfl, ?_⟩) ?_ ?_
                                    rotate_left
                                    · intro w'
                                      go_simp
                                      with_reducible rfl
                                    rotate_left
                                    · simp only [Act.put, List.setIfInBounds_toArray, List.set_cons_zero, List.set_cons_succ, i64_w, i32_w]
                                      rfl
                                    refine take_ (i := 9) (N := some 52) (v := ?_) (a' := ?_) #[true, true, true, true, true, true, true, true, true, true, false, false, true, false, false, false, false] rfl rfl (take_ofW HT_.out HW_.out (by kernel_rfl)) (fun _ _ _ h => h) (Or.inl ⟨by rfl, ?_⟩) hHeld ?_ ?_
                                    rotate_left
                                    · rintro w' ⟨s0, s1, s2, s3, s4, s5, s6, s7, s8⟩
                                      go_simp
                                      with_reducible rfl
                                    rotate_left
                                    · simp only [Act.put, List.setIfInBounds_toArray, List.set_cons_zero, List.set_cons_succ, i64_w, i32_w]
                                      rfl
                                    refine take_ (i := 13) (N := some 56) (v := ?_) (a' := ?_) #[true, true, true, true, true, true, true, true, true, true, false, false, true, true, false, false, false] rfl rfl (take_ofW HT_.out HW_.out (by kernel_rfl)) (fun _ _ _ h => h) (Or.inl ⟨by rfl, ?_⟩) hHeld ?_ ?_
                                    rotate_left
                                    · rintro w' ⟨s0, s1, s2, s3, s4, s5, s6, s7, s8⟩
                                      go_simp
                                      with_reducible rfl
                                    rotate_left
                                    · simp only [Act.put, List.setIfInBounds_toArray, List.set_cons_zero, List.set_cons_succ, i64_w, i32_w]
                                      rfl
                                    refine one_ (i := 10) (N := some 53) #[true, true, true, true, true, true, true, true, true, true, true, false, true, true, false, false, false] rfl rfl (one_of HT_.out (by kernel_rfl)) (by decide) (fun K hK => ?_)
                                    refine goes_ Tryd.func33 (by kernel_rfl) rfl #[.int .i64 a0_6] (by rfl) rfl rfl (by (try simp only [List.map_toArray, List.map_cons, List.map_nil]); first | done | rfl | (simp only [List.length_drop, List.length_take]; rfl)) ?_
                                    with_reducible refine (abacuslaw08_sign.calls a0_6 t302 _ A31.out).mono ?_
                                    rintro e w' ⟨rfl, ⟨nd, rfl⟩⟩
                                    refine ⟨_, rfl, ?_⟩
                                    refine hK.out _ _ ⟨(blk_cell BK298.out 0).trans rfl, (blk_cell BK298.out 1).trans rfl, (blk_cell BK298.out 2).trans rfl, (blk_cell BK298.out 3).trans rfl, (blk_cell BK298.out 4).trans rfl, (blk_cell BK298.out 5).trans rfl, (blk_cell BK298.out 6).trans rfl, (blk_cell BK298.out 7).trans rfl, (blk_cell BK298.out 8).trans rfl⟩ (fun hHeld => ?_)
                                    clear hK K
                                    refine norm_ (a' := ?_) ?_ ?_
                                    rotate_left
                                    · show Act.put _ (some 53) _ = _
                                      simp only [Act.put, List.setIfInBounds_toArray, List.set_cons_zero, List.set_cons_succ, i64_w, i32_w]
                                      rfl
                                    refine pure_ (i := 11) (N := some 54) (v := ?_) (a' := ?_) #[true, true, true, true, true, true, true, true, true, true, true, true, true, true, false, false, false] rfl rfl (any_of HT_.out (by kernel_rfl)) (fun _ _ _ h => h) (Or.inl ⟨by rfl, ?_⟩) ?_ ?_
                                    rotate_left
                                    · intro w'
                                      go_simp
                                      with_reducible rfl
                                    rotate_left
                                    · simp only [Act.put, List.setIfInBounds_toArray, List.set_cons_zero, List.set_cons_succ, i64_w, i32_w]
                                      rfl
                                    refine one_ (i := 14) (N := some 57) #[true, true, true, true, true, true, true, true, true, true, true, true, true, true, true, false, false] rfl rfl (one_of HT_.out (by kernel_rfl)) (by decide) (fun K hK => ?_)
                                    refine goes_ Tryd.func35 (by kernel_rfl) rfl #[.int .i64 a0_7] (by rfl) rfl rfl (by (try simp only [List.map_toArray, List.map_cons, List.map_nil]); first | done | rfl | (simp only [List.length_drop, List.length_take]; rfl)) ?_
                                    with_reducible refine (abacuslaw08_number.calls kj17 a0_7 t303 _ A33.out).mono ?_
                                    rintro e w41 ⟨rfl, hb⟩
                                    refine ⟨_, rfl, ?_⟩
                                    have n0_ := Aside0.mk (blk_below (g := gb298) (o := .cells #[.int .i64 a0_0, .int .i64 a0_1, .slice A0_2 l0_2.length c0_2, .bool a0_3, .slice A0_4 l0_4.length c0_4, .int .i64 a0_5, .int .i64 a0_6, .int .i64 a0_7, .string a0_8] 44 (0, 0)) (by (with_reducible repeat (first | refine blk_drewN ?_ _ | refine blk_drew ?_ | refine blk_alloc ?_ _)); exact BK298.out) hb)
                                    have n1_ := Aside0.mk (below_step (by repeat (first | (with_reducible first | exact HB.out | apply below_alloc | apply pw_below_drewN | apply below_drew1 | refine below_set ?_ GE298.out) | exact HB.out)) hb)
                                    clear BK298
                                    clear HB
                                    have BK298 := n0_
                                    have HB := n1_
                                    clear n0_ n1_
                                    (try clear hb)
                                    (try clear hb2)
                                    (try clear hk)
                                    (try clear hi)
                                    refine hK.out _ _ ⟨(blk_cell BK298.out 0).trans rfl, (blk_cell BK298.out 1).trans rfl, (blk_cell BK298.out 2).trans rfl, (blk_cell BK298.out 3).trans rfl, (blk_cell BK298.out 4).trans rfl, (blk_cell BK298.out 5).trans rfl, (blk_cell BK298.out 6).trans rfl, (blk_cell BK298.out 7).trans rfl, (blk_cell BK298.out 8).trans rfl⟩ (fun hHeld => ?_)
                                    clear hK K
                                    refine norm_ (a' := ?_) ?_ ?_
                                    rotate_left
                                    · show Act.put _ (some 57) _ = _
                                      simp only [Act.put, List.setIfInBounds_toArray, List.set_cons_zero, List.set_cons_succ, i64_w, i32_w]
                                      rfl
                                    refine pure_ (i := 15) (N := some 58) (v := ?_) (a' := ?_) #[true, true, true, true, true, true, true, true, true, true, true, true, true, true, true, true, false] rfl rfl (any_of HT_.out (by kernel_rfl)) (fun _ _ _ h => h) (Or.inl ⟨by rfl, ?_⟩) ?_ ?_
                                    rotate_left
                                    · intro w'
                                      go_simp
                                      with_reducible rfl
                                    rotate_left
                                    · simp only [Act.put, List.setIfInBounds_toArray, List.set_cons_zero, List.set_cons_succ, i64_w, i32_w]
                                      rfl
                                    refine pure_ (i := 16) (N := some 7) (v := ?_) (a' := ?_) #[true, true, true, true, true, true, true, true, true, true, true, true, true, true, true, true, true] rfl rfl (any_of HT_.out (by kernel_rfl)) (fun _ _ _ h => h) (Or.inl ⟨by rfl, ?_⟩) ?_ ?_
                                    rotate_left
                                    · intro w'
                                      go_simp
                                      with_reducible rfl
                                    rotate_left
                                    · simp only [Act.put, List.setIfInBounds_toArray, List.set_cons_zero, List.set_cons_succ, i64_w, i32_w]
                                      rfl
                                    refine done_ (done_of HT_.out (by kernel_rfl)) ?_
                                    have hcz42_0 : w41.cell? ⟨gb298, 0, none⟩ = some (.int .i64 a0_0) := (blk_cell BK298.out 0).trans rfl
                                    have hcz42_1 : w41.cell? ⟨gb298, 1, none⟩ = some (.int .i64 a0_1) := (blk_cell BK298.out 1).trans rfl
                                    have hcz42_2 : w41.cell? ⟨gb298, 2, none⟩ = some (.slice A0_2 l0_2.length c0_2) := (blk_cell BK298.out 2).trans rfl
                                    have hcz42_3 : w41.cell? ⟨gb298, 3, none⟩ = some (.bool a0_3) := (blk_cell BK298.out 3).trans rfl
                                    have hcz42_4 : w41.cell? ⟨gb298, 4, none⟩ = some (.slice A0_4 l0_4.length c0_4) := (blk_cell BK298.out 4).trans rfl
                                    have hcz42_5 : w41.cell? ⟨gb298, 5, none⟩ = some (.int .i64 a0_5) := (blk_cell BK298.out 5).trans rfl
                                    have hcz42_6 : w41.cell? ⟨gb298, 6, none⟩ = some (.int .i64 a0_6) := (blk_cell BK298.out 6).trans rfl
                                    have hcz42_7 : w41.cell? ⟨gb298, 7, none⟩ = some (.int .i64 a0_7) := (blk_cell BK298.out 7).trans rfl
                                    have hcz42_8 : w41.cell? ⟨gb298, 8, none⟩ = some (.string a0_8) := (blk_cell BK298.out 8).trans rfl
                                    have hfz42_0 := blk_frozen BK298.out 0
                                    have hfz42_1 := blk_frozen BK298.out 1
                                    have hfz42_2 := blk_frozen BK298.out 2
                                    have hfz42_3 := blk_frozen BK298.out 3
                                    have hfz42_4 := blk_frozen BK298.out 4
                                    have hfz42_5 := blk_frozen BK298.out 5
                                    have hfz42_6 := blk_frozen BK298.out 6
                                    have hfz42_7 := blk_frozen BK298.out 7
                                    have hfz42_8 := blk_frozen BK298.out 8
                                    try go_wp2_with (first | ((with_reducible refine gate_callee (f := 34) rfl ?_); refine goesL_ (some 71) rfl rfl Tryd.func34 (by kernel_rfl) rfl #[.slice A0_2 l0_2.length c0_2] rfl (by (try simp only [List.map_toArray, List.map_cons, List.map_nil]); first | done | rfl | (simp only [List.length_drop, List.length_take]; rfl)) ?_; (with_reducible refine (abacuslaw08_figures.calls kj17 _ _ l0_2 t304 _ ?side1 ?side2 A37.out).mono ?_); (case side1 => repeat (first | exact (Kd.C_below HR0_2.out HB.out) | (with_reducible refine Kd.C_alloc ?_ _) | (with_reducible refine Kd.C_drewN ?_ _) | (with_reducible refine Kd.C_drew ?_))); (case side2 => exact HC0_2.out); rintro e w43 ⟨rfl, hb⟩; refine ⟨_, rfl, ?_⟩; have n0_ := Aside0.mk (blk_below (g := gb298) (o := .cells #[.int .i64 a0_0, .int .i64 a0_1, .slice A0_2 l0_2.length c0_2, .bool a0_3, .slice A0_4 l0_4.length c0_4, .int .i64 a0_5, .int .i64 a0_6, .int .i64 a0_7, .string a0_8] 44 (0, 0)) (by (with_reducible repeat (first | refine blk_drewN ?_ _ | refine blk_drew ?_ | refine blk_alloc ?_ _)); exact BK298.out) hb); have n1_ := Aside0.mk (below_step (by repeat (first | (with_reducible first | exact HB.out | apply below_alloc | apply pw_below_drewN | apply below_drew1 | refine below_set ?_ GE298.out) | exact HB.out)) hb); clear BK298; clear HB; have BK298 := n0_; have HB := n1_; clear n0_ n1_; (try clear hb); (try clear hb2); (try clear hk); (try clear hi)))
                                    refine bodyPost_ret (results_list (rs := [.tmp 2, .tmp 3, .tmp 4, .tmp 5]) rfl (by simp) (.tmp (.tmp (.tmp (.tmp .nil))))) rfl ?_
                                    exact ⟨by first | rfl | (simp [errW_none, errW_some] <;> rfl) | (simp only [← hji26]; first | rfl | (simp [errW_none, errW_some] <;> rfl)) | (simp [*, errW_none, errW_some] <;> rfl), by repeat (first | (with_reducible first | exact HB.out | apply below_alloc | apply pw_below_drewN | apply below_drew1 | refine below_set ?_ GE298.out) | exact HB.out)⟩
                                  · rw [if_neg c38] at H
                                    exact absurd H (by simp)
                                · rw [if_neg c36] at H
                                  have c36b0 : (a0_6 == 2) = false := beq_eq_false_iff_ne.mpr c36
                                  have c36b1 : (a0_6 != 2) = true := bne_iff_ne.mpr c36
                                  replace H := Option.bind_eq_some_iff.mp H
                                  obtain ⟨t305, A440, H⟩ := H
                                  replace H : (if t305.size + x6_4.size ≤ 9223372036854775807 then (some (((x7_4 ++ ((⟨#[101, 69]⟩ : ByteArray).extract ((ji26) : Int).toNat (a0_5 : Int).toNat)) ++ t302) ++ t303, t305 ++ x6_4, wrap64 (1000000000000000 - (x6_4.size : Int)), true)) else (none)) = some (r1, r2, r3, r4) := H
                                  have A44 := Aside0.mk A440
                                  clear A440
                                  by_cases c45 : t305.size + x6_4.size ≤ 9223372036854775807
                                  · rw [if_pos c45] at H
                                    have c45b0 := eq_true c45
                                    have c45b1 : decide (t305.size + x6_4.size ≤ 9223372036854775807) = true := decide_eq_true c45
                                    try have c45b2 : (9223372036854775807 < t305.size + x6_4.size) = False := eq_false (Nat.not_lt.2 c45)
                                    simp only [Option.some.injEq, Prod.mk.injEq] at H
                                    obtain ⟨rfl, rfl, rfl, rfl⟩ := H
                                    have hcz46_0 : wc.cell? ⟨gb298, 0, none⟩ = some (.int .i64 a0_0) := (blk_cell BK298.out 0).trans rfl
                                    have hcz46_1 : wc.cell? ⟨gb298, 1, none⟩ = some (.int .i64 a0_1) := (blk_cell BK298.out 1).trans rfl
                                    have hcz46_2 : wc.cell? ⟨gb298, 2, none⟩ = some (.slice A0_2 l0_2.length c0_2) := (blk_cell BK298.out 2).trans rfl
                                    have hcz46_3 : wc.cell? ⟨gb298, 3, none⟩ = some (.bool a0_3) := (blk_cell BK298.out 3).trans rfl
                                    have hcz46_4 : wc.cell? ⟨gb298, 4, none⟩ = some (.slice A0_4 l0_4.length c0_4) := (blk_cell BK298.out 4).trans rfl
                                    have hcz46_5 : wc.cell? ⟨gb298, 5, none⟩ = some (.int .i64 a0_5) := (blk_cell BK298.out 5).trans rfl
                                    have hcz46_6 : wc.cell? ⟨gb298, 6, none⟩ = some (.int .i64 a0_6) := (blk_cell BK298.out 6).trans rfl
                                    have hcz46_7 : wc.cell? ⟨gb298, 7, none⟩ = some (.int .i64 a0_7) := (blk_cell BK298.out 7).trans rfl
                                    have hcz46_8 : wc.cell? ⟨gb298, 8, none⟩ = some (.string a0_8) := (blk_cell BK298.out 8).trans rfl
                                    have hfz46_0 := blk_frozen BK298.out 0
                                    have hfz46_1 := blk_frozen BK298.out 1
                                    have hfz46_2 := blk_frozen BK298.out 2
                                    have hfz46_3 := blk_frozen BK298.out 3
                                    have hfz46_4 := blk_frozen BK298.out 4
                                    have hfz46_5 := blk_frozen BK298.out 5
                                    have hfz46_6 := blk_frozen BK298.out 6
                                    have hfz46_7 := blk_frozen BK298.out 7
                                    have hfz46_8 := blk_frozen BK298.out 8
                                    try go_wp2
                                    have n0_ := Aside0.mk (blk_drew BK298.out)
                                    have n1_ := Aside0.mk (below_drew1 HB.out)
                                    clear BK298
                                    clear HB
                                    have BK298 := n0_
                                    have HB := n1_
                                    clear n0_ n1_
                                    refine start_ (n := 17) (S := fun w' => w'.cell? ⟨gb298, 0, none⟩ = some (.int .i64 a0_0) ∧ w'.cell? ⟨gb298, 1, none⟩ = some (.int .i64 a0_1) ∧ w'.cell? ⟨gb298, 2, none⟩ = some (.slice A0_2 l0_2.length c0_2) ∧ w'.cell? ⟨gb298, 3, none⟩ = some (.bool a0_3) ∧ w'.cell? ⟨gb298, 4, none⟩ = some (.slice A0_4 l0_4.length c0_4) ∧ w'.cell? ⟨gb298, 5, none⟩ = some (.int .i64 a0_5) ∧ w'.cell? ⟨gb298, 6, none⟩ = some (.int .i64 a0_6) ∧ w'.cell? ⟨gb298, 7, none⟩ = some (.int .i64 a0_7) ∧ w'.cell? ⟨gb298, 8, none⟩ = some (.string a0_8)) (ds := []) #[false, false, false, false, false, false, false, false, false, false, false, false, false, false, false, false, false] (by kernel_rfl) rfl rfl ⟨(blk_cell BK298.out 0).trans rfl, (blk_cell BK298.out 1).trans rfl, (blk_cell BK298.out 2).trans rfl, (blk_cell BK298.out 3).trans rfl, (blk_cell BK298.out 4).trans rfl, (blk_cell BK298.out 5).trans rfl, (blk_cell BK298.out 6).trans rfl, (blk_cell BK298.out 7).trans rfl, (blk_cell BK298.out 8).trans rfl⟩ (fun hHeld => ?_); refine with_tabW abacuslaw08_built.tab12 abacuslaw08_built.bits12 (fun HT_ HW_ => ?_)
                                    generalize wc.drew = w47 at BK298 HB hHeld ⊢
                                    refine pure_ (i := 0) (N := some 43) (v := ?_) (a' := ?_) #[true, false, false, false, false, false, false, false, false, false, false, false, false, false, false, false, false] rfl rfl (any_of HT_.out (by kernel_rfl)) (fun _ _ _ h => h) (Or.inl ⟨by rfl, ?_⟩) ?_ ?_
                                    rotate_left
                                    · intro w'
                                      go_simp
                                      with_reducible rfl
                                    rotate_left
                                    · simp only [Act.put, List.setIfInBounds_toArray, List.set_cons_zero, List.set_cons_succ, i64_w, i32_w]
                                      rfl
                                    refine pure_ (i := 1) (N := some 44) (v := ?_) (a' := ?_) #[true, true, false, false, false, false, false, false, false, false, false, false, false, false, false, false, false] rfl rfl (any_of HT_.out (by kernel_rfl)) (fun _ _ _ h => h) (Or.inl ⟨by rfl, ?_⟩) ?_ ?_
                                    rotate_left
                                    · intro w'
                                      go_simp
                                      with_reducible rfl
                                    rotate_left
                                    · simp only [Act.put, List.setIfInBounds_toArray, List.set_cons_zero, List.set_cons_succ, i64_w, i32_w]
                                      rfl
                                    refine pure_ (i := 4) (N := some 47) (v := ?_) (a' := ?_) #[true, true, false, false, true, false, false, false, false, false, false, false, false, false, false, false, false] rfl rfl (any_of HT_.out (by kernel_rfl)) (fun _ _ _ h => h) (Or.inl ⟨by rfl, ?_⟩) ?_ ?_
                                    rotate_left
                                    · intro w'
                                      go_simp
                                      with_reducible rfl
                                    rotate_left
                                    · simp only [Act.put, List.setIfInBounds_toArray, List.set_cons_zero, List.set_cons_succ, i64_w, i32_w]
                                      rfl
                                    refine pure_ (i := 8) (N := some 51) (v := ?_) (a' := ?_) #[true, true, false, false, true, false, false, false, true, false, false, false, false, false, false, false, false] rfl rfl (any_of HT_.out (by kernel_rfl)) (fun _ _ _ h => h) (Or.inl ⟨by rfl, ?_⟩) ?_ ?_
                                    rotate_left
                                    · intro w'
                                      go_simp
                                      with_reducible rfl
                                    rotate_left
                                    · simp only [Act.put, List.setIfInBounds_toArray, List.set_cons_zero, List.set_cons_succ, i64_w, i32_w]
                                      rfl
                                    refine pure_ (i := 12) (N := some 55) (v := ?_) (a' := ?_) #[true, true, false, false, true, false, false, false, true, false, false, false, true, false, false, false, false] rfl rfl (any_of HT_.out (by kernel_rfl)) (fun _ _ _ h => h) (Or.inl ⟨by rfl, ?_⟩) ?_ ?_
                                    rotate_left
                                    · intro w'
                                      go_simp
                                      with_reducible rfl
                                    rotate_left
                                    · simp only [Act.put, List.setIfInBounds_toArray, List.set_cons_zero, List.set_cons_succ, i64_w, i32_w]
                                      rfl
                                    refine take_ (i := 2) (N := some 45) (v := ?_) (a' := ?_) #[true, true, true, false, true, false, false, false, true, false, false, false, true, false, false, false, false] rfl rfl (take_ofW HT_.out HW_.out (by kernel_rfl)) (fun _ _ _ h => h) (Or.inl ⟨by rfl, ?_⟩) hHeld ?_ ?_
                                    rotate_left
                                    · rintro w' ⟨s0, s1, s2, s3, s4, s5, s6, s7, s8⟩
                                      go_simp
                                      with_reducible rfl
                                    rotate_left
                                    · simp only [Act.put, List.setIfInBounds_toArray, List.set_cons_zero, List.set_cons_succ, i64_w, i32_w]
                                      rfl
                                    refine pure_ (i := 3) (N := some 46) (v := ?_) (a' := ?_) #[true, true, true, true, true, false, false, false, true, false, false, false, true, false, false, false, false] rfl rfl (any_of HT_.out (by kernel_rfl)) (fun _ _ _ h => h) (Or.inl ⟨by rfl, ?_⟩) ?_ ?_
                                    rotate_left
                                    · intro w'
                                      go_simp
                                      with_reducible rfl
                                    rotate_left
                                    · simp only [Act.put, List.setIfInBounds_toArray, List.set_cons_zero, List.set_cons_succ, i64_w, i32_w]
                                      rfl
                                    refine take_ (i := 5) (N := some 48) (v := ?_) (a' := ?_) #[true, true, true, true, true, true, false, false, true, false, false, false, true, false, false, false, false] rfl rfl (take_ofW HT_.out HW_.out (by kernel_rfl)) (fun _ _ _ h => h) (Or.inl ⟨by rfl, ?_⟩) hHeld ?_ ?_
                                    rotate_left
                                    · rintro w' ⟨s0, s1, s2, s3, s4, s5, s6, s7, s8⟩
                                      go_simp
                                      with_reducible rfl
                                    rotate_left
                                    · simp only [Act.put, List.setIfInBounds_toArray, List.set_cons_zero, List.set_cons_succ, i64_w, i32_w]
                                      rfl
                                    refine pure_ (i := 6) (N := some 49) (v := ?_) (a' := ?_) #[true, true, true, true, true, true, true, false, true, false, false, false, true, false, false, false, false] rfl rfl (any_of HT_.out (by kernel_rfl)) (fun _ _ _ h => h) (Or.inl ⟨by rfl, ?_⟩) ?_ ?_
                                    rotate_left
                                    · intro w'
                                      go_simp
                                      with_reducible rfl
                                    rotate_left
                                    · simp only [Act.put, List.setIfInBounds_toArray, List.set_cons_zero, List.set_cons_succ, i64_w, i32_w]
                                      rfl
                                    refine pure_ (i := 7) (N := some 50) (v := ?_) (a' := ?_) #[true, true, true, true, true, true, true, true, true, false, false, false, true, false, false, false, false] rfl rfl (any_of HT_.out (by kernel_rfl)) (fun _ _ _ h => h) (Or.inl ⟨by rfl, ?_⟩) ?_ ?_
                                    rotate_left
                                    · intro w'
                                      go_simp
                                      with_reducible rfl
                                    rotate_left
                                    · simp only [Act.put, List.setIfInBounds_toArray, List.set_cons_zero, List.set_cons_succ, i64_w, i32_w]
                                      rfl
                                    refine take_ (i := 9) (N := some 52) (v := ?_) (a' := ?_) #[true, true, true, true, true, true, true, true, true, true, false, false, true, false, false, false, false] rfl rfl (take_ofW HT_.out HW_.out (by kernel_rfl)) (fun _ _ _ h => h) (Or.inl ⟨by rfl, ?_⟩) hHeld ?_ ?_
                                    rotate_left
                                    · rintro w' ⟨s0, s1, s2, s3, s4, s5, s6, s7, s8⟩
                                      go_simp
                                      with_reducible rfl
                                    rotate_left
                                    · simp only [Act.put, List.setIfInBounds_toArray, List.set_cons_zero, List.set_cons_succ, i64_w, i32_w]
                                      rfl
                                    refine take_ (i := 13) (N := some 56) (v := ?_) (a' := ?_) #[true, true, true, true, true, true, true, true, true, true, false, false, true, true, false, false, false] rfl rfl (take_ofW HT_.out HW_.out (by kernel_rfl)) (fun _ _ _ h => h) (Or.inl ⟨by rfl, ?_⟩) hHeld ?_ ?_
                                    rotate_left
                                    · rintro w' ⟨s0, s1, s2, s3, s4, s5, s6, s7, s8⟩
                                      go_simp
                                      with_reducible rfl
                                    rotate_left
                                    · simp only [Act.put, List.setIfInBounds_toArray, List.set_cons_zero, List.set_cons_succ, i64_w, i32_w]
                                      rfl
                                    refine one_ (i := 10) (N := some 53) #[true, true, true, true, true, true, true, true, true, true, true, false, true, true, false, false, false] rfl rfl (one_of HT_.out (by kernel_rfl)) (by decide) (fun K hK => ?_)
                                    refine goes_ Tryd.func33 (by kernel_rfl) rfl #[.int .i64 a0_6] (by rfl) rfl rfl (by (try simp only [List.map_toArray, List.map_cons, List.map_nil]); first | done | rfl | (simp only [List.length_drop, List.length_take]; rfl)) ?_
                                    with_reducible refine (abacuslaw08_sign.calls a0_6 t302 _ A31.out).mono ?_
                                    rintro e w' ⟨rfl, ⟨nd, rfl⟩⟩
                                    refine ⟨_, rfl, ?_⟩
                                    refine hK.out _ _ ⟨(blk_cell BK298.out 0).trans rfl, (blk_cell BK298.out 1).trans rfl, (blk_cell BK298.out 2).trans rfl, (blk_cell BK298.out 3).trans rfl, (blk_cell BK298.out 4).trans rfl, (blk_cell BK298.out 5).trans rfl, (blk_cell BK298.out 6).trans rfl, (blk_cell BK298.out 7).trans rfl, (blk_cell BK298.out 8).trans rfl⟩ (fun hHeld => ?_)
                                    clear hK K
                                    refine norm_ (a' := ?_) ?_ ?_
                                    rotate_left
                                    · show Act.put _ (some 53) _ = _
                                      simp only [Act.put, List.setIfInBounds_toArray, List.set_cons_zero, List.set_cons_succ, i64_w, i32_w]
                                      rfl
                                    refine pure_ (i := 11) (N := some 54) (v := ?_) (a' := ?_) #[true, true, true, true, true, true, true, true, true, true, true, true, true, true, false, false, false] rfl rfl (any_of HT_.out (by kernel_rfl)) (fun _ _ _ h => h) (Or.inl ⟨by rfl, ?_⟩) ?_ ?_
                                    rotate_left
                                    · intro w'
                                      go_simp
                                      with_reducible rfl
                                    rotate_left
                                    · simp only [Act.put, List.setIfInBounds_toArray, List.set_cons_zero, List.set_cons_succ, i64_w, i32_w]
                                      rfl
                                    refine one_ (i := 14) (N := some 57) #[true, true, true, true, true, true, true, true, true, true, true, true, true, true, true, false, false] rfl rfl (one_of HT_.out (by kernel_rfl)) (by decide) (fun K hK => ?_)
                                    refine goes_ Tryd.func35 (by kernel_rfl) rfl #[.int .i64 a0_7] (by rfl) rfl rfl (by (try simp only [List.map_toArray, List.map_cons, List.map_nil]); first | done | rfl | (simp only [List.length_drop, List.length_take]; rfl)) ?_
                                    with_reducible refine (abacuslaw08_number.calls kj17 a0_7 t303 _ A33.out).mono ?_
                                    rintro e w48 ⟨rfl, hb⟩
                                    refine ⟨_, rfl, ?_⟩
                                    have n0_ := Aside0.mk (blk_below (g := gb298) (o := .cells #[.int .i64 a0_0, .int .i64 a0_1, .slice A0_2 l0_2.length c0_2, .bool a0_3, .slice A0_4 l0_4.length c0_4, .int .i64 a0_5, .int .i64 a0_6, .int .i64 a0_7, .string a0_8] 44 (0, 0)) (by (with_reducible repeat (first | refine blk_drewN ?_ _ | refine blk_drew ?_ | refine blk_alloc ?_ _)); exact BK298.out) hb)
                                    have n1_ := Aside0.mk (below_step (by repeat (first | (with_reducible first | exact HB.out | apply below_alloc | apply pw_below_drewN | apply below_drew1 | refine below_set ?_ GE298.out) | exact HB.out)) hb)
                                    clear BK298
                                    clear HB
                                    have BK298 := n0_
                                    have HB := n1_
                                    clear n0_ n1_
                                    (try clear hb)
                                    (try clear hb2)
                                    (try clear hk)
                                    (try clear hi)
                                    refine hK.out _ _ ⟨(blk_cell BK298.out 0).trans rfl, (blk_cell BK298.out 1).trans rfl, (blk_cell BK298.out 2).trans rfl, (blk_cell BK298.out 3).trans rfl, (blk_cell BK298.out 4).trans rfl, (blk_cell BK298.out 5).trans rfl, (blk_cell BK298.out 6).trans rfl, (blk_cell BK298.out 7).trans rfl, (blk_cell BK298.out 8).trans rfl⟩ (fun hHeld => ?_)
                                    clear hK K
                                    refine norm_ (a' := ?_) ?_ ?_
                                    rotate_left
                                    · show Act.put _ (some 57) _ = _
                                      simp only [Act.put, List.setIfInBounds_toArray, List.set_cons_zero, List.set_cons_succ, i64_w, i32_w]
                                      rfl
                                    refine pure_ (i := 15) (N := some 58) (v := ?_) (a' := ?_) #[true, true, true, true, true, true, true, true, true, true, true, true, true, true, true, true, false] rfl rfl (any_of HT_.out (by kernel_rfl)) (fun _ _ _ h => h) (Or.inl ⟨by rfl, ?_⟩) ?_ ?_
                                    rotate_left
                                    · intro w'
                                      go_simp
                                      with_reducible rfl
                                    rotate_left
                                    · simp only [Act.put, List.setIfInBounds_toArray, List.set_cons_zero, List.set_cons_succ, i64_w, i32_w]
                                      rfl
                                    refine pure_ (i := 16) (N := some 7) (v := ?_) (a' := ?_) #[true, true, true, true, true, true, true, true, true, true, true, true, true, true, true, true, true] rfl rfl (any_of HT_.out (by kernel_rfl)) (fun _ _ _ h => h) (Or.inl ⟨by rfl, ?_⟩) ?_ ?_
                                    rotate_left
                                    · intro w'
                                      go_simp
                                      with_reducible rfl
                                    rotate_left
                                    · simp only [Act.put, List.setIfInBounds_toArray, List.set_cons_zero, List.set_cons_succ, i64_w, i32_w]
                                      rfl
                                    refine done_ (done_of HT_.out (by kernel_rfl)) ?_
                                    have hcz49_0 : w48.cell? ⟨gb298, 0, none⟩ = some (.int .i64 a0_0) := (blk_cell BK298.out 0).trans rfl
                                    have hcz49_1 : w48.cell? ⟨gb298, 1, none⟩ = some (.int .i64 a0_1) := (blk_cell BK298.out 1).trans rfl
                                    have hcz49_2 : w48.cell? ⟨gb298, 2, none⟩ = some (.slice A0_2 l0_2.length c0_2) := (blk_cell BK298.out 2).trans rfl
                                    have hcz49_3 : w48.cell? ⟨gb298, 3, none⟩ = some (.bool a0_3) := (blk_cell BK298.out 3).trans rfl
                                    have hcz49_4 : w48.cell? ⟨gb298, 4, none⟩ = some (.slice A0_4 l0_4.length c0_4) := (blk_cell BK298.out 4).trans rfl
                                    have hcz49_5 : w48.cell? ⟨gb298, 5, none⟩ = some (.int .i64 a0_5) := (blk_cell BK298.out 5).trans rfl
                                    have hcz49_6 : w48.cell? ⟨gb298, 6, none⟩ = some (.int .i64 a0_6) := (blk_cell BK298.out 6).trans rfl
                                    have hcz49_7 : w48.cell? ⟨gb298, 7, none⟩ = some (.int .i64 a0_7) := (blk_cell BK298.out 7).trans rfl
                                    have hcz49_8 : w48.cell? ⟨gb298, 8, none⟩ = some (.string a0_8) := (blk_cell BK298.out 8).trans rfl
                                    have hfz49_0 := blk_frozen BK298.out 0
                                    have hfz49_1 := blk_frozen BK298.out 1
                                    have hfz49_2 := blk_frozen BK298.out 2
                                    have hfz49_3 := blk_frozen BK298.out 3
                                    have hfz49_4 := blk_frozen BK298.out 4
                                    have hfz49_5 := blk_frozen BK298.out 5
                                    have hfz49_6 := blk_frozen BK298.out 6
                                    have hfz49_7 := blk_frozen BK298.out 7
                                    have hfz49_8 := blk_frozen BK298.out 8
                                    try go_wp2_with (first | ((with_reducible refine gate_callee (f := 34) rfl ?_); refine goesL_ (some 71) rfl rfl Tryd.func34 (by kernel_rfl) rfl #[.slice A0_2 l0_2.length c0_2] rfl (by (try simp only [List.map_toArray, List.map_cons, List.map_nil]); first | done | rfl | (simp only [List.length_drop, List.length_take]; rfl)) ?_; (with_reducible refine (abacuslaw08_figures.calls kj17 _ _ l0_2 t305 _ ?side1 ?side2 A44.out).mono ?_); (case side1 => repeat (first | exact (Kd.C_below HR0_2.out HB.out) | (with_reducible refine Kd.C_alloc ?_ _) | (with_reducible refine Kd.C_drewN ?_ _) | (with_reducible refine Kd.C_drew ?_))); (case side2 => exact HC0_2.out); rintro e w50 ⟨rfl, hb⟩; refine ⟨_, rfl, ?_⟩; have n0_ := Aside0.mk (blk_below (g := gb298) (o := .cells #[.int .i64 a0_0, .int .i64 a0_1, .slice A0_2 l0_2.length c0_2, .bool a0_3, .slice A0_4 l0_4.length c0_4, .int .i64 a0_5, .int .i64 a0_6, .int .i64 a0_7, .string a0_8] 44 (0, 0)) (by (with_reducible repeat (first | refine blk_drewN ?_ _ | refine blk_drew ?_ | refine blk_alloc ?_ _)); exact BK298.out) hb); have n1_ := Aside0.mk (below_step (by repeat (first | (with_reducible first | exact HB.out | apply below_alloc | apply pw_below_drewN | apply below_drew1 | refine below_set ?_ GE298.out) | exact HB.out)) hb); clear BK298; clear HB; have BK298 := n0_; have HB := n1_; clear n0_ n1_; (try clear hb); (try clear hb2); (try clear hk); (try clear hi)))
                                    refine bodyPost_ret (results_list (rs := [.tmp 2, .tmp 3, .tmp 4, .tmp 5]) rfl (by simp) (.tmp (.tmp (.tmp (.tmp .nil))))) rfl ?_
                                    have hwz_ : wrap64 (1000000000000000 - (x6_4.size : Int)) = 1000000000000000 - (x6_4.size : Int) := by have h_ := of_eq_false c45b2; unfold wrap64; omega
                                    exact ⟨by first | rfl | (rw [hwz_]; rfl) | (simp [hwz_]; done) | (simp [*, hwz_]; done) | (simp [errW_none, errW_some] <;> rfl) | (simp only [← hji26]; first | rfl | (simp [errW_none, errW_some] <;> rfl)) | (simp [*, errW_none, errW_some] <;> rfl), by repeat (first | (with_reducible first | exact HB.out | apply below_alloc | apply pw_below_drewN | apply below_drew1 | refine below_set ?_ GE298.out) | exact HB.out)⟩
                                  · rw [if_neg c45] at H
                                    exact absurd H (by simp)
                              · rw [if_neg c35] at H
                                have c35b0 : decide (1000000000000000 < a0_7) = false := decide_eq_false c35
                                clear c35
                                by_cases c51 : a0_6 = 2
                                · rw [if_pos c51] at H
                                  have c51b0 : (a0_6 == 2) = true := beq_iff_eq.mpr c51
                                  have c51b1 : (a0_6 != 2) = false := bne_eq_false_iff_eq.mpr c51
                                  clear c51
                                  replace H := Option.bind_eq_some_iff.mp H
                                  obtain ⟨t306, A520, H⟩ := H
                                  replace H : (if t306.size + x6_4.size ≤ 9223372036854775807 then (some (((x7_4 ++ ((⟨#[101, 69]⟩ : ByteArray).extract ((ji26) : Int).toNat (a0_5 : Int).toNat)) ++ t302) ++ t303, t306 ++ x6_4, wrap64 ((wrap64 (-a0_7)) - (x6_4.size : Int)), true)) else (none)) = some (r1, r2, r3, r4) := H
                                  have A52 := Aside0.mk A520
                                  clear A520
                                  by_cases c53 : t306.size + x6_4.size ≤ 9223372036854775807
                                  · rw [if_pos c53] at H
                                    have c53b0 := eq_true c53
                                    have c53b1 : decide (t306.size + x6_4.size ≤ 9223372036854775807) = true := decide_eq_true c53
                                    try have c53b2 : (9223372036854775807 < t306.size + x6_4.size) = False := eq_false (Nat.not_lt.2 c53)
                                    simp only [Option.some.injEq, Prod.mk.injEq] at H
                                    obtain ⟨rfl, rfl, rfl, rfl⟩ := H
                                    have hcz54_0 : wc.cell? ⟨gb298, 0, none⟩ = some (.int .i64 a0_0) := (blk_cell BK298.out 0).trans rfl
                                    have hcz54_1 : wc.cell? ⟨gb298, 1, none⟩ = some (.int .i64 a0_1) := (blk_cell BK298.out 1).trans rfl
                                    have hcz54_2 : wc.cell? ⟨gb298, 2, none⟩ = some (.slice A0_2 l0_2.length c0_2) := (blk_cell BK298.out 2).trans rfl
                                    have hcz54_3 : wc.cell? ⟨gb298, 3, none⟩ = some (.bool a0_3) := (blk_cell BK298.out 3).trans rfl
                                    have hcz54_4 : wc.cell? ⟨gb298, 4, none⟩ = some (.slice A0_4 l0_4.length c0_4) := (blk_cell BK298.out 4).trans rfl
                                    have hcz54_5 : wc.cell? ⟨gb298, 5, none⟩ = some (.int .i64 a0_5) := (blk_cell BK298.out 5).trans rfl
                                    have hcz54_6 : wc.cell? ⟨gb298, 6, none⟩ = some (.int .i64 a0_6) := (blk_cell BK298.out 6).trans rfl
                                    have hcz54_7 : wc.cell? ⟨gb298, 7, none⟩ = some (.int .i64 a0_7) := (blk_cell BK298.out 7).trans rfl
                                    have hcz54_8 : wc.cell? ⟨gb298, 8, none⟩ = some (.string a0_8) := (blk_cell BK298.out 8).trans rfl
                                    have hfz54_0 := blk_frozen BK298.out 0
                                    have hfz54_1 := blk_frozen BK298.out 1
                                    have hfz54_2 := blk_frozen BK298.out 2
                                    have hfz54_3 := blk_frozen BK298.out 3
                                    have hfz54_4 := blk_frozen BK298.out 4
                                    have hfz54_5 := blk_frozen BK298.out 5
                                    have hfz54_6 := blk_frozen BK298.out 6
                                    have hfz54_7 := blk_frozen BK298.out 7
                                    have hfz54_8 := blk_frozen BK298.out 8
                                    try go_wp2
                                    have n0_ := Aside0.mk (blk_drew BK298.out)
                                    have n1_ := Aside0.mk (below_drew1 HB.out)
                                    clear BK298
                                    clear HB
                                    have BK298 := n0_
                                    have HB := n1_
                                    clear n0_ n1_
                                    refine start_ (n := 17) (S := fun w' => w'.cell? ⟨gb298, 0, none⟩ = some (.int .i64 a0_0) ∧ w'.cell? ⟨gb298, 1, none⟩ = some (.int .i64 a0_1) ∧ w'.cell? ⟨gb298, 2, none⟩ = some (.slice A0_2 l0_2.length c0_2) ∧ w'.cell? ⟨gb298, 3, none⟩ = some (.bool a0_3) ∧ w'.cell? ⟨gb298, 4, none⟩ = some (.slice A0_4 l0_4.length c0_4) ∧ w'.cell? ⟨gb298, 5, none⟩ = some (.int .i64 a0_5) ∧ w'.cell? ⟨gb298, 6, none⟩ = some (.int .i64 a0_6) ∧ w'.cell? ⟨gb298, 7, none⟩ = some (.int .i64 a0_7) ∧ w'.cell? ⟨gb298, 8, none⟩ = some (.string a0_8)) (ds := []) #[false, false, false, false, false, false, false, false, false, false, false, false, false, false, false, false, false] (by kernel_rfl) rfl rfl ⟨(blk_cell BK298.out 0).trans rfl, (blk_cell BK298.out 1).trans rfl, (blk_cell BK298.out 2).trans rfl, (blk_cell BK298.out 3).trans rfl, (blk_cell BK298.out 4).trans rfl, (blk_cell BK298.out 5).trans rfl, (blk_cell BK298.out 6).trans rfl, (blk_cell BK298.out 7).trans rfl, (blk_cell BK298.out 8).trans rfl⟩ (fun hHeld => ?_); refine with_tabW abacuslaw08_built.tab12 abacuslaw08_built.bits12 (fun HT_ HW_ => ?_)
                                    generalize wc.drew = w55 at BK298 HB hHeld ⊢
                                    refine pure_ (i := 0) (N := some 43) (v := ?_) (a' := ?_) #[true, false, false, false, false, false, false, false, false, false, false, false, false, false, false, false, false] rfl rfl (any_of HT_.out (by kernel_rfl)) (fun _ _ _ h => h) (Or.inl ⟨by rfl, ?_⟩) ?_ ?_
                                    rotate_left
                                    · intro w'
                                      go_simp
                                      with_reducible rfl
                                    rotate_left
                                    · simp only [Act.put, List.setIfInBounds_toArray, List.set_cons_zero, List.set_cons_succ, i64_w, i32_w]
                                      rfl
                                    refine pure_ (i := 1) (N := some 44) (v := ?_) (a' := ?_) #[true, true, false, false, false, false, false, false, false, false, false, false, false, false, false, false, false] rfl rfl (any_of HT_.out (by kernel_rfl)) (fun _ _ _ h => h) (Or.inl ⟨by rfl, ?_⟩) ?_ ?_
                                    rotate_left
                                    · intro w'
                                      go_simp
                                      with_reducible rfl
                                    rotate_left
                                    · simp only [Act.put, List.setIfInBounds_toArray, List.set_cons_zero, List.set_cons_succ, i64_w, i32_w]
                                      rfl
                                    refine pure_ (i := 4) (N := some 47) (v := ?_) (a' := ?_) #[true, true, false, false, true, false, false, false, false, false, false, false, false, false, false, false, false] rfl rfl (any_of HT_.out (by kernel_rfl)) (fun _ _ _ h => h) (Or.inl ⟨by rfl, ?_⟩) ?_ ?_
                                    rotate_left
                                    · intro w'
                                      go_simp
                                      with_reducible rfl
                                    rotate_left
                                    · simp only [Act.put, List.setIfInBounds_toArray, List.set_cons_zero, List.set_cons_succ, i64_w, i32_w]
                                      rfl
                                    refine pure_ (i := 8) (N := some 51) (v := ?_) (a' := ?_) #[true, true, false, false, true, false, false, false, true, false, false, false, false, false, false, false, false] rfl rfl (any_of HT_.out (by kernel_rfl)) (fun _ _ _ h => h) (Or.inl ⟨by rfl, ?_⟩) ?_ ?_
                                    rotate_left
                                    · intro w'
                                      go_simp
                                      with_reducible rfl
                                    rotate_left
                                    · simp only [Act.put, List.setIfInBounds_toArray, List.set_cons_zero, List.set_cons_succ, i64_w, i32_w]
                                      rfl
                                    refine pure_ (i := 12) (N := some 55) (v := ?_) (a' := ?_) #[true, true, false, false, true, false, false, false, true, false, false, false, true, false, false, false, false] rfl rfl (any_of HT_.out (by kernel_rfl)) (fun _ _ _ h => h) (Or.inl ⟨by rfl, ?_⟩) ?_ ?_
                                    rotate_left
                                    · intro w'
                                      go_simp
                                      with_reducible rfl
                                    rotate_left
                                    · simp only [Act.put, List.setIfInBounds_toArray, List.set_cons_zero, List.set_cons_succ, i64_w, i32_w]
                                      rfl
                                    refine take_ (i := 2) (N := some 45) (v := ?_) (a' := ?_) #[true, true, true, false, true, false, false, false, true, false, false, false, true, false, false, false, false] rfl rfl (take_ofW HT_.out HW_.out (by kernel_rfl)) (fun _ _ _ h => h) (Or.inl ⟨by rfl, ?_⟩) hHeld ?_ ?_
                                    rotate_left
                                    · rintro w' ⟨s0, s1, s2, s3, s4, s5, s6, s7, s8⟩
                                      go_simp
                                      with_reducible rfl
                                    rotate_left
                                    · simp only [Act.put, List.setIfInBounds_toArray, List.set_cons_zero, List.set_cons_succ, i64_w, i32_w]
                                      rfl
                                    refine pure_ (i := 3) (N := some 46) (v := ?_) (a' := ?_) #[true, true, true, true, true, false, false, false, true, false, false, false, true, false, false, false, false] rfl rfl (any_of HT_.out (by kernel_rfl)) (fun _ _ _ h => h) (Or.inl ⟨by rfl, ?_⟩) ?_ ?_
                                    rotate_left
                                    · intro w'
                                      go_simp
                                      with_reducible rfl
                                    rotate_left
                                    · simp only [Act.put, List.setIfInBounds_toArray, List.set_cons_zero, List.set_cons_succ, i64_w, i32_w]
                                      rfl
                                    refine take_ (i := 5) (N := some 48) (v := ?_) (a' := ?_) #[true, true, true, true, true, true, false, false, true, false, false, false, true, false, false, false, false] rfl rfl (take_ofW HT_.out HW_.out (by kernel_rfl)) (fun _ _ _ h => h) (Or.inl ⟨by rfl, ?_⟩) hHeld ?_ ?_
                                    rotate_left
                                    · rintro w' ⟨s0, s1, s2, s3, s4, s5, s6, s7, s8⟩
                                      go_simp
                                      with_reducible rfl
                                    rotate_left
                                    · simp only [Act.put, List.setIfInBounds_toArray, List.set_cons_zero, List.set_cons_succ, i64_w, i32_w]
                                      rfl
                                    refine pure_ (i := 6) (N := some 49) (v := ?_) (a' := ?_) #[true, true, true, true, true, true, true, false, true, false, false, false, true, false, false, false, false] rfl rfl (any_of HT_.out (by kernel_rfl)) (fun _ _ _ h => h) (Or.inl ⟨by rfl, ?_⟩) ?_ ?_
                                    rotate_left
                                    · intro w'
                                      go_simp
                                      with_reducible rfl
                                    rotate_left
                                    · simp only [Act.put, List.setIfInBounds_toArray, List.set_cons_zero, List.set_cons_succ, i64_w, i32_w]
                                      rfl
                                    refine pure_ (i := 7) (N := some 50) (v := ?_) (a' := ?_) #[true, true, true, true, true, true, true, true, true, false, false, false, true, false, false, false, false] rfl rfl (any_of HT_.out (by kernel_rfl)) (fun _ _ _ h => h) (Or.inl ⟨by rfl, ?_⟩) ?_ ?_
                                    rotate_left
                                    · intro w'
                                      go_simp
                                      with_reducible rfl
                                    rotate_left
                                    · simp only [Act.put, List.setIfInBounds_toArray, List.set_cons_zero, List.set_cons_succ, i64_w, i32_w]
                                      rfl
                                    refine take_ (i := 9) (N := some 52) (v := ?_) (a' := ?_) #[true, true, true, true, true, true, true, true, true, true, false, false, true, false, false, false, false] rfl rfl (take_ofW HT_.out HW_.out (by kernel_rfl)) (fun _ _ _ h => h) (Or.inl ⟨by rfl, ?_⟩) hHeld ?_ ?_
                                    rotate_left
                                    · rintro w' ⟨s0, s1, s2, s3, s4, s5, s6, s7, s8⟩
                                      go_simp
                                      with_reducible rfl
                                    rotate_left
                                    · simp only [Act.put, List.setIfInBounds_toArray, List.set_cons_zero, List.set_cons_succ, i64_w, i32_w]
                                      rfl
                                    refine take_ (i := 13) (N := some 56) (v := ?_) (a' := ?_) #[true, true, true, true, true, true, true, true, true, true, false, false, true, true, false, false, false] rfl rfl (take_ofW HT_.out HW_.out (by kernel_rfl)) (fun _ _ _ h => h) (Or.inl ⟨by rfl, ?_⟩) hHeld ?_ ?_
                                    rotate_left
                                    · rintro w' ⟨s0, s1, s2, s3, s4, s5, s6, s7, s8⟩
                                      go_simp
                                      with_reducible rfl
                                    rotate_left
                                    · simp only [Act.put, List.setIfInBounds_toArray, List.set_cons_zero, List.set_cons_succ, i64_w, i32_w]
                                      rfl
                                    refine one_ (i := 10) (N := some 53) #[true, true, true, true, true, true, true, true, true, true, true, false, true, true, false, false, false] rfl rfl (one_of HT_.out (by kernel_rfl)) (by decide) (fun K hK => ?_)
                                    refine goes_ Tryd.func33 (by kernel_rfl) rfl #[.int .i64 a0_6] (by rfl) rfl rfl (by (try simp only [List.map_toArray, List.map_cons, List.map_nil]); first | done | rfl | (simp only [List.length_drop, List.length_take]; rfl)) ?_
                                    with_reducible refine (abacuslaw08_sign.calls a0_6 t302 _ A31.out).mono ?_
                                    rintro e w' ⟨rfl, ⟨nd, rfl⟩⟩
                                    refine ⟨_, rfl, ?_⟩
                                    refine hK.out _ _ ⟨(blk_cell BK298.out 0).trans rfl, (blk_cell BK298.out 1).trans rfl, (blk_cell BK298.out 2).trans rfl, (blk_cell BK298.out 3).trans rfl, (blk_cell BK298.out 4).trans rfl, (blk_cell BK298.out 5).trans rfl, (blk_cell BK298.out 6).trans rfl, (blk_cell BK298.out 7).trans rfl, (blk_cell BK298.out 8).trans rfl⟩ (fun hHeld => ?_)
                                    clear hK K
                                    refine norm_ (a' := ?_) ?_ ?_
                                    rotate_left
                                    · show Act.put _ (some 53) _ = _
                                      simp only [Act.put, List.setIfInBounds_toArray, List.set_cons_zero, List.set_cons_succ, i64_w, i32_w]
                                      rfl
                                    refine pure_ (i := 11) (N := some 54) (v := ?_) (a' := ?_) #[true, true, true, true, true, true, true, true, true, true, true, true, true, true, false, false, false] rfl rfl (any_of HT_.out (by kernel_rfl)) (fun _ _ _ h => h) (Or.inl ⟨by rfl, ?_⟩) ?_ ?_
                                    rotate_left
                                    · intro w'
                                      go_simp
                                      with_reducible rfl
                                    rotate_left
                                    · simp only [Act.put, List.setIfInBounds_toArray, List.set_cons_zero, List.set_cons_succ, i64_w, i32_w]
                                      rfl
                                    refine one_ (i := 14) (N := some 57) #[true, true, true, true, true, true, true, true, true, true, true, true, true, true, true, false, false] rfl rfl (one_of HT_.out (by kernel_rfl)) (by decide) (fun K hK => ?_)
                                    refine goes_ Tryd.func35 (by kernel_rfl) rfl #[.int .i64 a0_7] (by rfl) rfl rfl (by (try simp only [List.map_toArray, List.map_cons, List.map_nil]); first | done | rfl | (simp only [List.length_drop, List.length_take]; rfl)) ?_
                                    with_reducible refine (abacuslaw08_number.calls kj17 a0_7 t303 _ A33.out).mono ?_
                                    rintro e w56 ⟨rfl, hb⟩
                                    refine ⟨_, rfl, ?_⟩
                                    have n0_ := Aside0.mk (blk_below (g := gb298) (o := .cells #[.int .i64 a0_0, .int .i64 a0_1, .slice A0_2 l0_2.length c0_2, .bool a0_3, .slice A0_4 l0_4.length c0_4, .int .i64 a0_5, .int .i64 a0_6, .int .i64 a0_7, .string a0_8] 44 (0, 0)) (by (with_reducible repeat (first | refine blk_drewN ?_ _ | refine blk_drew ?_ | refine blk_alloc ?_ _)); exact BK298.out) hb)
                                    have n1_ := Aside0.mk (below_step (by repeat (first | (with_reducible first | exact HB.out | apply below_alloc | apply pw_below_drewN | apply below_drew1 | refine below_set ?_ GE298.out) | exact HB.out)) hb)
                                    clear BK298
                                    clear HB
                                    have BK298 := n0_
                                    have HB := n1_
                                    clear n0_ n1_
                                    (try clear hb)
                                    (try clear hb2)
                                    (try clear hk)
                                    (try clear hi)
                                    refine hK.out _ _ ⟨(blk_cell BK298.out 0).trans rfl, (blk_cell BK298.out 1).trans rfl, (blk_cell BK298.out 2).trans rfl, (blk_cell BK298.out 3).trans rfl, (blk_cell BK298.out 4).trans rfl, (blk_cell BK298.out 5).trans rfl, (blk_cell BK298.out 6).trans rfl, (blk_cell BK298.out 7).trans rfl, (blk_cell BK298.out 8).trans rfl⟩ (fun hHeld => ?_)
                                    clear hK K
                                    refine norm_ (a' := ?_) ?_ ?_
                                    rotate_left
                                    · show Act.put _ (some 57) _ = _
                                      simp only [Act.put, List.setIfInBounds_toArray, List.set_cons_zero, List.set_cons_succ, i64_w, i32_w]
                                      rfl
                                    refine pure_ (i := 15) (N := some 58) (v := ?_) (a' := ?_) #[true, true, true, true, true, true, true, true, true, true, true, true, true, true, true, true, false] rfl rfl (any_of HT_.out (by kernel_rfl)) (fun _ _ _ h => h) (Or.inl ⟨by rfl, ?_⟩) ?_ ?_
                                    rotate_left
                                    · intro w'
                                      go_simp
                                      with_reducible rfl
                                    rotate_left
                                    · simp only [Act.put, List.setIfInBounds_toArray, List.set_cons_zero, List.set_cons_succ, i64_w, i32_w]
                                      rfl
                                    refine pure_ (i := 16) (N := some 7) (v := ?_) (a' := ?_) #[true, true, true, true, true, true, true, true, true, true, true, true, true, true, true, true, true] rfl rfl (any_of HT_.out (by kernel_rfl)) (fun _ _ _ h => h) (Or.inl ⟨by rfl, ?_⟩) ?_ ?_
                                    rotate_left
                                    · intro w'
                                      go_simp
                                      with_reducible rfl
                                    rotate_left
                                    · simp only [Act.put, List.setIfInBounds_toArray, List.set_cons_zero, List.set_cons_succ, i64_w, i32_w]
                                      rfl
                                    refine done_ (done_of HT_.out (by kernel_rfl)) ?_
                                    have hcz57_0 : w56.cell? ⟨gb298, 0, none⟩ = some (.int .i64 a0_0) := (blk_cell BK298.out 0).trans rfl
                                    have hcz57_1 : w56.cell? ⟨gb298, 1, none⟩ = some (.int .i64 a0_1) := (blk_cell BK298.out 1).trans rfl
                                    have hcz57_2 : w56.cell? ⟨gb298, 2, none⟩ = some (.slice A0_2 l0_2.length c0_2) := (blk_cell BK298.out 2).trans rfl
                                    have hcz57_3 : w56.cell? ⟨gb298, 3, none⟩ = some (.bool a0_3) := (blk_cell BK298.out 3).trans rfl
                                    have hcz57_4 : w56.cell? ⟨gb298, 4, none⟩ = some (.slice A0_4 l0_4.length c0_4) := (blk_cell BK298.out 4).trans rfl
                                    have hcz57_5 : w56.cell? ⟨gb298, 5, none⟩ = some (.int .i64 a0_5) := (blk_cell BK298.out 5).trans rfl
                                    have hcz57_6 : w56.cell? ⟨gb298, 6, none⟩ = some (.int .i64 a0_6) := (blk_cell BK298.out 6).trans rfl
                                    have hcz57_7 : w56.cell? ⟨gb298, 7, none⟩ = some (.int .i64 a0_7) := (blk_cell BK298.out 7).trans rfl
                                    have hcz57_8 : w56.cell? ⟨gb298, 8, none⟩ = some (.string a0_8) := (blk_cell BK298.out 8).trans rfl
                                    have hfz57_0 := blk_frozen BK298.out 0
                                    have hfz57_1 := blk_frozen BK298.out 1
                                    have hfz57_2 := blk_frozen BK298.out 2
                                    have hfz57_3 := blk_frozen BK298.out 3
                                    have hfz57_4 := blk_frozen BK298.out 4
                                    have hfz57_5 := blk_frozen BK298.out 5
                                    have hfz57_6 := blk_frozen BK298.out 6
                                    have hfz57_7 := blk_frozen BK298.out 7
                                    have hfz57_8 := blk_frozen BK298.out 8
                                    try go_wp2_with (first | ((with_reducible refine gate_callee (f := 34) rfl ?_); refine goesL_ (some 71) rfl rfl Tryd.func34 (by kernel_rfl) rfl #[.slice A0_2 l0_2.length c0_2] rfl (by (try simp only [List.map_toArray, List.map_cons, List.map_nil]); first | done | rfl | (simp only [List.length_drop, List.length_take]; rfl)) ?_; (with_reducible refine (abacuslaw08_figures.calls kj17 _ _ l0_2 t306 _ ?side1 ?side2 A52.out).mono ?_); (case side1 => repeat (first | exact (Kd.C_below HR0_2.out HB.out) | (with_reducible refine Kd.C_alloc ?_ _) | (with_reducible refine Kd.C_drewN ?_ _) | (with_reducible refine Kd.C_drew ?_))); (case side2 => exact HC0_2.out); rintro e w58 ⟨rfl, hb⟩; refine ⟨_, rfl, ?_⟩; have n0_ := Aside0.mk (blk_below (g := gb298) (o := .cells #[.int .i64 a0_0, .int .i64 a0_1, .slice A0_2 l0_2.length c0_2, .bool a0_3, .slice A0_4 l0_4.length c0_4, .int .i64 a0_5, .int .i64 a0_6, .int .i64 a0_7, .string a0_8] 44 (0, 0)) (by (with_reducible repeat (first | refine blk_drewN ?_ _ | refine blk_drew ?_ | refine blk_alloc ?_ _)); exact BK298.out) hb); have n1_ := Aside0.mk (below_step (by repeat (first | (with_reducible first | exact HB.out | apply below_alloc | apply pw_below_drewN | apply below_drew1 | refine below_set ?_ GE298.out) | exact HB.out)) hb); clear BK298; clear HB; have BK298 := n0_; have HB := n1_; clear n0_ n1_; (try clear hb); (try clear hb2); (try clear hk); (try clear hi)))
                                    refine bodyPost_ret (results_list (rs := [.tmp 2, .tmp 3, .tmp 4, .tmp 5]) rfl (by simp) (.tmp (.tmp (.tmp (.tmp .nil))))) rfl ?_
                                    exact ⟨by first | rfl | (simp [errW_none, errW_some] <;> rfl) | (simp only [← hji26]; first | rfl | (simp [errW_none, errW_some] <;> rfl)) | (simp [*, errW_none, errW_some] <;> rfl), by repeat (first | (with_reducible first | exact HB.out | apply below_alloc | apply pw_below_drewN | apply below_drew1 | refine below_set ?_ GE298.out) | exact HB.out)⟩
                                  · rw [if_neg c53] at H
                                    exact absurd H (by simp)
                                · rw [if_neg c51] at H
                                  have c51b0 : (a0_6 == 2) = false := beq_eq_false_iff_ne.mpr c51
                                  have c51b1 : (a0_6 != 2) = true := bne_iff_ne.mpr c51
                                  replace H := Option.bind_eq_some_iff.mp H
                                  obtain ⟨t307, A590, H⟩ := H
                                  replace H : (if t307.size + x6_4.size ≤ 9223372036854775807 then (some (((x7_4 ++ ((⟨#[101, 69]⟩ : ByteArray).extract ((ji26) : Int).toNat (a0_5 : Int).toNat)) ++ t302) ++ t303, t307 ++ x6_4, wrap64 (a0_7 - (x6_4.size : Int)), true)) else (none)) = some (r1, r2, r3, r4) := H
                                  have A59 := Aside0.mk A590
                                  clear A590
                                  by_cases c60 : t307.size + x6_4.size ≤ 9223372036854775807
                                  · rw [if_pos c60] at H
                                    have c60b0 := eq_true c60
                                    have c60b1 : decide (t307.size + x6_4.size ≤ 9223372036854775807) = true := decide_eq_true c60
                                    try have c60b2 : (9223372036854775807 < t307.size + x6_4.size) = False := eq_false (Nat.not_lt.2 c60)
                                    simp only [Option.some.injEq, Prod.mk.injEq] at H
                                    obtain ⟨rfl, rfl, rfl, rfl⟩ := H
                                    have hcz61_0 : wc.cell? ⟨gb298, 0, none⟩ = some (.int .i64 a0_0) := (blk_cell BK298.out 0).trans rfl
                                    have hcz61_1 : wc.cell? ⟨gb298, 1, none⟩ = some (.int .i64 a0_1) := (blk_cell BK298.out 1).trans rfl
                                    have hcz61_2 : wc.cell? ⟨gb298, 2, none⟩ = some (.slice A0_2 l0_2.length c0_2) := (blk_cell BK298.out 2).trans rfl
                                    have hcz61_3 : wc.cell? ⟨gb298, 3, none⟩ = some (.bool a0_3) := (blk_cell BK298.out 3).trans rfl
                                    have hcz61_4 : wc.cell? ⟨gb298, 4, none⟩ = some (.slice A0_4 l0_4.length c0_4) := (blk_cell BK298.out 4).trans rfl
                                    have hcz61_5 : wc.cell? ⟨gb298, 5, none⟩ = some (.int .i64 a0_5) := (blk_cell BK298.out 5).trans rfl
                                    have hcz61_6 : wc.cell? ⟨gb298, 6, none⟩ = some (.int .i64 a0_6) := (blk_cell BK298.out 6).trans rfl
                                    have hcz61_7 : wc.cell? ⟨gb298, 7, none⟩ = some (.int .i64 a0_7) := (blk_cell BK298.out 7).trans rfl
                                    have hcz61_8 : wc.cell? ⟨gb298, 8, none⟩ = some (.string a0_8) := (blk_cell BK298.out 8).trans rfl
                                    have hfz61_0 := blk_frozen BK298.out 0
                                    have hfz61_1 := blk_frozen BK298.out 1
                                    have hfz61_2 := blk_frozen BK298.out 2
                                    have hfz61_3 := blk_frozen BK298.out 3
                                    have hfz61_4 := blk_frozen BK298.out 4
                                    have hfz61_5 := blk_frozen BK298.out 5
                                    have hfz61_6 := blk_frozen BK298.out 6
                                    have hfz61_7 := blk_frozen BK298.out 7
                                    have hfz61_8 := blk_frozen BK298.out 8
                                    try go_wp2
                                    have n0_ := Aside0.mk (blk_drew BK298.out)
                                    have n1_ := Aside0.mk (below_drew1 HB.out)
                                    clear BK298
                                    clear HB
                                    have BK298 := n0_
                                    have HB := n1_
                                    clear n0_ n1_
                                    refine start_ (n := 17) (S := fun w' => w'.cell? ⟨gb298, 0, none⟩ = some (.int .i64 a0_0) ∧ w'.cell? ⟨gb298, 1, none⟩ = some (.int .i64 a0_1) ∧ w'.cell? ⟨gb298, 2, none⟩ = some (.slice A0_2 l0_2.length c0_2) ∧ w'.cell? ⟨gb298, 3, none⟩ = some (.bool a0_3) ∧ w'.cell? ⟨gb298, 4, none⟩ = some (.slice A0_4 l0_4.length c0_4) ∧ w'.cell? ⟨gb298, 5, none⟩ = some (.int .i64 a0_5) ∧ w'.cell? ⟨gb298, 6, none⟩ = some (.int .i64 a0_6) ∧ w'.cell? ⟨gb298, 7, none⟩ = some (.int .i64 a0_7) ∧ w'.cell? ⟨gb298, 8, none⟩ = some (.string a0_8)) (ds := []) #[false, false, false, false, false, false, false, false, false, false, false, false, false, false, false, false, false] (by kernel_rfl) rfl rfl ⟨(blk_cell BK298.out 0).trans rfl, (blk_cell BK298.out 1).trans rfl, (blk_cell BK298.out 2).trans rfl, (blk_cell BK298.out 3).trans rfl, (blk_cell BK298.out 4).trans rfl, (blk_cell BK298.out 5).trans rfl, (blk_cell BK298.out 6).trans rfl, (blk_cell BK298.out 7).trans rfl, (blk_cell BK298.out 8).trans rfl⟩ (fun hHeld => ?_); refine with_tabW abacuslaw08_built.tab12 abacuslaw08_built.bits12 (fun HT_ HW_ => ?_)
                                    generalize wc.drew = w62 at BK298 HB hHeld ⊢
                                    refine pure_ (i := 0) (N := some 43) (v := ?_) (a' := ?_) #[true, false, false, false, false, false, false, false, false, false, false, false, false, false, false, false, false] rfl rfl (any_of HT_.out (by kernel_rfl)) (fun _ _ _ h => h) (Or.inl ⟨by rfl, ?_⟩) ?_ ?_
                                    rotate_left
                                    · intro w'
                                      go_simp
                                      with_reducible rfl
                                    rotate_left
                                    · simp only [Act.put, List.setIfInBounds_toArray, List.set_cons_zero, List.set_cons_succ, i64_w, i32_w]
                                      rfl
                                    refine pure_ (i := 1) (N := some 44) (v := ?_) (a' := ?_) #[true, true, false, false, false, false, false, false, false, false, false, false, false, false, false, false, false] rfl rfl (any_of HT_.out (by kernel_rfl)) (fun _ _ _ h => h) (Or.inl ⟨by rfl, ?_⟩) ?_ ?_
                                    rotate_left
                                    · intro w'
                                      go_simp
                                      with_reducible rfl
                                    rotate_left
                                    · simp only [Act.put, List.setIfInBounds_toArray, List.set_cons_zero, List.set_cons_succ, i64_w, i32_w]
                                      rfl
                                    refine pure_ (i := 4) (N := some 47) (v := ?_) (a' := ?_) #[true, true, false, false, true, false, false, false, false, false, false, false, false, false, false, false, false] rfl rfl (any_of HT_.out (by kernel_rfl)) (fun _ _ _ h => h) (Or.inl ⟨by rfl, ?_⟩) ?_ ?_
                                    rotate_left
                                    · intro w'
                                      go_simp
                                      with_reducible rfl
                                    rotate_left
                                    · simp only [Act.put, List.setIfInBounds_toArray, List.set_cons_zero, List.set_cons_succ, i64_w, i32_w]
                                      rfl
                                    refine pure_ (i := 8) (N := some 51) (v := ?_) (a' := ?_) #[true, true, false, false, true, false, false, false, true, false, false, false, false, false, false, false, false] rfl rfl (any_of HT_.out (by kernel_rfl)) (fun _ _ _ h => h) (Or.inl ⟨by rfl, ?_⟩) ?_ ?_
                                    rotate_left
                                    · intro w'
                                      go_simp
                                      with_reducible rfl
                                    rotate_left
                                    · simp only [Act.put, List.setIfInBounds_toArray, List.set_cons_zero, List.set_cons_succ, i64_w, i32_w]
                                      rfl
                                    refine pure_ (i := 12) (N := some 55) (v := ?_) (a' := ?_) #[true, true, false, false, true, false, false, false, true, false, false, false, true, false, false, false, false] rfl rfl (any_of HT_.out (by kernel_rfl)) (fun _ _ _ h => h) (Or.inl ⟨by rfl, ?_⟩) ?_ ?_
                                    rotate_left
                                    · intro w'
                                      go_simp
                                      with_reducible rfl
                                    rotate_left
                                    · simp only [Act.put, List.setIfInBounds_toArray, List.set_cons_zero, List.set_cons_succ, i64_w, i32_w]
                                      rfl
                                    refine take_ (i := 2) (N := some 45) (v := ?_) (a' := ?_) #[true, true, true, false, true, false, false, false, true, false, false, false, true, false, false, false, false] rfl rfl (take_ofW HT_.out HW_.out (by kernel_rfl)) (fun _ _ _ h => h) (Or.inl ⟨by rfl, ?_⟩) hHeld ?_ ?_
                                    rotate_left
                                    · rintro w' ⟨s0, s1, s2, s3, s4, s5, s6, s7, s8⟩
                                      go_simp
                                      with_reducible rfl
                                    rotate_left
                                    · simp only [Act.put, List.setIfInBounds_toArray, List.set_cons_zero, List.set_cons_succ, i64_w, i32_w]
                                      rfl
                                    refine pure_ (i := 3) (N := some 46) (v := ?_) (a' := ?_) #[true, true, true, true, true, false, false, false, true, false, false, false, true, false, false, false, false] rfl rfl (any_of HT_.out (by kernel_rfl)) (fun _ _ _ h => h) (Or.inl ⟨by rfl, ?_⟩) ?_ ?_
                                    rotate_left
                                    · intro w'
                                      go_simp
                                      with_reducible rfl
                                    rotate_left
                                    · simp only [Act.put, List.setIfInBounds_toArray, List.set_cons_zero, List.set_cons_succ, i64_w, i32_w]
                                      rfl
                                    refine take_ (i := 5) (N := some 48) (v := ?_) (a' := ?_) #[true, true, true, true, true, true, false, false, true, false, false, false, true, false, false, false, false] rfl rfl (take_ofW HT_.out HW_.out (by kernel_rfl)) (fun _ _ _ h => h) (Or.inl ⟨by rfl, ?_⟩) hHeld ?_ ?_
                                    rotate_left
                                    · rintro w' ⟨s0, s1, s2, s3, s4, s5, s6, s7, s8⟩
                                      go_simp
                                      with_reducible rfl
                                    rotate_left
                                    · simp only [Act.put, List.setIfInBounds_toArray, List.set_cons_zero, List.set_cons_succ, i64_w, i32_w]
                                      rfl
                                    refine pure_ (i := 6) (N := some 49) (v := ?_) (a' := ?_) #[true, true, true, true, true, true, true, false, true, false, false, false, true, false, false, false, false] rfl rfl (any_of HT_.out (by kernel_rfl)) (fun _ _ _ h => h) (Or.inl ⟨by rfl, ?_⟩) ?_ ?_
                                    rotate_left
                                    · intro w'
                                      go_simp
                                      with_reducible rfl
                                    rotate_left
                                    · simp only [Act.put, List.setIfInBounds_toArray, List.set_cons_zero, List.set_cons_succ, i64_w, i32_w]
                                      rfl
                                    refine pure_ (i := 7) (N := some 50) (v := ?_) (a' := ?_) #[true, true, true, true, true, true, true, true, true, false, false, false, true, false, false, false, false] rfl rfl (any_of HT_.out (by kernel_rfl)) (fun _ _ _ h => h) (Or.inl ⟨by rfl, ?_⟩) ?_ ?_
                                    rotate_left
                                    · intro w'
                                      go_simp
                                      with_reducible rfl
                                    rotate_left
                                    · simp only [Act.put, List.setIfInBounds_toArray, List.set_cons_zero, List.set_cons_succ, i64_w, i32_w]
                                      rfl
                                    refine take_ (i := 9) (N := some 52) (v := ?_) (a' := ?_) #[true, true, true, true, true, true, true, true, true, true, false, false, true, false, false, false, false] rfl rfl (take_ofW HT_.out HW_.out (by kernel_rfl)) (fun _ _ _ h => h) (Or.inl ⟨by rfl, ?_⟩) hHeld ?_ ?_
                                    rotate_left
                                    · rintro w' ⟨s0, s1, s2, s3, s4, s5, s6, s7, s8⟩
                                      go_simp
                                      with_reducible rfl
                                    rotate_left
                                    · simp only [Act.put, List.setIfInBounds_toArray, List.set_cons_zero, List.set_cons_succ, i64_w, i32_w]
                                      rfl
                                    refine take_ (i := 13) (N := some 56) (v := ?_) (a' := ?_) #[true, true, true, true, true, true, true, true, true, true, false, false, true, true, false, false, false] rfl rfl (take_ofW HT_.out HW_.out (by kernel_rfl)) (fun _ _ _ h => h) (Or.inl ⟨by rfl, ?_⟩) hHeld ?_ ?_
                                    rotate_left
                                    · rintro w' ⟨s0, s1, s2, s3, s4, s5, s6, s7, s8⟩
                                      go_simp
                                      with_reducible rfl
                                    rotate_left
                                    · simp only [Act.put, List.setIfInBounds_toArray, List.set_cons_zero, List.set_cons_succ, i64_w, i32_w]
                                      rfl
                                    refine one_ (i := 10) (N := some 53) #[true, true, true, true, true, true, true, true, true, true, true, false, true, true, false, false, false] rfl rfl (one_of HT_.out (by kernel_rfl)) (by decide) (fun K hK => ?_)
                                    refine goes_ Tryd.func33 (by kernel_rfl) rfl #[.int .i64 a0_6] (by rfl) rfl rfl (by (try simp only [List.map_toArray, List.map_cons, List.map_nil]); first | done | rfl | (simp only [List.length_drop, List.length_take]; rfl)) ?_
                                    with_reducible refine (abacuslaw08_sign.calls a0_6 t302 _ A31.out).mono ?_
                                    rintro e w' ⟨rfl, ⟨nd, rfl⟩⟩
                                    refine ⟨_, rfl, ?_⟩
                                    refine hK.out _ _ ⟨(blk_cell BK298.out 0).trans rfl, (blk_cell BK298.out 1).trans rfl, (blk_cell BK298.out 2).trans rfl, (blk_cell BK298.out 3).trans rfl, (blk_cell BK298.out 4).trans rfl, (blk_cell BK298.out 5).trans rfl, (blk_cell BK298.out 6).trans rfl, (blk_cell BK298.out 7).trans rfl, (blk_cell BK298.out 8).trans rfl⟩ (fun hHeld => ?_)
                                    clear hK K
                                    refine norm_ (a' := ?_) ?_ ?_
                                    rotate_left
                                    · show Act.put _ (some 53) _ = _
                                      simp only [Act.put, List.setIfInBounds_toArray, List.set_cons_zero, List.set_cons_succ, i64_w, i32_w]
                                      rfl
                                    refine pure_ (i := 11) (N := some 54) (v := ?_) (a' := ?_) #[true, true, true, true, true, true, true, true, true, true, true, true, true, true, false, false, false] rfl rfl (any_of HT_.out (by kernel_rfl)) (fun _ _ _ h => h) (Or.inl ⟨by rfl, ?_⟩) ?_ ?_
                                    rotate_left
                                    · intro w'
                                      go_simp
                                      with_reducible rfl
                                    rotate_left
                                    · simp only [Act.put, List.setIfInBounds_toArray, List.set_cons_zero, List.set_cons_succ, i64_w, i32_w]
                                      rfl
                                    refine one_ (i := 14) (N := some 57) #[true, true, true, true, true, true, true, true, true, true, true, true, true, true, true, false, false] rfl rfl (one_of HT_.out (by kernel_rfl)) (by decide) (fun K hK => ?_)
                                    refine goes_ Tryd.func35 (by kernel_rfl) rfl #[.int .i64 a0_7] (by rfl) rfl rfl (by (try simp only [List.map_toArray, List.map_cons, List.map_nil]); first | done | rfl | (simp only [List.length_drop, List.length_take]; rfl)) ?_
                                    with_reducible refine (abacuslaw08_number.calls kj17 a0_7 t303 _ A33.out).mono ?_
                                    rintro e w63 ⟨rfl, hb⟩
                                    refine ⟨_, rfl, ?_⟩
                                    have n0_ := Aside0.mk (blk_below (g := gb298) (o := .cells #[.int .i64 a0_0, .int .i64 a0_1, .slice A0_2 l0_2.length c0_2, .bool a0_3, .slice A0_4 l0_4.length c0_4, .int .i64 a0_5, .int .i64 a0_6, .int .i64 a0_7, .string a0_8] 44 (0, 0)) (by (with_reducible repeat (first | refine blk_drewN ?_ _ | refine blk_drew ?_ | refine blk_alloc ?_ _)); exact BK298.out) hb)
                                    have n1_ := Aside0.mk (below_step (by repeat (first | (with_reducible first | exact HB.out | apply below_alloc | apply pw_below_drewN | apply below_drew1 | refine below_set ?_ GE298.out) | exact HB.out)) hb)
                                    clear BK298
                                    clear HB
                                    have BK298 := n0_
                                    have HB := n1_
                                    clear n0_ n1_
                                    (try clear hb)
                                    (try clear hb2)
                                    (try clear hk)
                                    (try clear hi)
                                    refine hK.out _ _ ⟨(blk_cell BK298.out 0).trans rfl, (blk_cell BK298.out 1).trans rfl, (blk_cell BK298.out 2).trans rfl, (blk_cell BK298.out 3).trans rfl, (blk_cell BK298.out 4).trans rfl, (blk_cell BK298.out 5).trans rfl, (blk_cell BK298.out 6).trans rfl, (blk_cell BK298.out 7).trans rfl, (blk_cell BK298.out 8).trans rfl⟩ (fun hHeld => ?_)
                                    clear hK K
                                    refine norm_ (a' := ?_) ?_ ?_
                                    rotate_left
                                    · show Act.put _ (some 57) _ = _
                                      simp only [Act.put, List.setIfInBounds_toArray, List.set_cons_zero, List.set_cons_succ, i64_w, i32_w]
                                      rfl
                                    refine pure_ (i := 15) (N := some 58) (v := ?_) (a' := ?_) #[true, true, true, true, true, true, true, true, true, true, true, true, true, true, true, true, false] rfl rfl (any_of HT_.out (by kernel_rfl)) (fun _ _ _ h => h) (Or.inl ⟨by rfl, ?_⟩) ?_ ?_
                                    rotate_left
                                    · intro w'
                                      go_simp
                                      with_reducible rfl
                                    rotate_left
                                    · simp only [Act.put, List.setIfInBounds_toArray, List.set_cons_zero, List.set_cons_succ, i64_w, i32_w]
                                      rfl
                                    refine pure_ (i := 16) (N := some 7) (v := ?_) (a' := ?_) #[true, true, true, true, true, true, true, true, true, true, true, true, true, true, true, true, true] rfl rfl (any_of HT_.out (by kernel_rfl)) (fun _ _ _ h => h) (Or.inl ⟨by rfl, ?_⟩) ?_ ?_
                                    rotate_left
                                    · intro w'
                                      go_simp
                                      with_reducible rfl
                                    rotate_left
                                    · simp only [Act.put, List.setIfInBounds_toArray, List.set_cons_zero, List.set_cons_succ, i64_w, i32_w]
                                      rfl
                                    refine done_ (done_of HT_.out (by kernel_rfl)) ?_
                                    have hcz64_0 : w63.cell? ⟨gb298, 0, none⟩ = some (.int .i64 a0_0) := (blk_cell BK298.out 0).trans rfl
                                    have hcz64_1 : w63.cell? ⟨gb298, 1, none⟩ = some (.int .i64 a0_1) := (blk_cell BK298.out 1).trans rfl
                                    have hcz64_2 : w63.cell? ⟨gb298, 2, none⟩ = some (.slice A0_2 l0_2.length c0_2) := (blk_cell BK298.out 2).trans rfl
                                    have hcz64_3 : w63.cell? ⟨gb298, 3, none⟩ = some (.bool a0_3) := (blk_cell BK298.out 3).trans rfl
                                    have hcz64_4 : w63.cell? ⟨gb298, 4, none⟩ = some (.slice A0_4 l0_4.length c0_4) := (blk_cell BK298.out 4).trans rfl
                                    have hcz64_5 : w63.cell? ⟨gb298, 5, none⟩ = some (.int .i64 a0_5) := (blk_cell BK298.out 5).trans rfl
                                    have hcz64_6 : w63.cell? ⟨gb298, 6, none⟩ = some (.int .i64 a0_6) := (blk_cell BK298.out 6).trans rfl
                                    have hcz64_7 : w63.cell? ⟨gb298, 7, none⟩ = some (.int .i64 a0_7) := (blk_cell BK298.out 7).trans rfl
                                    have hcz64_8 : w63.cell? ⟨gb298, 8, none⟩ = some (.string a0_8) := (blk_cell BK298.out 8).trans rfl
                                    have hfz64_0 := blk_frozen BK298.out 0
                                    have hfz64_1 := blk_frozen BK298.out 1
                                    have hfz64_2 := blk_frozen BK298.out 2
                                    have hfz64_3 := blk_frozen BK298.out 3
                                    have hfz64_4 := blk_frozen BK298.out 4
                                    have hfz64_5 := blk_frozen BK298.out 5
                                    have hfz64_6 := blk_frozen BK298.out 6
                                    have hfz64_7 := blk_frozen BK298.out 7
                                    have hfz64_8 := blk_frozen BK298.out 8
                                    try go_wp2_with (first | ((with_reducible refine gate_callee (f := 34) rfl ?_); refine goesL_ (some 71) rfl rfl Tryd.func34 (by kernel_rfl) rfl #[.slice A0_2 l0_2.length c0_2] rfl (by (try simp only [List.map_toArray, List.map_cons, List.map_nil]); first | done | rfl | (simp only [List.length_drop, List.length_take]; rfl)) ?_; (with_reducible refine (abacuslaw08_figures.calls kj17 _ _ l0_2 t307 _ ?side1 ?side2 A59.out).mono ?_); (case side1 => repeat (first | exact (Kd.C_below HR0_2.out HB.out) | (with_reducible refine Kd.C_alloc ?_ _) | (with_reducible refine Kd.C_drewN ?_ _) | (with_reducible refine Kd.C_drew ?_))); (case side2 => exact HC0_2.out); rintro e w65 ⟨rfl, hb⟩; refine ⟨_, rfl, ?_⟩; have n0_ := Aside0.mk (blk_below (g := gb298) (o := .cells #[.int .i64 a0_0, .int .i64 a0_1, .slice A0_2 l0_2.length c0_2, .bool a0_3, .slice A0_4 l0_4.length c0_4, .int .i64 a0_5, .int .i64 a0_6, .int .i64 a0_7, .string a0_8] 44 (0, 0)) (by (with_reducible repeat (first | refine blk_drewN ?_ _ | refine blk_drew ?_ | refine blk_alloc ?_ _)); exact BK298.out) hb); have n1_ := Aside0.mk (below_step (by repeat (first | (with_reducible first | exact HB.out | apply below_alloc | apply pw_below_drewN | apply below_drew1 | refine below_set ?_ GE298.out) | exact HB.out)) hb); clear BK298; clear HB; have BK298 := n0_; have HB := n1_; clear n0_ n1_; (try clear hb); (try clear hb2); (try clear hk); (try clear hi)))
                                    refine bodyPost_ret (results_list (rs := [.tmp 2, .tmp 3, .tmp 4, .tmp 5]) rfl (by simp) (.tmp (.tmp (.tmp (.tmp .nil))))) rfl ?_
                                    exact ⟨by first | rfl | (simp [errW_none, errW_some] <;> rfl) | (simp only [← hji26]; first | rfl | (simp [errW_none, errW_some] <;> rfl)) | (simp [*, errW_none, errW_some] <;> rfl), by repeat (first | (with_reducible first | exact HB.out | apply below_alloc | apply pw_below_drewN | apply below_drew1 | refine below_set ?_ GE298.out) | exact HB.out)⟩
                                  · rw [if_neg c60] at H
                                    exact absurd H (by simp)
                            · rw [if_neg c34] at H
                              exact absurd H (by simp)
                          · rw [if_neg c32] at H
                            exact absurd H (by simp)
                        · rw [if_neg c30] at H
                          exact absurd H (by simp)
                      · rw [if_neg c29] at H
                        exact absurd H (by simp)
                    · rw [if_neg c28] at H
                      exact absurd H (by simp)
                  · rw [if_neg c27] at H
                    exact absurd H (by simp)
              · replace c23 := Bool.eq_false_iff.mpr c23
                subst c23
                have H1 : ((abacuslaw08_figures.f kj17 l0_2).bind fun t308 => (if t308.size + x6_4.size ≤ 9223372036854775807 then (some (x7_4, t308 ++ x6_4, wrap64 (0 - (x6_4.size : Int)), true)) else (none))) = some (r1, r2, r3, r4) := by rw [if_neg (show ¬ (false = true) by decide)] at H; exact H
                clear H
                have H := H1
                clear H1
                replace H := Option.bind_eq_some_iff.mp H
                obtain ⟨t308, A660, H⟩ := H
                replace H : (if t308.size + x6_4.size ≤ 9223372036854775807 then (some (x7_4, t308 ++ x6_4, wrap64 (0 - (x6_4.size : Int)), true)) else (none)) = some (r1, r2, r3, r4) := H
                have A66 := Aside0.mk A660
                clear A660
                by_cases c67 : t308.size + x6_4.size ≤ 9223372036854775807
                · rw [if_pos c67] at H
                  have c67b0 := eq_true c67
                  have c67b1 : decide (t308.size + x6_4.size ≤ 9223372036854775807) = true := decide_eq_true c67
                  try have c67b2 : (9223372036854775807 < t308.size + x6_4.size) = False := eq_false (Nat.not_lt.2 c67)
                  simp only [Option.some.injEq, Prod.mk.injEq] at H
                  obtain ⟨rfl, rfl, rfl, rfl⟩ := H
                  have hcz68_0 : wc.cell? ⟨gb298, 0, none⟩ = some (.int .i64 a0_0) := (blk_cell BK298.out 0).trans rfl
                  have hcz68_1 : wc.cell? ⟨gb298, 1, none⟩ = some (.int .i64 a0_1) := (blk_cell BK298.out 1).trans rfl
                  have hcz68_2 : wc.cell? ⟨gb298, 2, none⟩ = some (.slice A0_2 l0_2.length c0_2) := (blk_cell BK298.out 2).trans rfl
                  have hcz68_3 : wc.cell? ⟨gb298, 3, none⟩ = some (.bool a0_3) := (blk_cell BK298.out 3).trans rfl
                  have hcz68_4 : wc.cell? ⟨gb298, 4, none⟩ = some (.slice A0_4 l0_4.length c0_4) := (blk_cell BK298.out 4).trans rfl
                  have hcz68_5 : wc.cell? ⟨gb298, 5, none⟩ = some (.int .i64 a0_5) := (blk_cell BK298.out 5).trans rfl
                  have hcz68_6 : wc.cell? ⟨gb298, 6, none⟩ = some (.int .i64 a0_6) := (blk_cell BK298.out 6).trans rfl
                  have hcz68_7 : wc.cell? ⟨gb298, 7, none⟩ = some (.int .i64 a0_7) := (blk_cell BK298.out 7).trans rfl
                  have hcz68_8 : wc.cell? ⟨gb298, 8, none⟩ = some (.string a0_8) := (blk_cell BK298.out 8).trans rfl
                  have hfz68_0 := blk_frozen BK298.out 0
                  have hfz68_1 := blk_frozen BK298.out 1
                  have hfz68_2 := blk_frozen BK298.out 2
                  have hfz68_3 := blk_frozen BK298.out 3
                  have hfz68_4 := blk_frozen BK298.out 4
                  have hfz68_5 := blk_frozen BK298.out 5
                  have hfz68_6 := blk_frozen BK298.out 6
                  have hfz68_7 := blk_frozen BK298.out 7
                  have hfz68_8 := blk_frozen BK298.out 8
                  go_wp2_with (first | ((with_reducible refine gate_callee (f := 34) rfl ?_); refine goesL_ (some 71) rfl rfl Tryd.func34 (by kernel_rfl) rfl #[.slice A0_2 l0_2.length c0_2] rfl (by (try simp only [List.map_toArray, List.map_cons, List.map_nil]); first | done | rfl | (simp only [List.length_drop, List.length_take]; rfl)) ?_; (with_reducible refine (abacuslaw08_figures.calls kj17 _ _ l0_2 t308 _ ?side1 ?side2 A66.out).mono ?_); (case side1 => repeat (first | exact (Kd.C_below HR0_2.out HB.out) | (with_reducible refine Kd.C_alloc ?_ _) | (with_reducible refine Kd.C_drewN ?_ _) | (with_reducible refine Kd.C_drew ?_))); (case side2 => exact HC0_2.out); rintro e w69 ⟨rfl, hb⟩; refine ⟨_, rfl, ?_⟩; have n0_ := Aside0.mk (blk_below (g := gb298) (o := .cells #[.int .i64 a0_0, .int .i64 a0_1, .slice A0_2 l0_2.length c0_2, .bool a0_3, .slice A0_4 l0_4.length c0_4, .int .i64 a0_5, .int .i64 a0_6, .int .i64 a0_7, .string a0_8] 44 (0, 0)) (by (with_reducible repeat (first | refine blk_drewN ?_ _ | refine blk_drew ?_ | refine blk_alloc ?_ _)); exact BK298.out) hb); have n1_ := Aside0.mk (below_step (by repeat (first | (with_reducible first | exact HB.out | apply below_alloc | apply pw_below_drewN | apply below_drew1 | refine below_set ?_ GE298.out) | exact HB.out)) hb); clear BK298; clear HB; have BK298 := n0_; have HB := n1_; clear n0_ n1_; (try clear hb); (try clear hb2); (try clear hk); (try clear hi)))
                  refine bodyPost_ret (results_list (rs := [.tmp 2, .tmp 3, .tmp 4, .tmp 5]) rfl (by simp) (.tmp (.tmp (.tmp (.tmp .nil))))) rfl ?_
                  have hwz_ : wrap64 (-(x6_4.size : Int)) = -(x6_4.size : Int) := by have h_ := of_eq_false c67b2; unfold wrap64; omega
                  exact ⟨by first | rfl | (rw [hwz_]; rfl) | (simp [hwz_]; done) | (simp [*, hwz_]; done) | (simp [errW_none, errW_some] <;> rfl) | (simp [*, errW_none, errW_some] <;> rfl), by repeat (first | (with_reducible first | exact HB.out | apply below_alloc | apply pw_below_drewN | apply below_drew1 | refine below_set ?_ GE298.out) | exact HB.out)⟩
                · rw [if_neg c67] at H
                  exact absurd H (by simp)
  · rw [if_neg c4] at H
    exact absurd H (by simp)
end Go.Proofs.YtcgjfckhnpimbaaDoor.EScan
