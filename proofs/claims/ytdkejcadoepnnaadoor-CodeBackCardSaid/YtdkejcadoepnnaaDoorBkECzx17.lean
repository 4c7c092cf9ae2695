/-
 A text of this session's own.
-/
import Derived.Test.YtdkejcadoepnnaaDoorBkA0
import Derived.Test.YtdkejcadoepnnaaDoorBkECcx0
import Derived.Test.YtdkejcadoepnnaaDoorBkECcx8
set_option linter.unusedSimpArgs false
namespace Go.Proofs.YtdkejcadoepnnaaDoor.ECc
open Go.RowKit Go.Proofs.YtdkejcadoepnnaaDoorW.PrintWords Go.Proofs.YtdkejcadoepnnaaDoorW.PrintLast Go.Proofs.YtdkejcadoepnnaaDoorW.PrintMore
attribute [local go_sem] max2_int min2_int max_two min_two max_three min_three max_four min_four
set_option linter.unusedVariables false
attribute [local go_sem high] eqA41
mutual
def w_same.j0 : Nat → Bool → List (S41) → List Int → List ByteArray → List (S41) → List Int → List ByteArray → Option (Bool)
 | 0, _, _, _, _, _, _, _ => none
 | k + 1, x32, x262000, x262001, x262002, x263000, x263001, x263002 => if x32 = true then (some false) else (w_same.l0 k 0 x262000 x262001 x262002 x263000 x263001 x263002)
def w_same.l0 : Nat → Int → List (S41) → List Int → List ByteArray → List (S41) → List Int → List ByteArray → Option (Bool)
 | 0, _, _, _, _, _, _, _ => none
 | k + 1, x5, x262000, x262001, x262002, x263000, x263001, x263002 => if x5 < (x262000.length : Int) then (if 0 ≤ x5 then (if x5 < (x263000.length : Int) then (if (!(((rd_T41 x262000 x5).f0) == ((rd_T41 x263000 x5).f0)) || (!(((rd_T41 x262000 x5).f1) == ((rd_T41 x263000 x5).f1)) || (!(((rd_T41 x262000 x5).f2) == ((rd_T41 x263000 x5).f2))))) = true then (some false) else (w_same.l0 k (wrap64 (x5 + 1)) x262000 x262001 x262002 x263000 x263001 x263002)) else (none)) else (none)) else (w_same.l1 k 0 x262000 x262001 x262002 x263000 x263001 x263002)
def w_same.l1 : Nat → Int → List (S41) → List Int → List ByteArray → List (S41) → List Int → List ByteArray → Option (Bool)
 | 0, _, _, _, _, _, _, _ => none
 | k + 1, x6, x262000, x262001, x262002, x263000, x263001, x263002 => if x6 < (x262001.length : Int) then (if 0 ≤ x6 then (if x6 < (x263001.length : Int) then (if (rd x262001 x6) = (rd x263001 x6) then (w_same.l1 k (wrap64 (x6 + 1)) x262000 x262001 x262002 x263000 x263001 x263002) else (some false)) else (none)) else (none)) else (w_same.l2 k 0 x262000 x262001 x262002 x263000 x263001 x263002)
def w_same.l2 : Nat → Int → List (S41) → List Int → List ByteArray → List (S41) → List Int → List ByteArray → Option (Bool)
 | 0, _, _, _, _, _, _, _ => none
 | k + 1, x7, x262000, x262001, x262002, x263000, x263001, x263002 => if x7 < (x262002.length : Int) then (if 0 ≤ x7 then (if x7 < (x263002.length : Int) then (if (rdOf ByteArray.empty x262002 x7).toList = (rdOf ByteArray.empty x263002 x7).toList then (w_same.l2 k (wrap64 (x7 + 1)) x262000 x262001 x262002 x263000 x263001 x263002) else (some false)) else (none)) else (none)) else (some true)
end
def w_same.f (k : Nat) (l0_0 : List (S41)) (l0_1 : List Int) (l0_2 : List ByteArray) (l1_0 : List (S41)) (l1_1 : List Int) (l1_2 : List ByteArray) : Option (Bool) := if (l0_0.length : Int) = (l1_0.length : Int) then (if (l0_1.length : Int) = (l1_1.length : Int) then (w_same.j0 k ((l0_2.length : Int) != (l1_2.length : Int)) l0_0 l0_1 l0_2 l1_0 l1_1 l1_2) else (w_same.j0 k true l0_0 l0_1 l0_2 l1_0 l1_1 l1_2)) else (w_same.j0 k true l0_0 l0_1 l0_2 l1_0 l1_1 l1_2)
set_option maxHeartbeats 8000000 in
set_option maxRecDepth 100000 in
theorem w_same.calls (k : Nat) (A0_0 : Option Addr) (c0_0 : Nat) (l0_0 : List (S41)) (A0_1 : Option Addr) (c0_1 : Nat) (l0_1 : List Int) (A0_2 : Option Addr) (c0_2 : Nat) (l0_2 : List ByteArray) (A1_0 : Option Addr) (c1_0 : Nat) (l1_0 : List (S41)) (A1_1 : Option Addr) (c1_1 : Nat) (l1_1 : List Int) (A1_2 : Option Addr) (c1_2 : Nat) (l1_2 : List ByteArray) (r : Bool) (w : World) (hr0_0 : Kd.C k41 w A0_0 l0_0.length l0_0) (hc0_0 : l0_0.length ≤ c0_0) (hr0_1 : Kd.C (Kd.int .u64) w A0_1 l0_1.length l0_1) (hc0_1 : l0_1.length ≤ c0_1) (hr0_2 : Kd.C Kd.string w A0_2 l0_2.length l0_2) (hc0_2 : l0_2.length ≤ c0_2) (hr1_0 : Kd.C k41 w A1_0 l1_0.length l1_0) (hc1_0 : l1_0.length ≤ c1_0) (hr1_1 : Kd.C (Kd.int .u64) w A1_1 l1_1.length l1_1) (hc1_1 : l1_1.length ≤ c1_1) (hr1_2 : Kd.C Kd.string w A1_2 l1_2.length l1_2) (hc1_2 : l1_2.length ≤ c1_2) (h : w_same.f k l0_0 l0_1 l0_2 l1_0 l1_1 l1_2 = some r) :
  Calls Tryd.prog 23 #[.agg #[.slice A0_0 l0_0.length c0_0, .slice A0_1 l0_1.length c0_1, .slice A0_2 l0_2.length c0_2], .agg #[.slice A1_0 l1_0.length c1_0, .slice A1_1 l1_1.length c1_1, .slice A1_2 l1_2.length c1_2]] w fun e w' => e = .returned (.bool r) ∧ Below w.heap.size w w' := by
 have hu26 := Tryd.underlying26
 have hu41 := Tryd.underlying41
 have HR0_0 := am hr0_0
 have HC0_0 := am hc0_0
 clear hr0_0 hc0_0
 have HR0_1 := am hr0_1
 have HC0_1 := am hc0_1
 clear hr0_1 hc0_1
 have HR0_2 := am hr0_2
 have HC0_2 := am hc0_2
 clear hr0_2 hc0_2
 have HR1_0 := am hr1_0
 have HC1_0 := am hc1_0
 clear hr1_0 hc1_0
 have HR1_1 := am hr1_1
 have HC1_1 := am hc1_1
 clear hr1_1 hc1_1
 have HR1_2 := am hr1_2
 have HC1_2 := am hc1_2
 clear hr1_2 hc1_2
 have HB := am (Below.refl w.heap.size w)
 have H : (if (l0_0.length : Int) = (l1_0.length : Int) then (if (l0_1.length : Int) = (l1_1.length : Int) then (w_same.j0 k ((l0_2.length : Int) != (l1_2.length : Int)) l0_0 l0_1 l0_2 l1_0 l1_1 l1_2) else (w_same.j0 k true l0_0 l0_1 l0_2 l1_0 l1_1 l1_2)) else (w_same.j0 k true l0_0 l0_1 l0_2 l1_0 l1_1 l1_2)) = some r := h
 clear h
 have HC3 := am H
 clear H
 go_enter Tryd.func23, Tryd.ntmps23
 go_upto_region 1 with (first | ((with_reducible refine gate_dst (N := 2) rfl ?_); (try (refine gate_guard (by rfl) ?_; dsimp only)); refine box_event ?hg (N := 2) ?hd (cs := #[.slice A0_0 l0_0.length c0_0, .slice A0_1 l0_1.length c0_1, .slice A0_2 l0_2.length c0_2]) (t := 26) ?hr ?_; (case hd => rfl); (case hg => rfl); (case hr => first | (go_simp; done) | (go_simp; rfl)); intro gb261 hg w4 hbox hb; have n0_ := am (below_step bl hb); have n1_ := am (hbox); have n2_ := am ((by rw [hg]; exact (below_size bl) : w.heap.size ≤ gb261)); have n3_ := n2_; clear HB; have HB := n0_; have BK261 := n1_; have GW261 := n2_; have GE261 := n3_; clear n0_ n1_ n2_ n3_; clear hb hbox hg) | ((with_reducible refine gate_dst (N := 3) rfl ?_); (try (refine gate_guard (by rfl) ?_; dsimp only)); refine box_event ?hg (N := 3) ?hd (cs := #[.slice A1_0 l1_0.length c1_0, .slice A1_1 l1_1.length c1_1, .slice A1_2 l1_2.length c1_2]) (t := 26) ?hr ?_; (case hd => rfl); (case hg => rfl); (case hr => first | (go_simp; done) | (go_simp; rfl)); intro gb262 hg w5 hbox hb; have n0_ := am (blk_below (bu BK261.out) hb); have n1_ := am (below_step bs hb); have n2_ := am (hbox); have n3_ := am ((by rw [hg]; exact (below_size bs) : w.heap.size ≤ gb262)); have n4_ := am ((by rw [hg]; exact (below_size bs) : w.heap.size ≤ gb262)); have n5_ := am ((by rw [hg]; exact Nat.ne_of_lt (blk_lt (bu BK261.out)) : gb261 ≠ gb262)); have n6_ := am ((by rw [hg]; exact Nat.ne_of_gt (blk_lt (bu BK261.out)) : gb262 ≠ gb261)); clear BK261; clear HB; have BK261 := n0_; have HB := n1_; have BK262 := n2_; have GW262 := n3_; have GE262 := n4_; have NB261_262 := n5_; have NB262_261 := n6_; clear n0_ n1_ n2_ n3_ n4_ n5_ n6_; clear hb hbox hg))
 repeat (go_quiet (fail); try go_wp2)
 (try simp only [Act.put, List.setIfInBounds_toArray, List.set_cons_zero, List.set_cons_succ])
 go_cut [32] (fun v32 wc => ∃ (kq : Nat) (x32_2 : Bool), v32 = .bool x32_2 ∧ Aside0 (w_same.j0 kq x32_2 l0_0 l0_1 l0_2 l1_0 l1_1 l1_2 = some r) ∧ Aside0 (kq ≤ k) ∧ Aside0 (wc.heap[gb261]? = some (.cells #[(.slice A0_0 l0_0.length c0_0), (.slice A0_1 l0_1.length c0_1), (.slice A0_2 l0_2.length c0_2)] 26 (0, 0))) ∧ Aside0 (wc.heap[gb262]? = some (.cells #[(.slice A1_0 l1_0.length c1_0), (.slice A1_1 l1_1.length c1_1), (.slice A1_2 l1_2.length c1_2)] 26 (0, 0))) ∧ Aside0 (Below w.heap.size w wc))
 case first =>
  have H := HC3.out
  clear HC3
  by_cases c6 : (l0_0.length : Int) = (l1_0.length : Int)
  rotate_left
  ·rw [if_neg c6] at H
   have c6b0 : ((l0_0.length : Int) == (l1_0.length : Int)) = false := beq_eq_false_iff_ne.mpr c6
   have c6b1 : ((l0_0.length : Int) != (l1_0.length : Int)) = true := bne_iff_ne.mpr c6
   have c6b2 : (l0_0.length == l1_0.length) = false := by first | simpa using c6 | (simp at c6 ⊢; omega)
   (first | rw [c6b0] | (simp only [i64_w, i32_w]; rw [c6b0]) | skip)
   have H' := am H
   clear H
   have hnb14 := NB261_262.out
   have hnc14 := NB262_261.out
   obtain ⟨⟨hcz15_0, hcz15_1, hcz15_2⟩, hfz15_0, hfz15_1, hfz15_2⟩ := blkAll3 BK261
   obtain ⟨⟨hcz16_0, hcz16_1, hcz16_2⟩, hfz16_0, hfz16_1, hfz16_2⟩ := blkAll3 BK262
   go_wp2
   repeat (go_quiet (fail); try go_wp2)
   go_meet
   case rel => exact ⟨_, (true), tv, H', ⟨by first | omega | exact Nat.le_refl _⟩, ⟨by refine bu ?_; exact BK261.out⟩, ⟨by refine bu ?_; exact BK262.out⟩, ⟨bs⟩⟩
  rw [if_pos c6] at H
  have c6b0 : ((l0_0.length : Int) == (l1_0.length : Int)) = true := beq_iff_eq.mpr c6
  have c6b1 : ((l0_0.length : Int) != (l1_0.length : Int)) = false := bne_eq_false_iff_eq.mpr c6
  have c6b2 : (l0_0.length == l1_0.length) = true := by first | simpa using c6 | (simp at c6 ⊢; omega)
  clear c6
  (first | rw [c6b0] | (simp only [i64_w, i32_w]; rw [c6b0]) | skip)
  by_cases c7 : (l0_1.length : Int) = (l1_1.length : Int)
  rotate_left
  ·rw [if_neg c7] at H
   have c7b0 : ((l0_1.length : Int) == (l1_1.length : Int)) = false := beq_eq_false_iff_ne.mpr c7
   have c7b1 : ((l0_1.length : Int) != (l1_1.length : Int)) = true := bne_iff_ne.mpr c7
   have c7b2 : (l0_1.length == l1_1.length) = false := by first | simpa using c7 | (simp at c7 ⊢; omega)
   have H' := am H
   clear H
   have hnb11 := NB261_262.out
   have hnc11 := NB262_261.out
   obtain ⟨⟨hcz12_0, hcz12_1, hcz12_2⟩, hfz12_0, hfz12_1, hfz12_2⟩ := blkAll3 BK261
   obtain ⟨⟨hcz13_0, hcz13_1, hcz13_2⟩, hfz13_0, hfz13_1, hfz13_2⟩ := blkAll3 BK262
   go_wp2
   repeat (go_quiet (fail); try go_wp2)
   go_meet
   case rel => exact ⟨_, (true), tv, H', ⟨by first | omega | exact Nat.le_refl _⟩, ⟨by refine bu ?_; exact BK261.out⟩, ⟨by refine bu ?_; exact BK262.out⟩, ⟨bs⟩⟩
  rw [if_pos c7] at H
  have c7b0 : ((l0_1.length : Int) == (l1_1.length : Int)) = true := beq_iff_eq.mpr c7
  have c7b1 : ((l0_1.length : Int) != (l1_1.length : Int)) = false := bne_eq_false_iff_eq.mpr c7
  have c7b2 : (l0_1.length == l1_1.length) = true := by first | simpa using c7 | (simp at c7 ⊢; omega)
  clear c7
  have H' := am H
  clear H
  have hnb8 := NB261_262.out
  have hnc8 := NB262_261.out
  obtain ⟨⟨hcz9_0, hcz9_1, hcz9_2⟩, hfz9_0, hfz9_1, hfz9_2⟩ := blkAll3 BK261
  obtain ⟨⟨hcz10_0, hcz10_1, hcz10_2⟩, hfz10_0, hfz10_1, hfz10_2⟩ := blkAll3 BK262
  go_wp2
  repeat (go_quiet (fail); try go_wp2)
  go_meet
  case rel => exact ⟨_, (((l0_2.length : Int) != (l1_2.length : Int))), tv, H', ⟨by first | omega | exact Nat.le_refl _⟩, ⟨by refine bu ?_; exact BK261.out⟩, ⟨by refine bu ?_; exact BK262.out⟩, ⟨bs⟩⟩
 case rest =>
  clear HC3
  try clear c1
  try clear c2
  try clear p2
  try clear c6
  try clear c6b0
  try clear c6b1
  try clear c6b2
  try clear c7
  try clear c7b0
  try clear c7b1
  try clear c7b2
  try clear c8
  try clear c11
  try clear c14
  try clear hcz10_0 hcz10_1 hcz10_2
  try clear hcz12_0 hcz12_1 hcz12_2
  try clear hcz13_0 hcz13_1 hcz13_2
  try clear hcz15_0 hcz15_1 hcz15_2
  try clear hcz16_0 hcz16_1 hcz16_2
  try clear hcz9_0 hcz9_1 hcz9_2
  try clear hfz10_0 hfz10_1 hfz10_2
  try clear hfz12_0 hfz12_1 hfz12_2
  try clear hfz13_0 hfz13_1 hfz13_2
  try clear hfz15_0 hfz15_1 hfz15_2
  try clear hfz16_0 hfz16_1 hfz16_2
  try clear hfz9_0 hfz9_1 hfz9_2
  obtain ⟨kq, x32_2, rfl, HA, HJ2, BK261, BK262, HB⟩ := hcut
  cases kq with
  | zero => exact absurd HA.out (by simp [w_same.j0])
  | succ kj2 =>
   have H := HA.out
   clear HA
   simp only [w_same.j0] at H
   by_cases c17 : x32_2 = true
   ·subst c17
    have H1 : (some false) = some r := by rw [if_pos rfl] at H; exact H
    clear H
    have H := H1
    clear H1
    obtain rfl := Option.some.inj H
    go_wp2
    repeat (go_quiet (fail); try go_wp2)
    go_ret
    exact ⟨er, bs⟩
   replace c17 := Bool.eq_false_iff.mpr c17
   subst c17
   have H1 : (w_same.l0 kj2 0 l0_0 l0_1 l0_2 l1_0 l1_1 l1_2) = some r := by rw [if_neg (show ¬ (false = true) by decide)] at H; exact H
   clear H
   have H := H1
   clear H1
   have H' := am H
   clear H
   go_wp2
   repeat (go_quiet (fail); try go_wp2)
   go_loopg [5] kj2 (fun kq v5 w' => ∃ (x5_2 : Int), v5 = .int .i64 x5_2 ∧ Aside0 (w_same.l0 kq x5_2 l0_0 l0_1 l0_2 l1_0 l1_1 l1_2 = some r) ∧ Aside0 (kq ≤ kj2) ∧ Aside0 (w'.heap[gb261]? = some (.cells #[(.slice A0_0 l0_0.length c0_0), (.slice A0_1 l0_1.length c0_1), (.slice A0_2 l0_2.length c0_2)] 26 (0, 0))) ∧ Aside0 (w'.heap[gb262]? = some (.cells #[(.slice A1_0 l1_0.length c1_0), (.slice A1_1 l1_1.length c1_1), (.slice A1_2 l1_2.length c1_2)] 26 (0, 0))) ∧ Aside0 (Below w.heap.size w w'))
   case atStart => exact ⟨(0), tv, H', ⟨Nat.le_refl _⟩, ⟨by refine bu ?_; exact BK261.out⟩, ⟨by refine bu ?_; exact BK262.out⟩, ⟨bs⟩⟩
   case round =>
    clear H'
    try clear c1
    try clear c2
    try clear p2
    try clear c6
    try clear c6b0
    try clear c6b1
    try clear c6b2
    try clear c7
    try clear c7b0
    try clear c7b1
    try clear c7b2
    try clear c8
    try clear c11
    try clear c14
    try clear c17
    try clear hcz10_0 hcz10_1 hcz10_2
    try clear hcz12_0 hcz12_1 hcz12_2
    try clear hcz13_0 hcz13_1 hcz13_2
    try clear hcz15_0 hcz15_1 hcz15_2
    try clear hcz16_0 hcz16_1 hcz16_2
    try clear hcz9_0 hcz9_1 hcz9_2
    try clear hfz10_0 hfz10_1 hfz10_2
    try clear hfz12_0 hfz12_1 hfz12_2
    try clear hfz13_0 hfz13_1 hfz13_2
    try clear hfz15_0 hfz15_1 hfz15_2
    try clear hfz16_0 hfz16_1 hfz16_2
    try clear hfz9_0 hfz9_1 hfz9_2
    try clear p2
    obtain ⟨x5_2, rfl, HA, HK2, BK261, BK262, HB⟩ := hrel
    cases gk with
    | zero => exact absurd HA.out (by simp [w_same.l0])
    | succ k2 =>
     have H := HA.out
     clear HA
     simp only [w_same.l0] at H
     by_cases c18 : x5_2 < (l0_0.length : Int)
     ·rw [if_pos c18] at H
      have c18b0 := decide_eq_true c18
      clear c18
      by_cases c19 : 0 ≤ x5_2
      rotate_left
      ·rw [if_neg c19] at H
       exact absurd H (by simp)
      rw [if_pos c19] at H
      have c19b0 := decide_eq_true c19
      clear c19
      by_cases c20 : x5_2 < (l1_0.length : Int)
      rotate_left
      ·rw [if_neg c20] at H
       exact absurd H (by simp)
      rw [if_pos c20] at H
      have c20b0 := decide_eq_true c20
      clear c20
      by_cases c21 : (!(((rd_T41 l0_0 x5_2).f0) == ((rd_T41 l1_0 x5_2).f0)) || (!(((rd_T41 l0_0 x5_2).f1) == ((rd_T41 l1_0 x5_2).f1)) || (!(((rd_T41 l0_0 x5_2).f2) == ((rd_T41 l1_0 x5_2).f2))))) = true
      ·rw [if_pos c21] at H
       have c21b0 : (!(((rd_T41 l0_0 x5_2).f0) == ((rd_T41 l1_0 x5_2).f0)) || (!(((rd_T41 l0_0 x5_2).f1) == ((rd_T41 l1_0 x5_2).f1)) || (!(((rd_T41 l0_0 x5_2).f2) == ((rd_T41 l1_0 x5_2).f2))))) = true := c21
       clear c21
       obtain rfl := Option.some.inj H
       have hnb22 := NB261_262.out
       have hnc22 := NB262_261.out
       obtain ⟨⟨hcz23_0, hcz23_1, hcz23_2⟩, hfz23_0, hfz23_1, hfz23_2⟩ := blkAll3 BK261
       have p263 : 0 ≤ (x5_2 : Int) := of_decide_eq_true od
       have q263 : x5_2 < (l0_0.length : Int) := of_decide_eq_true od
       obtain ⟨ad263, e263, hx263_0, hx263_1, hx263_2⟩ := at_T41 HR0_0.out x5_2 p263 q263
       cases e263
       replace hx263_0 := (HB.out.cell (World.block_lt_of_cell? w _ hx263_0)).trans hx263_0
       replace hx263_1 := (HB.out.cell (World.block_lt_of_cell? w _ hx263_1)).trans hx263_1
       replace hx263_2 := (HB.out.cell (World.block_lt_of_cell? w _ hx263_2)).trans hx263_2
       replace p263 := eq_true p263
       replace q263 := eq_true q263
       obtain ⟨⟨hcz24_0, hcz24_1, hcz24_2⟩, hfz24_0, hfz24_1, hfz24_2⟩ := blkAll3 BK262
       have p264 : 0 ≤ (x5_2 : Int) := of_decide_eq_true od
       have q264 : x5_2 < (l1_0.length : Int) := of_decide_eq_true od
       obtain ⟨ad264, e264, hx264_0, hx264_1, hx264_2⟩ := at_T41 HR1_0.out x5_2 p264 q264
       cases e264
       replace hx264_0 := (HB.out.cell (World.block_lt_of_cell? w _ hx264_0)).trans hx264_0
       replace hx264_1 := (HB.out.cell (World.block_lt_of_cell? w _ hx264_1)).trans hx264_1
       replace hx264_2 := (HB.out.cell (World.block_lt_of_cell? w _ hx264_2)).trans hx264_2
       replace p264 := eq_true p264
       replace q264 := eq_true q264
       go_wp2
       repeat (go_quiet (fail); try go_wp2)
       go_ret
       exact ⟨er, bs⟩
      rw [if_neg c21] at H
      have c21b0 : (!(((rd_T41 l0_0 x5_2).f0) == ((rd_T41 l1_0 x5_2).f0)) || (!(((rd_T41 l0_0 x5_2).f1) == ((rd_T41 l1_0 x5_2).f1)) || (!(((rd_T41 l0_0 x5_2).f2) == ((rd_T41 l1_0 x5_2).f2))))) = false := by simpa using c21
      clear c21
      have H' := am H
      clear H
      have hnb25 := NB261_262.out
      have hnc25 := NB262_261.out
      obtain ⟨⟨hcz26_0, hcz26_1, hcz26_2⟩, hfz26_0, hfz26_1, hfz26_2⟩ := blkAll3 BK261
      have p263 : 0 ≤ (x5_2 : Int) := of_decide_eq_true od
      have q263 : x5_2 < (l0_0.length : Int) := of_decide_eq_true od
      obtain ⟨ad263, e263, hx263_0, hx263_1, hx263_2⟩ := at_T41 HR0_0.out x5_2 p263 q263
      cases e263
      replace hx263_0 := (HB.out.cell (World.block_lt_of_cell? w _ hx263_0)).trans hx263_0
      replace hx263_1 := (HB.out.cell (World.block_lt_of_cell? w _ hx263_1)).trans hx263_1
      replace hx263_2 := (HB.out.cell (World.block_lt_of_cell? w _ hx263_2)).trans hx263_2
      replace p263 := eq_true p263
      replace q263 := eq_true q263
      obtain ⟨⟨hcz27_0, hcz27_1, hcz27_2⟩, hfz27_0, hfz27_1, hfz27_2⟩ := blkAll3 BK262
      have p264 : 0 ≤ (x5_2 : Int) := of_decide_eq_true od
      have q264 : x5_2 < (l1_0.length : Int) := of_decide_eq_true od
      obtain ⟨ad264, e264, hx264_0, hx264_1, hx264_2⟩ := at_T41 HR1_0.out x5_2 p264 q264
      cases e264
      replace hx264_0 := (HB.out.cell (World.block_lt_of_cell? w _ hx264_0)).trans hx264_0
      replace hx264_1 := (HB.out.cell (World.block_lt_of_cell? w _ hx264_1)).trans hx264_1
      replace hx264_2 := (HB.out.cell (World.block_lt_of_cell? w _ hx264_2)).trans hx264_2
      replace p264 := eq_true p264
      replace q264 := eq_true q264
      go_wp2
      repeat (go_quiet (fail); try go_wp2)
      go_roundg k2
      case measure => have := HJ2.out; have := HK2.out; omega
      case rel => exact ⟨(wrap64 (x5_2 + 1)), tv, H', ⟨by have := HJ2.out; have := HK2.out; omega⟩, ⟨by refine bu ?_; exact BK261.out⟩, ⟨by refine bu ?_; exact BK262.out⟩, ⟨bs⟩⟩
     rw [if_neg c18] at H
     have c18b0 := decide_eq_false c18
     clear c18
     have H' := am H
     clear H
     have hnb28 := NB261_262.out
     have hnc28 := NB262_261.out
     obtain ⟨⟨hcz29_0, hcz29_1, hcz29_2⟩, hfz29_0, hfz29_1, hfz29_2⟩ := blkAll3 BK261
     go_wp2
     repeat (go_quiet (fail); try go_wp2)
     go_loopg [6] k2 (fun kq v6 w' => ∃ (x6_3 : Int), v6 = .int .i64 x6_3 ∧ Aside0 (w_same.l1 kq x6_3 l0_0 l0_1 l0_2 l1_0 l1_1 l1_2 = some r) ∧ Aside0 (kq ≤ k2) ∧ Aside0 (w'.heap[gb261]? = some (.cells #[(.slice A0_0 l0_0.length c0_0), (.slice A0_1 l0_1.length c0_1), (.slice A0_2 l0_2.length c0_2)] 26 (0, 0))) ∧ Aside0 (w'.heap[gb262]? = some (.cells #[(.slice A1_0 l1_0.length c1_0), (.slice A1_1 l1_1.length c1_1), (.slice A1_2 l1_2.length c1_2)] 26 (0, 0))) ∧ Aside0 (Below w.heap.size w w'))
     case atStart => exact ⟨(0), tv, H', ⟨Nat.le_refl _⟩, ⟨by refine bu ?_; exact BK261.out⟩, ⟨by refine bu ?_; exact BK262.out⟩, ⟨bs⟩⟩
     case round =>
      clear H'
      try clear c1
      try clear c2
      try clear p2
      try clear q2
      try clear hx2
      try clear c6
      try clear c6b0
      try clear c6b1
      try clear c6b2
      try clear p6
      try clear c7
      try clear c7b0
      try clear c7b1
      try clear c7b2
      try clear c8
      try clear c11
      try clear c14
      try clear c17
      try clear c18
      try clear c18b0
      try clear c19
      try clear c19b0
      try clear c20
      try clear c20b0
      try clear c21
      try clear c21b0
      try clear c22
      try clear c23
      try clear c25
      try clear p26
      try clear q26
      try clear hx26
      try clear c28
      try clear hcz10_0 hcz10_1 hcz10_2
      try clear hcz12_0 hcz12_1 hcz12_2
      try clear hcz13_0 hcz13_1 hcz13_2
      try clear hcz15_0 hcz15_1 hcz15_2
      try clear hcz16_0 hcz16_1 hcz16_2
      try clear hcz23_0 hcz23_1 hcz23_2
      try clear hcz24_0 hcz24_1 hcz24_2
      try clear hcz26_0 hcz26_1 hcz26_2
      try clear hcz27_0 hcz27_1 hcz27_2
      try clear hcz29_0 hcz29_1 hcz29_2
      try clear hcz9_0 hcz9_1 hcz9_2
      try clear hfz10_0 hfz10_1 hfz10_2
      try clear hfz12_0 hfz12_1 hfz12_2
      try clear hfz13_0 hfz13_1 hfz13_2
      try clear hfz15_0 hfz15_1 hfz15_2
      try clear hfz16_0 hfz16_1 hfz16_2
      try clear hfz23_0 hfz23_1 hfz23_2
      try clear hfz24_0 hfz24_1 hfz24_2
      try clear hfz26_0 hfz26_1 hfz26_2
      try clear hfz27_0 hfz27_1 hfz27_2
      try clear hfz29_0 hfz29_1 hfz29_2
      try clear hfz9_0 hfz9_1 hfz9_2
      try clear hx263_0
      try clear hx263_1
      try clear hx263_2
      try clear hx264_0
      try clear hx264_1
      try clear hx264_2
      try clear p2
      try clear p263
      try clear p264
      try clear q263
      try clear q264
      obtain ⟨x6_3, rfl, HA, HK3, BK261, BK262, HB⟩ := hrel
      cases gk with
      | zero => exact absurd HA.out (by simp [w_same.l1])
      | succ k3 =>
       have H := HA.out
       clear HA
       simp only [w_same.l1] at H
       by_cases c30 : x6_3 < (l0_1.length : Int)
       ·rw [if_pos c30] at H
        have c30b0 := decide_eq_true c30
        clear c30
        by_cases c31 : 0 ≤ x6_3
        rotate_left
        ·rw [if_neg c31] at H
         exact absurd H (by simp)
        rw [if_pos c31] at H
        have c31b0 := decide_eq_true c31
        clear c31
        by_cases c32 : x6_3 < (l1_1.length : Int)
        rotate_left
        ·rw [if_neg c32] at H
         exact absurd H (by simp)
        rw [if_pos c32] at H
        have c32b0 := decide_eq_true c32
        clear c32
        by_cases c33 : (rd l0_1 x6_3) = (rd l1_1 x6_3)
        rotate_left
        ·rw [if_neg c33] at H
         have c33b0 : ((rd l0_1 x6_3) == (rd l1_1 x6_3)) = false := beq_eq_false_iff_ne.mpr c33
         have c33b1 : ((rd l0_1 x6_3) != (rd l1_1 x6_3)) = true := bne_iff_ne.mpr c33
         obtain rfl := Option.some.inj H
         have hnb37 := NB261_262.out
         have hnc37 := NB262_261.out
         obtain ⟨⟨hcz38_0, hcz38_1, hcz38_2⟩, hfz38_0, hfz38_1, hfz38_2⟩ := blkAll3 BK261
         have p265 : 0 ≤ (x6_3 : Int) := of_decide_eq_true od
         have q265 : x6_3 < (l0_1.length : Int) := of_decide_eq_true od
         obtain ⟨ad265, e265, hx265_0⟩ := Kd.at_int HR0_1.out x6_3 p265 q265
         cases e265
         replace hx265_0 := (HB.out.cell (World.block_lt_of_cell? w _ hx265_0)).trans hx265_0
         replace p265 := eq_true p265
         replace q265 := eq_true q265
         obtain ⟨⟨hcz39_0, hcz39_1, hcz39_2⟩, hfz39_0, hfz39_1, hfz39_2⟩ := blkAll3 BK262
         have p266 : 0 ≤ (x6_3 : Int) := of_decide_eq_true od
         have q266 : x6_3 < (l1_1.length : Int) := of_decide_eq_true od
         obtain ⟨ad266, e266, hx266_0⟩ := Kd.at_int HR1_1.out x6_3 p266 q266
         cases e266
         replace hx266_0 := (HB.out.cell (World.block_lt_of_cell? w _ hx266_0)).trans hx266_0
         replace p266 := eq_true p266
         replace q266 := eq_true q266
         go_wp2
         repeat (go_quiet (fail); try go_wp2)
         go_ret
         exact ⟨er, bs⟩
        rw [if_pos c33] at H
        have c33b0 : ((rd l0_1 x6_3) == (rd l1_1 x6_3)) = true := beq_iff_eq.mpr c33
        have c33b1 : ((rd l0_1 x6_3) != (rd l1_1 x6_3)) = false := bne_eq_false_iff_eq.mpr c33
        clear c33
        have H' := am H
        clear H
        have hnb34 := NB261_262.out
        have hnc34 := NB262_261.out
        obtain ⟨⟨hcz35_0, hcz35_1, hcz35_2⟩, hfz35_0, hfz35_1, hfz35_2⟩ := blkAll3 BK261
        have p265 : 0 ≤ (x6_3 : Int) := of_decide_eq_true od
        have q265 : x6_3 < (l0_1.length : Int) := of_decide_eq_true od
        obtain ⟨ad265, e265, hx265_0⟩ := Kd.at_int HR0_1.out x6_3 p265 q265
        cases e265
        replace hx265_0 := (HB.out.cell (World.block_lt_of_cell? w _ hx265_0)).trans hx265_0
        replace p265 := eq_true p265
        replace q265 := eq_true q265
        obtain ⟨⟨hcz36_0, hcz36_1, hcz36_2⟩, hfz36_0, hfz36_1, hfz36_2⟩ := blkAll3 BK262
        have p266 : 0 ≤ (x6_3 : Int) := of_decide_eq_true od
        have q266 : x6_3 < (l1_1.length : Int) := of_decide_eq_true od
        obtain ⟨ad266, e266, hx266_0⟩ := Kd.at_int HR1_1.out x6_3 p266 q266
        cases e266
        replace hx266_0 := (HB.out.cell (World.block_lt_of_cell? w _ hx266_0)).trans hx266_0
        replace p266 := eq_true p266
        replace q266 := eq_true q266
        go_wp2
        repeat (go_quiet (fail); try go_wp2)
        go_roundg k3
        case measure => have := HJ2.out; have := HK2.out; have := HK3.out; omega
        case rel => exact ⟨(wrap64 (x6_3 + 1)), tv, H', ⟨by have := HJ2.out; have := HK2.out; have := HK3.out; omega⟩, ⟨by refine bu ?_; exact BK261.out⟩, ⟨by refine bu ?_; exact BK262.out⟩, ⟨bs⟩⟩
       rw [if_neg c30] at H
       have c30b0 := decide_eq_false c30
       clear c30
       have H' := am H
       clear H
       have hnb40 := NB261_262.out
       have hnc40 := NB262_261.out
       obtain ⟨⟨hcz41_0, hcz41_1, hcz41_2⟩, hfz41_0, hfz41_1, hfz41_2⟩ := blkAll3 BK261
       go_wp2
       repeat (go_quiet (fail); try go_wp2)
       go_loopg [7] k3 (fun kq v7 w' => ∃ (x7_4 : Int), v7 = .int .i64 x7_4 ∧ Aside0 (w_same.l2 kq x7_4 l0_0 l0_1 l0_2 l1_0 l1_1 l1_2 = some r) ∧ Aside0 (kq ≤ k3) ∧ Aside0 (w'.heap[gb261]? = some (.cells #[(.slice A0_0 l0_0.length c0_0), (.slice A0_1 l0_1.length c0_1), (.slice A0_2 l0_2.length c0_2)] 26 (0, 0))) ∧ Aside0 (w'.heap[gb262]? = some (.cells #[(.slice A1_0 l1_0.length c1_0), (.slice A1_1 l1_1.length c1_1), (.slice A1_2 l1_2.length c1_2)] 26 (0, 0))) ∧ Aside0 (Below w.heap.size w w'))
       case atStart => exact ⟨(0), tv, H', ⟨Nat.le_refl _⟩, ⟨by refine bu ?_; exact BK261.out⟩, ⟨by refine bu ?_; exact BK262.out⟩, ⟨bs⟩⟩
       case round =>
        clear H'
        try clear c1
        try clear c2
        try clear p2
        try clear q2
        try clear hx2
        try clear c3
        try clear c4
        try clear c6
        try clear c6b0
        try clear c6b1
        try clear c6b2
        try clear p6
        try clear c7
        try clear c7b0
        try clear c7b1
        try clear c7b2
        try clear c8
        try clear c11
        try clear c14
        try clear c17
        try clear c18
        try clear c18b0
        try clear c19
        try clear c19b0
        try clear c20
        try clear c20b0
        try clear c21
        try clear c21b0
        try clear c22
        try clear c23
        try clear c25
        try clear p26
        try clear q26
        try clear hx26
        try clear c28
        try clear c30
        try clear c30b0
        try clear c31
        try clear c31b0
        try clear c32
        try clear c32b0
        try clear c33
        try clear c33b0
        try clear c33b1
        try clear c34
        try clear c37
        try clear c40
        try clear hcz10_0 hcz10_1 hcz10_2
        try clear hcz12_0 hcz12_1 hcz12_2
        try clear hcz13_0 hcz13_1 hcz13_2
        try clear hcz15_0 hcz15_1 hcz15_2
        try clear hcz16_0 hcz16_1 hcz16_2
        try clear hcz23_0 hcz23_1 hcz23_2
        try clear hcz24_0 hcz24_1 hcz24_2
        try clear hcz26_0 hcz26_1 hcz26_2
        try clear hcz27_0 hcz27_1 hcz27_2
        try clear hcz29_0 hcz29_1 hcz29_2
        try clear hcz35_0 hcz35_1 hcz35_2
        try clear hcz36_0 hcz36_1 hcz36_2
        try clear hcz38_0 hcz38_1 hcz38_2
        try clear hcz39_0 hcz39_1 hcz39_2
        try clear hcz41_0 hcz41_1 hcz41_2
        try clear hcz9_0 hcz9_1 hcz9_2
        try clear hfz10_0 hfz10_1 hfz10_2
        try clear hfz12_0 hfz12_1 hfz12_2
        try clear hfz13_0 hfz13_1 hfz13_2
        try clear hfz15_0 hfz15_1 hfz15_2
        try clear hfz16_0 hfz16_1 hfz16_2
        try clear hfz23_0 hfz23_1 hfz23_2
        try clear hfz24_0 hfz24_1 hfz24_2
        try clear hfz26_0 hfz26_1 hfz26_2
        try clear hfz27_0 hfz27_1 hfz27_2
        try clear hfz29_0 hfz29_1 hfz29_2
        try clear hfz35_0 hfz35_1 hfz35_2
        try clear hfz36_0 hfz36_1 hfz36_2
        try clear hfz38_0 hfz38_1 hfz38_2
        try clear hfz39_0 hfz39_1 hfz39_2
        try clear hfz41_0 hfz41_1 hfz41_2
        try clear hfz9_0 hfz9_1 hfz9_2
        try clear hx263_0
        try clear hx263_1
        try clear hx263_2
        try clear hx264_0
        try clear hx264_1
        try clear hx264_2
        try clear hx265_0
        try clear hx266_0
        try clear p2
        try clear p26
        try clear p263
        try clear p264
        try clear p265
        try clear p266
        try clear p6
        try clear q2
        try clear q26
        try clear q263
        try clear q264
        try clear q265
        try clear q266
        obtain ⟨x7_4, rfl, HA, HK4, BK261, BK262, HB⟩ := hrel
        cases gk with
        | zero => exact absurd HA.out (by simp [w_same.l2])
        | succ k4 =>
         have H := HA.out
         clear HA
         simp only [w_same.l2] at H
         by_cases c42 : x7_4 < (l0_2.length : Int)
         rotate_left
         ·rw [if_neg c42] at H
          have c42b0 := decide_eq_false c42
          clear c42
          obtain rfl := Option.some.inj H
          have hnb52 := NB261_262.out
          have hnc52 := NB262_261.out
          obtain ⟨⟨hcz53_0, hcz53_1, hcz53_2⟩, hfz53_0, hfz53_1, hfz53_2⟩ := blkAll3 BK261
          go_wp2
          repeat (go_quiet (fail); try go_wp2)
          go_ret
          exact ⟨er, bs⟩
         rw [if_pos c42] at H
         have c42b0 := decide_eq_true c42
         clear c42
         by_cases c43 : 0 ≤ x7_4
         rotate_left
         ·rw [if_neg c43] at H
          exact absurd H (by simp)
         rw [if_pos c43] at H
         have c43b0 := decide_eq_true c43
         clear c43
         by_cases c44 : x7_4 < (l1_2.length : Int)
         rotate_left
         ·rw [if_neg c44] at H
          exact absurd H (by simp)
         rw [if_pos c44] at H
         have c44b0 := decide_eq_true c44
         clear c44
         by_cases c45 : (rdOf ByteArray.empty l0_2 x7_4).toList = (rdOf ByteArray.empty l1_2 x7_4).toList
         rotate_left
         ·rw [if_neg c45] at H
          have c45b0 : ((rdOf ByteArray.empty l0_2 x7_4).toList == (rdOf ByteArray.empty l1_2 x7_4).toList) = false := beq_eq_false_iff_ne.mpr c45
          have c45b1 : ((rdOf ByteArray.empty l0_2 x7_4).toList != (rdOf ByteArray.empty l1_2 x7_4).toList) = true := bne_iff_ne.mpr c45
          obtain rfl := Option.some.inj H
          have hnb49 := NB261_262.out
          have hnc49 := NB262_261.out
          obtain ⟨⟨hcz50_0, hcz50_1, hcz50_2⟩, hfz50_0, hfz50_1, hfz50_2⟩ := blkAll3 BK261
          have p267 : 0 ≤ (x7_4 : Int) := of_decide_eq_true od
          have q267 : x7_4 < (l0_2.length : Int) := of_decide_eq_true od
          obtain ⟨ad267, e267, hx267_0⟩ := Kd.at_string HR0_2.out x7_4 p267 q267
          cases e267
          replace hx267_0 := (HB.out.cell (World.block_lt_of_cell? w _ hx267_0)).trans hx267_0
          replace p267 := eq_true p267
          replace q267 := eq_true q267
          obtain ⟨⟨hcz51_0, hcz51_1, hcz51_2⟩, hfz51_0, hfz51_1, hfz51_2⟩ := blkAll3 BK262
          have p268 : 0 ≤ (x7_4 : Int) := of_decide_eq_true od
          have q268 : x7_4 < (l1_2.length : Int) := of_decide_eq_true od
          obtain ⟨ad268, e268, hx268_0⟩ := Kd.at_string HR1_2.out x7_4 p268 q268
          cases e268
          replace hx268_0 := (HB.out.cell (World.block_lt_of_cell? w _ hx268_0)).trans hx268_0
          replace p268 := eq_true p268
          replace q268 := eq_true q268
          go_wp2
          repeat (go_quiet (fail); try go_wp2)
          go_ret
          exact ⟨er, bs⟩
         rw [if_pos c45] at H
         have c45b0 : ((rdOf ByteArray.empty l0_2 x7_4).toList == (rdOf ByteArray.empty l1_2 x7_4).toList) = true := beq_iff_eq.mpr c45
         have c45b1 : ((rdOf ByteArray.empty l0_2 x7_4).toList != (rdOf ByteArray.empty l1_2 x7_4).toList) = false := bne_eq_false_iff_eq.mpr c45
         clear c45
         have H' := am H
         clear H
         have hnb46 := NB261_262.out
         have hnc46 := NB262_261.out
         obtain ⟨⟨hcz47_0, hcz47_1, hcz47_2⟩, hfz47_0, hfz47_1, hfz47_2⟩ := blkAll3 BK261
         have p267 : 0 ≤ (x7_4 : Int) := of_decide_eq_true od
         have q267 : x7_4 < (l0_2.length : Int) := of_decide_eq_true od
         obtain ⟨ad267, e267, hx267_0⟩ := Kd.at_string HR0_2.out x7_4 p267 q267
         cases e267
         replace hx267_0 := (HB.out.cell (World.block_lt_of_cell? w _ hx267_0)).trans hx267_0
         replace p267 := eq_true p267
         replace q267 := eq_true q267
         obtain ⟨⟨hcz48_0, hcz48_1, hcz48_2⟩, hfz48_0, hfz48_1, hfz48_2⟩ := blkAll3 BK262
         have p268 : 0 ≤ (x7_4 : Int) := of_decide_eq_true od
         have q268 : x7_4 < (l1_2.length : Int) := of_decide_eq_true od
         obtain ⟨ad268, e268, hx268_0⟩ := Kd.at_string HR1_2.out x7_4 p268 q268
         cases e268
         replace hx268_0 := (HB.out.cell (World.block_lt_of_cell? w _ hx268_0)).trans hx268_0
         replace p268 := eq_true p268
         replace q268 := eq_true q268
         go_wp2
         repeat (go_quiet (fail); try go_wp2)
         go_roundg k4
         case measure => have := HJ2.out; have := HK2.out; have := HK3.out; have := HK4.out; omega
         case rel => exact ⟨(wrap64 (x7_4 + 1)), tv, H', ⟨by have := HJ2.out; have := HK2.out; have := HK3.out; have := HK4.out; omega⟩, ⟨by refine bu ?_; exact BK261.out⟩, ⟨by refine bu ?_; exact BK262.out⟩, ⟨bs⟩⟩
end Go.Proofs.YtdkejcadoepnnaaDoor.ECc
