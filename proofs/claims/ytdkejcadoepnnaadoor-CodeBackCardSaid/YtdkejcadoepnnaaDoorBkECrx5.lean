/-
 A text of this session's own.
-/
import Derived.Test.YtdkejcadoepnnaaDoorBkA0
import Derived.Test.YtdkejcadoepnnaaDoorBkECcx0
import Derived.Test.YtdkejcadoepnnaaDoorBkXItA
import Derived.Test.YtdkejcadoepnnaaDoorBkECrx4
set_option linter.unusedSimpArgs false
namespace Go.Proofs.YtdkejcadoepnnaaDoor.ECc
open Go.RowKit Go.Proofs.YtdkejcadoepnnaaDoorW.PrintWords Go.Proofs.YtdkejcadoepnnaaDoorW.PrintLast Go.Proofs.YtdkejcadoepnnaaDoorW.PrintMore
open Go.Proofs.YtdkejcadoepnnaaDoor.X
attribute [local go_sem] max2_int min2_int max_two min_two max_three min_three max_four min_four
set_option linter.unusedVariables false
mutual
def r_code.l0 : Nat → List Int → Int → List Int → Int → Option ((List (S41)) × List Int × List ByteArray × Int × Int × Int)
 | 0, _, _, _, _ => none
 | k + 1, x1, x11, x1000, x1001 => if x11 < 4 then ((r_byte.f x1000 x1001).bind fun bt107 => (if bt107.2.1 = 1 then (some (([] : List (S41)), ([] : List Int), ([] : List ByteArray), 1, bt107.2.2.1, bt107.2.2.2)) else (if 0 ≤ x11 then (if bt107.1 = (bt (⟨#[65, 66, 67, 49]⟩ : ByteArray) x11) then (r_code.l0 k x1 (wrap64 (x11 + 1)) x1000 bt107.2.2.2) else (some (([] : List (S41)), ([] : List Int), ([] : List ByteArray), 1, x11, bt107.2.2.2))) else (none)))) else ((r_number.f k x1000 x1001).bind fun bt112 => (if bt112.2.1 = 1 then (some (([] : List (S41)), ([] : List Int), ([] : List ByteArray), 1, bt112.2.2.1, bt112.2.2.2)) else (r_code.l1 k x1 bt112.1 0 x1000 bt112.2.2.2 ([] : List Int))))
def r_code.l1 : Nat → List Int → Int → Int → List Int → Int → List Int → Option ((List (S41)) × List Int × List ByteArray × Int × Int × Int)
 | 0, _, _, _, _, _, _ => none
 | k + 1, x1, x23, x24, x1000, x1001, x112001 => if x24 < x23 then (r_code.l2 k x1 0 x23 x24 0 x1000 x1001 x112001) else ((r_number.f k x1000 x1001).bind fun bt123 => (if bt123.2.1 = 1 then (some (([] : List (S41)), ([] : List Int), ([] : List ByteArray), 1, bt123.2.2.1, bt123.2.2.2)) else (r_code.l3 k x1 bt123.1 0 x1000 bt123.2.2.2 x112001 ([] : List ByteArray))))
def r_code.l2 : Nat → List Int → Int → Int → Int → Int → List Int → Int → List Int → Option ((List (S41)) × List Int × List ByteArray × Int × Int × Int)
 | 0, _, _, _, _, _, _, _, _ => none
 | k + 1, x1, x5, x23, x24, x26, x1000, x1001, x112001 => if x26 < 8 then ((r_byte.f x1000 x1001).bind fun bt116 => (if bt116.2.1 = 1 then (some (([] : List (S41)), ([] : List Int), ([] : List ByteArray), 1, bt116.2.2.1, bt116.2.2.2)) else (if 0 ≤ (wrap64 (8 * x26)) then (r_code.l2 k x1 (Go.bits .or .u64 x5 (shl .u64 (IntKind.u64.wrap (bt116.1)) (wrap64 (8 * x26)))) x23 x24 (wrap64 (x26 + 1)) x1000 bt116.2.2.2 x112001) else (none)))) else (if x112001.length < 17592186044416 then (r_code.l1 k x1 x23 (wrap64 (x24 + 1)) x1000 x1001 (x112001 ++ [x5])) else (none))
def r_code.l3 : Nat → List Int → Int → Int → List Int → Int → List Int → List ByteArray → Option ((List (S41)) × List Int × List ByteArray × Int × Int × Int)
 | 0, _, _, _, _, _, _, _ => none
 | k + 1, x1, x46, x47, x1000, x1001, x112001, x112002 => if x47 < x46 then ((r_number.f k x1000 x1001).bind fun bt127 => (if bt127.2.1 = 1 then (some (([] : List (S41)), ([] : List Int), ([] : List ByteArray), 1, bt127.2.2.1, bt127.2.2.2)) else (if bt127.1 > (wrap64 ((x1000.length : Int) - bt127.2.2.2)) then (some (([] : List (S41)), ([] : List Int), ([] : List ByteArray), 1, (x1000.length : Int), bt127.2.2.2)) else (if 0 ≤ bt127.2.2.2 then (if bt127.2.2.2 ≤ (wrap64 (bt127.2.2.2 + bt127.1)) then (if (wrap64 (bt127.2.2.2 + bt127.1)) ≤ (x1.length : Int) then (if x112002.length < 8796093022208 then (r_code.l3 k x1 x46 (wrap64 (x47 + 1)) x1000 (wrap64 (bt127.2.2.2 + bt127.1)) x112001 (x112002 ++ [strOfNums ((x1.take ((wrap64 (bt127.2.2.2 + bt127.1)) : Int).toNat).drop (bt127.2.2.2 : Int).toNat)])) else (none)) else (none)) else (none)) else (none))))) else ((r_number.f k x1000 x1001).bind fun bt136 => (if bt136.2.1 = 1 then (some (([] : List (S41)), ([] : List Int), ([] : List ByteArray), 1, bt136.2.2.1, bt136.2.2.2)) else (r_code.l4 k bt136.1 0 x1000 bt136.2.2.2 ([] : List (S41)) x112001 x112002)))
def r_code.l4 : Nat → Int → Int → List Int → Int → List (S41) → List Int → List ByteArray → Option ((List (S41)) × List Int × List ByteArray × Int × Int × Int)
 | 0, _, _, _, _, _, _, _ => none
 | k + 1, x101, x102, x1000, x1001, x112000, x112001, x112002 => if x102 < x101 then ((r_byte.f x1000 x1001).bind fun bt140 => (if bt140.2.1 = 1 then (some (([] : List (S41)), ([] : List Int), ([] : List ByteArray), 1, bt140.2.2.1, bt140.2.2.2)) else ((c_within.f (wrap64 (bt140.1)) 1 33).bind fun t145 => (if t145 = true then (if 0 ≤ (wrap64 (bt140.1)) then (if (wrap64 (bt140.1)) < (tabL.length : Int) then (if ((rd_T72 tabL (wrap64 (bt140.1))).f1) = 0 then (r_code.j5 k tabL x101 x102 x1000 bt140.2.2.2 x112000 x112001 x112002 (wrap64 (bt140.1)) 0 0) else ((r_number.f k x1000 bt140.2.2.2).bind fun bt147 => (if bt147.2.1 = 1 then (some (([] : List (S41)), ([] : List Int), ([] : List ByteArray), 1, bt147.2.2.1, bt147.2.2.2)) else (r_code.j5 k tabL x101 x102 x1000 bt147.2.2.2 x112000 x112001 x112002 (wrap64 (bt140.1)) bt147.1 0)))) else (none)) else (none)) else (some (([] : List (S41)), ([] : List Int), ([] : List ByteArray), 1, x1001, bt140.2.2.2)))))) else (if x1001 < (x1000.length : Int) then (some (([] : List (S41)), ([] : List Int), ([] : List ByteArray), 1, x1001, x1001)) else (some (x112000, x112001, x112002, 0, 0, x1001)))
def r_code.j5 : Nat → List (S72) → Int → Int → List Int → Int → List (S41) → List Int → List ByteArray → Int → Int → Int → Option ((List (S41)) × List Int × List ByteArray × Int × Int × Int)
 | 0, _, _, _, _, _, _, _, _, _, _, _ => none
 | k + 1, x8, x101, x102, x1000, x1001, x112000, x112001, x112002, x145000, x145001, x145002 => if 0 ≤ x145000 then (if x145000 < (x8.length : Int) then (if ((rd_T72 x8 x145000).f2) = 0 then (if x112000.length < 5864062014805 then (r_code.l4 k x101 (wrap64 (x102 + 1)) x1000 x1001 (x112000 ++ [(⟨x145000, x145001, x145002⟩ : S41)]) x112001 x112002) else (none)) else ((r_number.f k x1000 x1001).bind fun bt155 => (if bt155.2.1 = 1 then (some (([] : List (S41)), ([] : List Int), ([] : List ByteArray), 1, bt155.2.2.1, bt155.2.2.2)) else (if x112000.length < 5864062014805 then (r_code.l4 k x101 (wrap64 (x102 + 1)) x1000 bt155.2.2.2 (x112000 ++ [(⟨x145000, x145001, bt155.1⟩ : S41)]) x112001 x112002) else (none))))) else (none)) else (none)
end
def r_code.f (k : Nat) (s0_0 : List Int) (s0_1 : Int) (l1 : List Int) : Option ((List (S41)) × List Int × List ByteArray × Int × Int × Int) := r_code.l0 k l1 0 s0_0 s0_1
theorem s9 {p : Prop} (h : p := by repeat (first | (with_reducible first | exact HI0.out | apply IsS95.alloc | apply IsS95.drewN | apply IsS95.drew | apply IsS95.set_1 | refine IsS95.far ?_ NB0_106.out _ | refine IsS95.far ?_ NB0_111.out _ | refine IsS95.far ?_ NB0_135.out _ | refine IsS95.far ?_ NB0_144.out _) | exact HI0.out)) : p := h
theorem k9 {p : Prop} (h : p := by repeat (first | (with_reducible first | exact HK.out | apply KeepBut.set_ | apply keep_drewN | apply keep_drew | apply keep_alloc | refine keep_far ?_ GW106.out _ | refine keep_far ?_ GW111.out _ | refine keep_far ?_ GW135.out _ | refine keep_far ?_ GW144.out _) | exact HK.out)) : p := h
theorem b9 {p : Prop} (h : p := by repeat (first | (with_reducible first | exact HB.out | apply below_alloc | apply pw_below_drewN | apply below_drew1 | refine below_set ?_ (IsS95.ge HI0.out) | refine below_set ?_ GE106.out | refine below_set ?_ GE111.out | refine below_set ?_ GE135.out | refine below_set ?_ GE144.out) | exact HB.out)) : p := h
theorem nil9 {p : Prop} (h : p := by first | exact Kd.R_nil _ _ _ _ _ | exact Kd.N_nil _ _ _ _ _ | exact Kd.V_nil _ _ _ _ _ | exact Kd.Q_nil _ _ _ _ _ | exact Kd.S_nil _ _ _ _ _) : p := h
theorem conv_len {A : Option Addr} {n m c : Nat} {s : ByteArray} {W : World} (e : n = m) (h : (convert 34 9 (.slice A n c)).run Tryd.prog W = .ok (.string s) W) : (convert 34 9 (.slice A m c)).run Tryd.prog W = .ok (.string s) W := e ▸ h
theorem IsS95.moved {Ab : Option Addr} {cb : Nat} {w0 W : World} {g : Nat} {f0 : List Int} {f1 : Int} {W1 : World} {k : Nat} {pos : Int} (h : IsS95 Ab cb w0 W g f0 f1) (hi : It W k pos) (ho : ∀ j, j ≠ k → W1.heap[j]? = W.heap[j]?) : IsS95 Ab cb w0 W1 g f0 f1 := by
 obtain ⟨A0, c0, hb, hg, hr0⟩ := h
 exact ⟨A0, c0, It.moved hi hb ho, hg, hr0⟩
set_option maxHeartbeats 8000000 in
set_option maxRecDepth 100000 in
theorem r_code.calls (k : Nat) (g : Nat) (s0_0 : List Int) (s0_1 : Int) (Ab : Option Addr) (cb : Nat) (r1 : List (S41)) (r2 : List Int) (r3 : List ByteArray) (r4 : Int) (r5 : Int) (r6 : Int) (w0 w : World) (hI : IsS95 Ab cb w0 w g s0_0 s0_1) (hB : Below w0.heap.size w0 w) (hr1 : Kd.C (Kd.int .u8) w Ab s0_0.length s0_0) (hc1 : s0_0.length ≤ cb) (hf1 : ∀ ad, Ab = some ad → 0 < s0_0.length → ad.block ≠ g) (h : r_code.f k s0_0 s0_1 s0_0 = some (r1, r2, r3, r4, r5, r6)) :
  Calls Tryd.prog 42 #[.pointer (some ⟨g, 0, none⟩)] w fun e w' => ∃ v0_ v1_ v2_ : Value, Out (.agg #[v0_, v1_, v2_]) r4 r5 e ∧ Kd.R k41 41 w' w.heap.size (fun _ => True) v0_ r1 ∧ Kd.R (Kd.int .u64) 66 w' w.heap.size (fun _ => True) v1_ r2 ∧ Kd.R Kd.string 9 w' w.heap.size (fun _ => True) v2_ r3 ∧ IsS95 Ab cb w0 w' g s0_0 r6 ∧ Below w0.heap.size w0 w' ∧ KeepBut w w' g none := by
 have hu26 := Tryd.underlying26
 have hu7 := Tryd.underlying7
 have hu41 := Tryd.underlying41
 have HR1 := am hr1
 have HC1 := am hc1
 clear hr1 hc1
 have HI0 := am hI
 have HK := am (KeepBut.refl w g none)
 have HL := am hB.size
 clear hI
 have HW0 := am hB.size
 have HB := am hB
 clear hB
 have H : (r_code.l0 k s0_0 0 s0_0 s0_1) = some (r1, r2, r3, r4, r5, r6) := h
 clear h
 have H' := am H
 clear H
 go_enter Tryd.func42, Tryd.ntmps42
 go_wp2_with (first | ((with_reducible refine gate_dst (N := 11) rfl ?_); refine It.new rfl (N := 11) rfl rfl Tryd.underlying9 rfl ?_; intro git wit hit hb hgi; have n0_ := am hit; have n1_ := am (blk_below BK106.out hb); have n2_ := am (IsS95.below HI0.out hb); have n3_ := am (KeepBut.trans HK.out (KeepBut.of_below hb g none) (.inl rfl)); have n4_ := am (below_step HB.out hb); have n5_ := am (show w.heap.size ≤ git from by rw [hgi]; exact keep_size HK.out); have n6_ := am (show g ≠ git from by rw [hgi]; exact Nat.ne_of_lt (IsS95.lt HI0.out)); have n7_ := am (show w0.heap.size ≤ git from by rw [hgi]; exact Nat.le_trans HW0.out (keep_size HK.out)); clear BK106 HI0 HK HB; have HIT := n0_; have BK106 := n1_; have HI0 := n2_; have HK := n3_; have HB := n4_; have HGI := n5_; have NGI := n6_; have HG0 := n7_; clear n0_ n1_ n2_ n3_ n4_ n5_ n6_ n7_ hit hb hgi) | ((with_reducible refine gate_dst (N := 2) rfl ?_); refine box_event ?hg (N := 2) ?hd (cs := #[.slice none 0 0, .slice none 0 0, .slice none 0 0]) (t := 26) ?hr ?_; (case hd => rfl); (case hg => rfl); (case hr => first | (go_simp; done) | (go_simp; rfl)); intro gb106 hg w3 hbox hb; have n0_ := am (IsS95.below s9 hb); have n1_ := am (KeepBut.trans k9 (KeepBut.of_below hb g none) (.inl rfl)); have n2_ := am (below_step b9 hb); have n3_ := am (hbox); have n4_ := am ((by rw [hg]; exact (keep_size (w := w) (g := g) (row := none) k9) : w.heap.size ≤ gb106)); have n5_ := am ((Nat.le_trans HW0.out (by rw [hg]; exact (keep_size (w := w) (g := g) (row := none) k9) : w.heap.size ≤ gb106) : w0.heap.size ≤ gb106)); have n6_ := am ((by rw [hg]; exact Nat.ne_of_lt (IsS95.lt (show IsS95 Ab cb w0 _ g s0_0 s0_1 from s9)) : g ≠ gb106)); have n7_ := am ((by rw [hg]; exact Nat.ne_of_gt (IsS95.lt (show IsS95 Ab cb w0 _ g s0_0 s0_1 from s9)) : gb106 ≠ g)); clear HI0; clear HK; clear HB; have HI0 := n0_; have HK := n1_; have HB := n2_; have BK106 := n3_; have GW106 := n4_; have GE106 := n5_; have NB0_106 := n6_; have NB106_0 := n7_; clear n0_ n1_ n2_ n3_ n4_ n5_ n6_ n7_; clear hb hbox hg))
 simp only [Act.put, List.setIfInBounds_toArray, List.set_cons_zero, List.set_cons_succ, i64_w, i32_w]
 go_loopg [] k (fun kq w' => ∃ (x11_1 : Int) (x1001_1 : Int), Aside0 (r_code.l0 kq s0_0 x11_1 s0_0 x1001_1 = some (r1, r2, r3, r4, r5, r6)) ∧ Aside0 (kq ≤ k) ∧ Aside0 (w'.heap[gb106]? = some (.cells #[(.slice none 0 0), (.slice none 0 0), (.slice none 0 0)] 26 (0, 0))) ∧ Aside0 (IsS95 Ab cb w0 w' g s0_0 x1001_1) ∧ Aside0 (KeepBut w w' g none) ∧ Aside0 (It w' git x11_1) ∧ Aside0 (Below w0.heap.size w0 w'))
 case atStart => exact ⟨(0), (s0_1), H', ⟨Nat.le_refl _⟩, ⟨by refine bu ?_; exact BK106.out⟩, ⟨s9⟩, ⟨k9⟩, ⟨HIT.out⟩, ⟨b9⟩⟩
 case round =>
  clear H'
  try clear c1
  try clear p2
  obtain ⟨x11_1, x1001_1, HA, HK1, BK106, HI0, HK, HIT, HB⟩ := hrel
  have hge_ : decide (0 ≤ x11_1) = true := decide_eq_true (It.ge HIT.out)
  cases gk with
  | zero => exact absurd HA.out (by simp [r_code.l0])
  | succ k1 =>
   have H := HA.out
   clear HA
   simp only [r_code.l0] at H
   by_cases c4 : x11_1 < 4
   ·rw [if_pos c4] at H
    have c4b0 := decide_eq_true c4
    clear c4
    replace H := Option.bind_eq_some_iff.mp H
    obtain ⟨⟨t107, t108, t109, t110⟩, A50, H⟩ := H
    replace H : (if t108 = 1 then (some (([] : List (S41)), ([] : List Int), ([] : List ByteArray), 1, t109, t110)) else (if 0 ≤ x11_1 then (if t107 = (bt (⟨#[65, 66, 67, 49]⟩ : ByteArray) x11_1) then (r_code.l0 k1 s0_0 (wrap64 (x11_1 + 1)) s0_0 t110) else (some (([] : List (S41)), ([] : List Int), ([] : List ByteArray), 1, x11_1, t110))) else (none))) = some (r1, r2, r3, r4, r5, r6) := H
    have A5 := am A50
    clear A50
    by_cases c6 : t108 = 1
    ·rw [if_pos c6] at H
     have c6b0 : (t108 == 1) = true := beq_iff_eq.mpr c6
     have c6b1 : (t108 != 1) = false := bne_eq_false_iff_eq.mpr c6
     clear c6
     simp only [Option.some.injEq, Prod.mk.injEq] at H
     obtain ⟨rfl, rfl, rfl, rfl, rfl, rfl⟩ := H
     go_upto_region 4 with (first | ((with_reducible refine gate_dst (N := 12) rfl ?_); refine It.next HIT.out (of_decide_eq_true c4b0) rfl (N := 12) rfl rfl rfl ?_; intro cit witn hit hoth hb; have n0_ := am hit; have n1_ := am (It.moved HIT.out BK106.out hoth); have n2_ := am (It.keep HK.out HGI.out hoth hb); have n3_ := am (It.step HB.out HG0.out hb); have n4_ := am (IsS95.moved HI0.out HIT.out hoth); clear HIT BK106 HK HB HI0; have HIT := n0_; have BK106 := n1_; have HK := n2_; have HB := n3_; have HI0 := n4_; clear n0_ n1_ n2_ n3_ n4_ hit hoth hb))
     have hx9_ := bt_at (⟨#[65, 66, 67, 49]⟩ : ByteArray) x11_1
     have p9_ : (0 ≤ x11_1) = True := eq_true (of_decide_eq_true hge_)
     have q9_ : (x11_1 < 4) = True := eq_true (of_decide_eq_true c4b0)
     refine start_ (n := 5) (S := fun w' => True) (ds := []) #[false, false, false, false, false] (by kernel_rfl) rfl rfl trivial (fun hHeld => ?_)
     refine pure_ (i := 0) (N := some 15) (v := ?_) (a' := ?_) #[true, false, false, false, false] rfl rfl (by kernel_rfl) (fun _ _ _ h => h) (Or.inl ⟨by rfl, ?_⟩) ?_ ?_
     rotate_left
     ·intro w'
      go_simp
      with_reducible rfl
     rotate_left
     ·simp only [Act.put, List.setIfInBounds_toArray, List.set_cons_zero, List.set_cons_succ, i64_w, i32_w]
      rfl
     refine pure_ (i := 2) (N := some 17) (v := ?_) (a' := ?_) #[true, false, true, false, false] rfl rfl (by kernel_rfl) (fun _ _ _ h => h) (Or.inl ⟨by rfl, ?_⟩) ?_ ?_
     rotate_left
     ·intro w'
      go_simp
      with_reducible rfl
     rotate_left
     ·simp only [Act.put, List.setIfInBounds_toArray, List.set_cons_zero, List.set_cons_succ, i64_w, i32_w]
      rfl
     refine take_ (i := 3) (N := some 18) (v := ?_) (a' := ?_) #[true, false, true, true, false] rfl rfl (by kernel_rfl) (fun _ _ _ h => h) (Or.inl ⟨by rfl, ?_⟩) hHeld ?_ ?_
     rotate_left
     ·intro w' _
      go_simp
      with_reducible rfl
     rotate_left
     ·simp only [Act.put, List.setIfInBounds_toArray, List.set_cons_zero, List.set_cons_succ, i64_w, i32_w]
      rfl
     refine one_ (i := 1) (N := some 16) #[true, true, true, true, false] rfl rfl (by kernel_rfl) (by decide) (fun K hK => ?_)
     refine goesS_ Tryd.func62 (by kernel_rfl) rfl #[.pointer (some ⟨g, 0, none⟩)] (by rfl) rfl rfl (by simp only [List.map_toArray, List.map_cons, List.map_nil]; rfl) ?_
     with_reducible refine (r_byte.calls (Ab := Ab) (cb := cb) g s0_0 x1001_1 t107 t108 t109 t110 w0 _ (by repeat (first | (with_reducible first | exact HI0.out | apply IsS95.drewN | apply IsS95.drew) | exact HI0.out)) (by repeat (first | (with_reducible first | exact HB.out | apply pw_below_drewN | apply below_drew1) | exact HB.out)) A5.out).mono ?_
     rintro e w7 ⟨ho, hi, hb, hk⟩
     rcases ho with ⟨hm_, rfl⟩ | ⟨hm_, rfl⟩
     ·exact absurd hm_ (mk0 c6b0)
     refine .inr ⟨_, rfl, ?_⟩
     have n0_ := am (KeepBut.blk hk (blk_drew BK106.out) NB106_0.out (by simp))
     have n1_ := am (KeepBut.trans (keep_drew HK.out) hk (.inl rfl))
     have n2_ := am (It.kept (It.drew HIT.out) hk (Ne.symm NGI.out))
     clear BK106 HK HB HI0 HIT
     have BK106 := n0_
     have HK := n1_
     have HIT := n2_
     have HB := am hb
     have HI0 := am hi
     clear n0_ n1_ n2_ hb hk hi
     refine ⟨rfl, ?_⟩
     exact ⟨_, _, _, .inr ⟨rfl, rfl⟩, nil9, nil9, nil9, s9, b9, k9⟩
    rw [if_neg c6] at H
    have c6b0 : (t108 == 1) = false := beq_eq_false_iff_ne.mpr c6
    have c6b1 : (t108 != 1) = true := bne_iff_ne.mpr c6
    by_cases c8 : 0 ≤ x11_1
    rotate_left
    ·rw [if_neg c8] at H
     exact absurd H (by simp)
    rw [if_pos c8] at H
    have c8b0 := decide_eq_true c8
    clear c8
    by_cases c10 : t107 = (bt (⟨#[65, 66, 67, 49]⟩ : ByteArray) x11_1)
    rotate_left
    ·rw [if_neg c10] at H
     have c10b0 : (t107 == (bt (⟨#[65, 66, 67, 49]⟩ : ByteArray) x11_1)) = false := beq_eq_false_iff_ne.mpr c10
     have c10b1 : (t107 != (bt (⟨#[65, 66, 67, 49]⟩ : ByteArray) x11_1)) = true := bne_iff_ne.mpr c10
     simp only [Option.some.injEq, Prod.mk.injEq] at H
     obtain ⟨rfl, rfl, rfl, rfl, rfl, rfl⟩ := H
     go_upto_region 4 with (first | ((with_reducible refine gate_dst (N := 12) rfl ?_); refine It.next HIT.out (of_decide_eq_true c4b0) rfl (N := 12) rfl rfl rfl ?_; intro cit witn hit hoth hb; have n0_ := am hit; have n1_ := am (It.moved HIT.out BK106.out hoth); have n2_ := am (It.keep HK.out HGI.out hoth hb); have n3_ := am (It.step HB.out HG0.out hb); have n4_ := am (IsS95.moved HI0.out HIT.out hoth); clear HIT BK106 HK HB HI0; have HIT := n0_; have BK106 := n1_; have HK := n2_; have HB := n3_; have HI0 := n4_; clear n0_ n1_ n2_ n3_ n4_ hit hoth hb))
     have hx9_ := bt_at (⟨#[65, 66, 67, 49]⟩ : ByteArray) x11_1
     have p9_ : (0 ≤ x11_1) = True := eq_true (of_decide_eq_true hge_)
     have q9_ : (x11_1 < 4) = True := eq_true (of_decide_eq_true c4b0)
     refine start_ (n := 5) (S := fun w' => True) (ds := []) #[false, false, false, false, false] (by kernel_rfl) rfl rfl trivial (fun hHeld => ?_)
     refine pure_ (i := 0) (N := some 15) (v := ?_) (a' := ?_) #[true, false, false, false, false] rfl rfl (by kernel_rfl) (fun _ _ _ h => h) (Or.inl ⟨by rfl, ?_⟩) ?_ ?_
     rotate_left
     ·intro w'
      go_simp
      with_reducible rfl
     rotate_left
     ·simp only [Act.put, List.setIfInBounds_toArray, List.set_cons_zero, List.set_cons_succ, i64_w, i32_w]
      rfl
     refine pure_ (i := 2) (N := some 17) (v := ?_) (a' := ?_) #[true, false, true, false, false] rfl rfl (by kernel_rfl) (fun _ _ _ h => h) (Or.inl ⟨by rfl, ?_⟩) ?_ ?_
     rotate_left
     ·intro w'
      go_simp
      with_reducible rfl
     rotate_left
     ·simp only [Act.put, List.setIfInBounds_toArray, List.set_cons_zero, List.set_cons_succ, i64_w, i32_w]
      rfl
     refine take_ (i := 3) (N := some 18) (v := ?_) (a' := ?_) #[true, false, true, true, false] rfl rfl (by kernel_rfl) (fun _ _ _ h => h) (Or.inl ⟨by rfl, ?_⟩) hHeld ?_ ?_
     rotate_left
     ·intro w' _
      go_simp
      with_reducible rfl
     rotate_left
     ·simp only [Act.put, List.setIfInBounds_toArray, List.set_cons_zero, List.set_cons_succ, i64_w, i32_w]
      rfl
     refine one_ (i := 1) (N := some 16) #[true, true, true, true, false] rfl rfl (by kernel_rfl) (by decide) (fun K hK => ?_)
     refine goesS_ Tryd.func62 (by kernel_rfl) rfl #[.pointer (some ⟨g, 0, none⟩)] (by rfl) rfl rfl (by simp only [List.map_toArray, List.map_cons, List.map_nil]; rfl) ?_
     with_reducible refine (r_byte.calls (Ab := Ab) (cb := cb) g s0_0 x1001_1 t107 t108 t109 t110 w0 _ (by repeat (first | (with_reducible first | exact HI0.out | apply IsS95.drewN | apply IsS95.drew) | exact HI0.out)) (by repeat (first | (with_reducible first | exact HB.out | apply pw_below_drewN | apply below_drew1) | exact HB.out)) A5.out).mono ?_
     rintro e w7 ⟨ho, hi, hb, hk⟩
     rcases ho with ⟨hm_, rfl⟩ | ⟨hm_, rfl⟩
     rotate_left
     ·exact absurd hm_ (mk1 c6b0)
     refine .inl ⟨_, rfl, ?_⟩
     have n0_ := am (KeepBut.blk hk (blk_drew BK106.out) NB106_0.out (by simp))
     have n1_ := am (KeepBut.trans (keep_drew HK.out) hk (.inl rfl))
     have n2_ := am (It.kept (It.drew HIT.out) hk (Ne.symm NGI.out))
     clear BK106 HK HB HI0 HIT
     have BK106 := n0_
     have HK := n1_
     have HIT := n2_
     have HB := am hb
     have HI0 := am hi
     clear n0_ n1_ n2_ hb hk hi
     refine hK.out _ _ trivial (fun hHeld => ?_)
     clear hK K
     refine norm_ (a' := ?_) ?_ ?_
     rotate_left
     ·show Act.put _ (some 16) _ = _
      simp only [Act.put, List.setIfInBounds_toArray, List.set_cons_zero, List.set_cons_succ, i64_w, i32_w]
      rfl
     refine pure_ (i := 4) (N := some 19) (v := ?_) (a' := ?_) #[true, true, true, true, true] rfl rfl (by kernel_rfl) (fun _ _ _ h => h) (Or.inl ⟨by rfl, ?_⟩) ?_ ?_
     rotate_left
     ·intro w'
      go_simp
      with_reducible rfl
     rotate_left
     ·simp only [Act.put, List.setIfInBounds_toArray, List.set_cons_zero, List.set_cons_succ, i64_w, i32_w]
      rfl
     refine done_ (by kernel_rfl) ?_
     go_wp2
     repeat (go_quiet (fail); try go_wp2)
     refine ⟨rfl, ?_⟩
     exact ⟨_, _, _, .inr ⟨rfl, rfl⟩, nil9, nil9, nil9, s9, b9, k9⟩
    rw [if_pos c10] at H
    have c10b0 : (t107 == (bt (⟨#[65, 66, 67, 49]⟩ : ByteArray) x11_1)) = true := beq_iff_eq.mpr c10
    have c10b1 : (t107 != (bt (⟨#[65, 66, 67, 49]⟩ : ByteArray) x11_1)) = false := bne_eq_false_iff_eq.mpr c10
    clear c10
    have H' := am H
    clear H
    go_upto_region 4 with (first | ((with_reducible refine gate_dst (N := 12) rfl ?_); refine It.next HIT.out (of_decide_eq_true c4b0) rfl (N := 12) rfl rfl rfl ?_; intro cit witn hit hoth hb; have n0_ := am hit; have n1_ := am (It.moved HIT.out BK106.out hoth); have n2_ := am (It.keep HK.out HGI.out hoth hb); have n3_ := am (It.step HB.out HG0.out hb); have n4_ := am (IsS95.moved HI0.out HIT.out hoth); clear HIT BK106 HK HB HI0; have HIT := n0_; have BK106 := n1_; have HK := n2_; have HB := n3_; have HI0 := n4_; clear n0_ n1_ n2_ n3_ n4_ hit hoth hb))
    have hx9_ := bt_at (⟨#[65, 66, 67, 49]⟩ : ByteArray) x11_1
    have p9_ : (0 ≤ x11_1) = True := eq_true (of_decide_eq_true hge_)
    have q9_ : (x11_1 < 4) = True := eq_true (of_decide_eq_true c4b0)
    refine start_ (n := 5) (S := fun w' => True) (ds := []) #[false, false, false, false, false] (by kernel_rfl) rfl rfl trivial (fun hHeld => ?_)
    refine pure_ (i := 0) (N := some 15) (v := ?_) (a' := ?_) #[true, false, false, false, false] rfl rfl (by kernel_rfl) (fun _ _ _ h => h) (Or.inl ⟨by rfl, ?_⟩) ?_ ?_
    rotate_left
    ·intro w'
     go_simp
     with_reducible rfl
    rotate_left
    ·simp only [Act.put, List.setIfInBounds_toArray, List.set_cons_zero, List.set_cons_succ, i64_w, i32_w]
     rfl
    refine pure_ (i := 2) (N := some 17) (v := ?_) (a' := ?_) #[true, false, true, false, false] rfl rfl (by kernel_rfl) (fun _ _ _ h => h) (Or.inl ⟨by rfl, ?_⟩) ?_ ?_
    rotate_left
    ·intro w'
     go_simp
     with_reducible rfl
    rotate_left
    ·simp only [Act.put, List.setIfInBounds_toArray, List.set_cons_zero, List.set_cons_succ, i64_w, i32_w]
     rfl
    refine take_ (i := 3) (N := some 18) (v := ?_) (a' := ?_) #[true, false, true, true, false] rfl rfl (by kernel_rfl) (fun _ _ _ h => h) (Or.inl ⟨by rfl, ?_⟩) hHeld ?_ ?_
    rotate_left
    ·intro w' _
     go_simp
     with_reducible rfl
    rotate_left
    ·simp only [Act.put, List.setIfInBounds_toArray, List.set_cons_zero, List.set_cons_succ, i64_w, i32_w]
     rfl
    refine one_ (i := 1) (N := some 16) #[true, true, true, true, false] rfl rfl (by kernel_rfl) (by decide) (fun K hK => ?_)
    refine goesS_ Tryd.func62 (by kernel_rfl) rfl #[.pointer (some ⟨g, 0, none⟩)] (by rfl) rfl rfl (by simp only [List.map_toArray, List.map_cons, List.map_nil]; rfl) ?_
    with_reducible refine (r_byte.calls (Ab := Ab) (cb := cb) g s0_0 x1001_1 t107 t108 t109 t110 w0 _ (by repeat (first | (with_reducible first | exact HI0.out | apply IsS95.drewN | apply IsS95.drew) | exact HI0.out)) (by repeat (first | (with_reducible first | exact HB.out | apply pw_below_drewN | apply below_drew1) | exact HB.out)) A5.out).mono ?_
    rintro e w7 ⟨ho, hi, hb, hk⟩
    rcases ho with ⟨hm_, rfl⟩ | ⟨hm_, rfl⟩
    rotate_left
    ·exact absurd hm_ (mk1 c6b0)
    refine .inl ⟨_, rfl, ?_⟩
    have n0_ := am (KeepBut.blk hk (blk_drew BK106.out) NB106_0.out (by simp))
    have n1_ := am (KeepBut.trans (keep_drew HK.out) hk (.inl rfl))
    have n2_ := am (It.kept (It.drew HIT.out) hk (Ne.symm NGI.out))
    clear BK106 HK HB HI0 HIT
    have BK106 := n0_
    have HK := n1_
    have HIT := n2_
    have HB := am hb
    have HI0 := am hi
    clear n0_ n1_ n2_ hb hk hi
    refine hK.out _ _ trivial (fun hHeld => ?_)
    clear hK K
    refine norm_ (a' := ?_) ?_ ?_
    rotate_left
    ·show Act.put _ (some 16) _ = _
     simp only [Act.put, List.setIfInBounds_toArray, List.set_cons_zero, List.set_cons_succ, i64_w, i32_w]
     rfl
    refine pure_ (i := 4) (N := some 19) (v := ?_) (a' := ?_) #[true, true, true, true, true] rfl rfl (by kernel_rfl) (fun _ _ _ h => h) (Or.inl ⟨by rfl, ?_⟩) ?_ ?_
    rotate_left
    ·intro w'
     go_simp
     with_reducible rfl
    rotate_left
    ·simp only [Act.put, List.setIfInBounds_toArray, List.set_cons_zero, List.set_cons_succ, i64_w, i32_w]
     rfl
    refine done_ (by kernel_rfl) ?_
    go_wp2
    repeat (go_quiet (fail); try go_wp2)
    go_roundg k1
    case measure => have := HK1.out; omega
    case rel => exact ⟨(wrap64 (x11_1 + 1)), (t110), H', ⟨by have := HK1.out; omega⟩, ⟨by refine bu ?_; exact BK106.out⟩, ⟨s9⟩, ⟨k9⟩, ⟨HIT.out⟩, ⟨b9⟩⟩
   rw [if_neg c4] at H
   have c4b0 := decide_eq_false c4
   clear c4
   replace H := Option.bind_eq_some_iff.mp H
   obtain ⟨⟨t112, t113, t114, t115⟩, A130, H⟩ := H
   replace H : (if t113 = 1 then (some (([] : List (S41)), ([] : List Int), ([] : List ByteArray), 1, t114, t115)) else (r_code.l1 k1 s0_0 t112 0 s0_0 t115 ([] : List Int))) = some (r1, r2, r3, r4, r5, r6) := H
   have A13 := am A130
   clear A130
   by_cases c14 : t113 = 1
   ·rw [if_pos c14] at H
    have c14b0 : (t113 == 1) = true := beq_iff_eq.mpr c14
    have c14b1 : (t113 != 1) = false := bne_eq_false_iff_eq.mpr c14
    clear c14
    simp only [Option.some.injEq, Prod.mk.injEq] at H
    obtain ⟨rfl, rfl, rfl, rfl, rfl, rfl⟩ := H
    go_wp2_with (first | ((with_reducible refine gate_dst (N := 12) rfl ?_); refine It.done HIT.out (of_decide_eq_false c4b0) rfl (N := 12) rfl rfl rfl ?_) | ((with_reducible refine gate_dst (N := 4) rfl ?_); refine box_event ?hg (N := 4) ?hd (cs := #[.slice none 0 0, .slice none 0 0, .slice none 0 0]) (t := 26) ?hr ?_; (case hd => rfl); (case hg => rfl); (case hr => first | (go_simp; done) | (go_simp; rfl)); intro gb111 hg w15 hbox hb; have n0_ := am (blk_below (bu BK106.out) hb); have n1_ := am (IsS95.below s9 hb); have n2_ := am (KeepBut.trans k9 (KeepBut.of_below hb g none) (.inl rfl)); have n3_ := am (below_step b9 hb); have n4_ := am (hbox); have n5_ := am ((by rw [hg]; exact (keep_size (w := w) (g := g) (row := none) k9) : w.heap.size ≤ gb111)); have n6_ := am ((Nat.le_trans HW0.out (by rw [hg]; exact (keep_size (w := w) (g := g) (row := none) k9) : w.heap.size ≤ gb111) : w0.heap.size ≤ gb111)); have n7_ := am ((by rw [hg]; exact Nat.ne_of_lt (blk_lt (bu BK106.out)) : gb106 ≠ gb111)); have n8_ := am ((by rw [hg]; exact Nat.ne_of_gt (blk_lt (bu BK106.out)) : gb111 ≠ gb106)); have n9_ := am ((by rw [hg]; exact Nat.ne_of_lt (IsS95.lt (show IsS95 Ab cb w0 _ g s0_0 x1001_1 from s9)) : g ≠ gb111)); have n10_ := am ((by rw [hg]; exact Nat.ne_of_gt (IsS95.lt (show IsS95 Ab cb w0 _ g s0_0 x1001_1 from s9)) : gb111 ≠ g)); clear BK106; clear HI0; clear HK; clear HB; have BK106 := n0_; have HI0 := n1_; have HK := n2_; have HB := n3_; have BK111 := n4_; have GW111 := n5_; have GE111 := n6_; have NB106_111 := n7_; have NB111_106 := n8_; have NB0_111 := n9_; have NB111_0 := n10_; clear n0_ n1_ n2_ n3_ n4_ n5_ n6_ n7_ n8_ n9_ n10_; clear hb hbox hg) | (go_at_call 63; (with_reducible refine (r_number.calls (Ab := Ab) (cb := cb) k1 g s0_0 x1001_1 t112 t113 t114 t115 w0 _ ?side1 ?side2 A13.out).mono ?_); (case side1 => exact s9); (case side2 => exact b9); rintro e w16 ⟨ho, hi, hb, hk⟩; rcases ho with ⟨hm_, rfl⟩ | ⟨hm_, rfl⟩; (all_goals (first | exact absurd hm_ (mk0 (by assumption)) | exact absurd hm_ (mk1 (by assumption)) | skip)); have n0_ := am (KeepBut.blk hk (g' := gb106) (o := .cells #[.slice none 0 0, .slice none 0 0, .slice none 0 0] 26 (0, 0)) (bu BK106.out) NB106_0.out (by simp)); have n1_ := am (KeepBut.blk hk (g' := gb111) (o := .cells #[.slice none 0 0, .slice none 0 0, .slice none 0 0] 26 (0, 0)) (bu BK111.out) NB111_0.out (by simp)); have n2_ := am (KeepBut.trans k9 hk (.inl rfl)); have n3_ := am (hb); have n4_ := am (hi); clear BK106; clear BK111; clear HK; clear HB; clear HI0; have BK106 := n0_; have BK111 := n1_; have HK := n2_; have HB := n3_; have HI0 := n4_; clear n0_ n1_ n2_ n3_ n4_; (try clear hb); (try clear hb2); (try clear hk); (try clear hi)))
    repeat (go_quiet (fail); try go_wp2)
    refine ⟨rfl, ?_⟩
    exact ⟨_, _, _, .inr ⟨rfl, rfl⟩, nil9, nil9, nil9, s9, b9, k9⟩
   rw [if_neg c14] at H
   have c14b0 : (t113 == 1) = false := beq_eq_false_iff_ne.mpr c14
   have c14b1 : (t113 != 1) = true := bne_iff_ne.mpr c14
   have H' := am H
   clear H
   go_wp2_with (first | ((with_reducible refine gate_dst (N := 12) rfl ?_); refine It.done HIT.out (of_decide_eq_false c4b0) rfl (N := 12) rfl rfl rfl ?_) | ((with_reducible refine gate_dst (N := 4) rfl ?_); refine box_event ?hg (N := 4) ?hd (cs := #[.slice none 0 0, .slice none 0 0, .slice none 0 0]) (t := 26) ?hr ?_; (case hd => rfl); (case hg => rfl); (case hr => first | (go_simp; done) | (go_simp; rfl)); intro gb111 hg w17 hbox hb; have n0_ := am (blk_below (bu BK106.out) hb); have n1_ := am (IsS95.below s9 hb); have n2_ := am (KeepBut.trans k9 (KeepBut.of_below hb g none) (.inl rfl)); have n3_ := am (below_step b9 hb); have n4_ := am (hbox); have n5_ := am ((by rw [hg]; exact (keep_size (w := w) (g := g) (row := none) k9) : w.heap.size ≤ gb111)); have n6_ := am ((Nat.le_trans HW0.out (by rw [hg]; exact (keep_size (w := w) (g := g) (row := none) k9) : w.heap.size ≤ gb111) : w0.heap.size ≤ gb111)); have n7_ := am ((by rw [hg]; exact Nat.ne_of_lt (blk_lt (bu BK106.out)) : gb106 ≠ gb111)); have n8_ := am ((by rw [hg]; exact Nat.ne_of_gt (blk_lt (bu BK106.out)) : gb111 ≠ gb106)); have n9_ := am ((by rw [hg]; exact Nat.ne_of_lt (IsS95.lt (show IsS95 Ab cb w0 _ g s0_0 x1001_1 from s9)) : g ≠ gb111)); have n10_ := am ((by rw [hg]; exact Nat.ne_of_gt (IsS95.lt (show IsS95 Ab cb w0 _ g s0_0 x1001_1 from s9)) : gb111 ≠ g)); clear BK106; clear HI0; clear HK; clear HB; have BK106 := n0_; have HI0 := n1_; have HK := n2_; have HB := n3_; have BK111 := n4_; have GW111 := n5_; have GE111 := n6_; have NB106_111 := n7_; have NB111_106 := n8_; have NB0_111 := n9_; have NB111_0 := n10_; clear n0_ n1_ n2_ n3_ n4_ n5_ n6_ n7_ n8_ n9_ n10_; clear hb hbox hg) | (go_at_call 63; (with_reducible refine (r_number.calls (Ab := Ab) (cb := cb) k1 g s0_0 x1001_1 t112 t113 t114 t115 w0 _ ?side1 ?side2 A13.out).mono ?_); (case side1 => exact s9); (case side2 => exact b9); rintro e w18 ⟨ho, hi, hb, hk⟩; rcases ho with ⟨hm_, rfl⟩ | ⟨hm_, rfl⟩; (all_goals (first | exact absurd hm_ (mk0 (by assumption)) | exact absurd hm_ (mk1 (by assumption)) | skip)); have n0_ := am (KeepBut.blk hk (g' := gb106) (o := .cells #[.slice none 0 0, .slice none 0 0, .slice none 0 0] 26 (0, 0)) (bu BK106.out) NB106_0.out (by simp)); have n1_ := am (KeepBut.blk hk (g' := gb111) (o := .cells #[.slice none 0 0, .slice none 0 0, .slice none 0 0] 26 (0, 0)) (bu BK111.out) NB111_0.out (by simp)); have n2_ := am (KeepBut.trans k9 hk (.inl rfl)); have n3_ := am (hb); have n4_ := am (hi); clear BK106; clear BK111; clear HK; clear HB; clear HI0; have BK106 := n0_; have BK111 := n1_; have HK := n2_; have HB := n3_; have HI0 := n4_; clear n0_ n1_ n2_ n3_ n4_; (try clear hb); (try clear hb2); (try clear hk); (try clear hi)))
   repeat (go_quiet (fail); try go_wp2)
   go_loopg [24] k1 (fun kq v24 w' => ∃ (x24_2 : Int) (x1001_2 : Int) (x112001_2 : List Int) (u112001 : Value), v24 = .int .i64 x24_2 ∧ Aside0 (r_code.l1 kq s0_0 t112 x24_2 s0_0 x1001_2 x112001_2 = some (r1, r2, r3, r4, r5, r6)) ∧ Aside0 (kq ≤ k1) ∧ Aside0 (Kd.R (Kd.int .u64) 66 w' w.heap.size (fun _ => True) u112001 x112001_2) ∧ Aside0 (w'.heap[gb106]? = some (.cells #[(.slice none 0 0), (.slice none 0 0), (.slice none 0 0)] 26 (0, 0))) ∧ Aside0 (w'.heap[gb111]? = some (.cells #[(.slice none 0 0), u112001, (.slice none 0 0)] 26 (0, 0))) ∧ Aside0 (IsS95 Ab cb w0 w' g s0_0 x1001_2) ∧ Aside0 (KeepBut w w' g none) ∧ Aside0 (Below w0.heap.size w0 w'))
   case atStart => exact ⟨(0), (t115), (([] : List Int)), (.slice none 0 0), tv, H', ⟨Nat.le_refl _⟩, ⟨nil9⟩, ⟨by refine bu ?_; exact BK106.out⟩, ⟨by refine bu ?_; exact BK111.out⟩, ⟨s9⟩, ⟨k9⟩, ⟨b9⟩⟩
   case round =>
    clear H'
    try clear c1
    try clear p2
    try clear c4
    try clear c4b0
    try clear c6
    try clear c6b0
    try clear c6b1
    try clear p6
    try clear c8
    try clear c8b0
    try clear p9
    try clear q9
    try clear hx9
    try clear c10
    try clear c10b0
    try clear c10b1
    try clear c14
    try clear c14b0
    try clear c14b1
    try clear p2
    try clear p9
    try clear q9
    obtain ⟨x24_2, x1001_2, x112001_2, u112001, rfl, HA, HK2, HO_112001, BK106, BK111, HI0, HK, HB⟩ := hrel
    cases gk with
    | zero => exact absurd HA.out (by simp [r_code.l1])
    | succ k2 =>
     have H := HA.out
     clear HA
     simp only [r_code.l1] at H
     by_cases c19 : x24_2 < t112
     ·rw [if_pos c19] at H
      have c19b0 := decide_eq_true c19
      clear c19
      have H' := am H
      clear H
      go_wp2
      repeat (go_quiet (fail); try go_wp2)
      go_loopg [5, 26] k2 (fun kq v5 v26 w' => ∃ (x5_3 : Int) (x26_3 : Int) (x1001_3 : Int), v5 = .int .u64 x5_3 ∧ v26 = .int .i64 x26_3 ∧ Aside0 (r_code.l2 kq s0_0 x5_3 t112 x24_2 x26_3 s0_0 x1001_3 x112001_2 = some (r1, r2, r3, r4, r5, r6)) ∧ Aside0 (kq ≤ k2) ∧ Aside0 (Kd.R (Kd.int .u64) 66 w' w.heap.size (fun _ => True) u112001 x112001_2) ∧ Aside0 (w'.heap[gb106]? = some (.cells #[(.slice none 0 0), (.slice none 0 0), (.slice none 0 0)] 26 (0, 0))) ∧ Aside0 (w'.heap[gb111]? = some (.cells #[(.slice none 0 0), u112001, (.slice none 0 0)] 26 (0, 0))) ∧ Aside0 (IsS95 Ab cb w0 w' g s0_0 x1001_3) ∧ Aside0 (KeepBut w w' g none) ∧ Aside0 (Below w0.heap.size w0 w'))
      case atStart => exact ⟨(0), (0), (x1001_2), tv, tv, H', ⟨Nat.le_refl _⟩, ⟨by (with_reducible repeat (first | apply Kd.R_alloc | apply Kd.R_drewN | apply Kd.R_drew)); exact HO_112001.out⟩, ⟨by refine bu ?_; exact BK106.out⟩, ⟨by refine bu ?_; exact BK111.out⟩, ⟨s9⟩, ⟨k9⟩, ⟨b9⟩⟩
      case round =>
       clear H'
       try clear c1
       try clear p2
       try clear c4
       try clear c4b0
       try clear c6
       try clear c6b0
       try clear c6b1
       try clear p6
       try clear c8
       try clear c8b0
       try clear p9
       try clear q9
       try clear hx9
       try clear c10
       try clear c10b0
       try clear c10b1
       try clear c14
       try clear c14b0
       try clear c14b1
       try clear c19
       try clear c19b0
       try clear p2
       try clear p6
       try clear p9
       try clear q9
       obtain ⟨x5_3, x26_3, x1001_3, rfl, rfl, HA, HK3, HO_112001, BK106, BK111, HI0, HK, HB⟩ := hrel
       cases gk with
       | zero => exact absurd HA.out (by simp [r_code.l2])
       | succ k3 =>
        have H := HA.out
        clear HA
        simp only [r_code.l2] at H
        by_cases c20 : x26_3 < 8
        rotate_left
        ·rw [if_neg c20] at H
         have c20b0 := decide_eq_false c20
         clear c20
         by_cases c28 : x112001_2.length < 17592186044416
         rotate_left
         ·rw [if_neg c28] at H
          exact absurd H (by simp)
         rw [if_pos c28] at H
         have LMc28 := am c28
         clear c28
         obtain ⟨y120, hy120⟩ : ∃ y_ : List Int, y_ = (x112001_2 ++ [x5_3]) := ⟨_, rfl⟩
         replace H : (r_code.l1 k3 s0_0 t112 (wrap64 (x24_2 + 1)) s0_0 x1001_3 y120) = some (r1, r2, r3, r4, r5, r6) := by first | (rw [hy120]; with_reducible exact H) | (have H2_ := (Option.bind_some _ _).symm.trans H; rw [hy120]; with_reducible exact H2_) | (have H2_ := (Option.bind_some _ _).symm.trans H; with_reducible exact H2_) | with_reducible exact H | (rw [hy120]; exact H) | exact H
         have Ny120 := am hy120
         clear hy120
         have H' := am H
         clear H
         have hnb29 := NB111_106.out
         have hnc29 := NB106_111.out
         have hnb30 := NB111_0.out
         have hnc30 := NB0_111.out
         obtain ⟨⟨hcz31_0, hcz31_1, hcz31_2⟩, hfz31_0, hfz31_1, hfz31_2⟩ := blkAll3 BK111
         go_wp2_with (first | ((with_reducible refine gate_builtin (b := .append) (xs := #[.tmp 39, .tmp 41]) rfl ?_); at_builtin; refine Kd.R_append (Kd.int .u64) w.heap.size rfl (.tmp 39) (.tmp 41) 23 66 (.int .u64 0) 8 rfl Tryd.underlying23 info66 rfl (by decide) (by omega) u112001 x112001_2 x5_3 [.int .u64 x5_3] (fun _ => True) (fun _ => False) rfl rfl ?aP (fun _ hk => hk.elim) ?aF ?aO (Below.refl _ _) ?aS ?aL ?_; (case aP => exact rfl); (case aF => exact (fun _ _ => trivial)); (case aO => exact (by (with_reducible repeat (first | apply Kd.R_alloc | apply Kd.R_drewN | apply Kd.R_drew)); exact HO_112001.out)); (case aS => exact (keep_size (w := w) (g := g) (row := none) k9)); (case aL => have := LMc28.out; omega); intro v121 w32 ho hb hg hat; rw [← Ny120.out] at ho; have n0_ := am (blk_grown (g := gb106) (o := .cells #[.slice none 0 0, .slice none 0 0, .slice none 0 0] 26 (0, 0)) (bu BK106.out) hg (Kd.R_ne HO_112001.out BK106.out (by decide))); have n1_ := am (blk_grown (g := gb111) (o := .cells #[.slice none 0 0, u112001, .slice none 0 0] 26 (0, 0)) (bu BK111.out) hg (Kd.R_ne HO_112001.out BK111.out (by decide))); have n2_ := am (IsS95.grown s9 hg (IsS95.own_ne HI0.out HO_112001.out (by decide))); have n3_ := am (below_weaken b9 HL.out hb); have n4_ := am (KeepBut.trans k9 (KeepBut.of_grown hg g) (Kd.R_base2 HO_112001.out)); have n5_ := am (ho); clear BK106; clear BK111; clear HI0; clear HB; clear HK; clear HO_112001; have BK106 := n0_; have BK111 := n1_; have HI0 := n2_; have HB := n3_; have HK := n4_; have HO122 := n5_; clear n0_ n1_ n2_ n3_ n4_ n5_; clear ho hb hg hat; obtain ⟨Ao33, co33, eo33⟩ := Kd.R_slice HO122.out; subst eo33; obtain ⟨⟨hcz34_0, hcz34_1, hcz34_2⟩, hfz34_0, hfz34_1, hfz34_2⟩ := blkAll3 BK111))
         repeat (go_quiet (fail); try go_wp2)
         go_roundg k3
         case measure => have := HK1.out; have := HK2.out; have := HK3.out; omega
         case rel => exact ⟨(wrap64 (x24_2 + 1)), (x1001_3), (y120), (.slice Ao33 y120.length co33), tv, H', ⟨by have := HK1.out; have := HK2.out; have := HK3.out; omega⟩, ⟨by (with_reducible repeat (first | apply Kd.R_alloc | apply Kd.R_drewN | apply Kd.R_drew)); exact Kd.R_mono (Kd.R_far (p := ⟨gb111, 1, none⟩) (Kd.R_types HO122.out BK111.out (by decide)) (fun _ hk => hk.2) (.slice Ao33 y120.length co33)) (fun _ hk => trivial)⟩, ⟨by refine bu ?_; refine blk_far ?_ NB106_111.out _; refine bu ?_; exact BK106.out⟩, ⟨by refine bu ?_; refine blk_put (cs := #[.slice none 0 0, u112001, .slice none 0 0]) ?_ 1 _ rfl; refine bu ?_; exact BK111.out⟩, ⟨s9⟩, ⟨k9⟩, ⟨b9⟩⟩
        rw [if_pos c20] at H
        have c20b0 := decide_eq_true c20
        clear c20
        replace H := Option.bind_eq_some_iff.mp H
        obtain ⟨⟨t116, t117, t118, t119⟩, A210, H⟩ := H
        replace H : (if t117 = 1 then (some (([] : List (S41)), ([] : List Int), ([] : List ByteArray), 1, t118, t119)) else (if 0 ≤ (wrap64 (8 * x26_3)) then (r_code.l2 k3 s0_0 (Go.bits .or .u64 x5_3 (shl .u64 (IntKind.u64.wrap (t116)) (wrap64 (8 * x26_3)))) t112 x24_2 (wrap64 (x26_3 + 1)) s0_0 t119 x112001_2) else (none))) = some (r1, r2, r3, r4, r5, r6) := H
        have A21 := am A210
        clear A210
        by_cases c22 : t117 = 1
        ·rw [if_pos c22] at H
         have c22b0 : (t117 == 1) = true := beq_iff_eq.mpr c22
         have c22b1 : (t117 != 1) = false := bne_eq_false_iff_eq.mpr c22
         clear c22
         simp only [Option.some.injEq, Prod.mk.injEq] at H
         obtain ⟨rfl, rfl, rfl, rfl, rfl, rfl⟩ := H
         go_wp2_with (first | (go_at_call 62; (with_reducible refine (r_byte.calls (Ab := Ab) (cb := cb) g s0_0 x1001_3 t116 t117 t118 t119 w0 _ ?side1 ?side2 A21.out).mono ?_); (case side1 => exact s9); (case side2 => exact b9); rintro e w23 ⟨ho, hi, hb, hk⟩; rcases ho with ⟨hm_, rfl⟩ | ⟨hm_, rfl⟩; (all_goals (first | exact absurd hm_ (mk0 (by assumption)) | exact absurd hm_ (mk1 (by assumption)) | skip)); have n0_ := am (Kd.R_mono (Kd.R_keep (IsS95.apart (show IsS95 Ab cb w0 _ g s0_0 x1001_3 from s9) (by (with_reducible repeat (first | apply Kd.R_alloc | apply Kd.R_drewN | apply Kd.R_drew)); exact HO_112001.out) (by decide)) hk (fun _ h => h.2)) (fun _ h => h.1)); have n1_ := am (KeepBut.blk hk (g' := gb106) (o := .cells #[.slice none 0 0, .slice none 0 0, .slice none 0 0] 26 (0, 0)) (bu BK106.out) NB106_0.out (by simp)); have n2_ := am (KeepBut.blk hk (g' := gb111) (o := .cells #[.slice none 0 0, u112001, .slice none 0 0] 26 (0, 0)) (bu BK111.out) NB111_0.out (by simp)); have n3_ := am (KeepBut.trans k9 hk (.inl rfl)); have n4_ := am (hb); have n5_ := am (hi); clear HO_112001; clear BK106; clear BK111; clear HK; clear HB; clear HI0; have HO_112001 := n0_; have BK106 := n1_; have BK111 := n2_; have HK := n3_; have HB := n4_; have HI0 := n5_; clear n0_ n1_ n2_ n3_ n4_ n5_; (try clear hb); (try clear hb2); (try clear hk); (try clear hi)))
         repeat (go_quiet (fail); try go_wp2)
         refine ⟨rfl, ?_⟩
         exact ⟨_, _, _, .inr ⟨rfl, rfl⟩, nil9, nil9, nil9, s9, b9, k9⟩
        rw [if_neg c22] at H
        have c22b0 : (t117 == 1) = false := beq_eq_false_iff_ne.mpr c22
        have c22b1 : (t117 != 1) = true := bne_iff_ne.mpr c22
        obtain ⟨ji24, hji24⟩ : ∃ j_ : Int, (wrap64 (8 * x26_3)) = j_ := ⟨_, rfl⟩
        replace H : (if 0 ≤ (ji24) then (r_code.l2 k3 s0_0 (Go.bits .or .u64 x5_3 (shl .u64 (IntKind.u64.wrap (t116)) (ji24))) t112 x24_2 (wrap64 (x26_3 + 1)) s0_0 t119 x112001_2) else (none)) = some (r1, r2, r3, r4, r5, r6) := by first | (rw [hji24] at H; exact H) | (simp only [hji24] at H ⊢; exact H)
        (try rw [hji24] at A21)
        have hji24w : (IntKind.i64.wrap (8 * x26_3)) = ji24 := (i64_w _).trans hji24
        by_cases c25 : 0 ≤ (ji24)
        rotate_left
        ·rw [if_neg c25] at H
         exact absurd H (by simp)
        rw [if_pos c25] at H
        have c25b0 := eq_true c25
        have c25b1 := decide_eq_true c25
        clear c25
        obtain ⟨ji26, hji26⟩ : ∃ j_ : Int, (shl .u64 (IntKind.u64.wrap (t116)) (ji24)) = j_ := ⟨_, rfl⟩
        replace H : (r_code.l2 k3 s0_0 (Go.bits .or .u64 x5_3 (ji26)) t112 x24_2 (wrap64 (x26_3 + 1)) s0_0 t119 x112001_2) = some (r1, r2, r3, r4, r5, r6) := by first | (rw [hji26] at H; exact H) | (simp only [hji26] at H ⊢; exact H)
        (try rw [hji26] at A21)
        have hji26_ : (IntKind.u64.wrap ((IntKind.u64.wrap (t116)) * 2 ^ min (ji24).toNat 64)) = ji26 := hji26
        have hji26z : (ji24) ≤ 64 → (IntKind.u64.wrap ((IntKind.u64.wrap (t116)) * 2 ^ (ji24).toNat)) = ji26 := shl_small hji26
        have H' := am H
        clear H
        go_wp2_with (first | (go_at_call 62; (with_reducible refine (r_byte.calls (Ab := Ab) (cb := cb) g s0_0 x1001_3 t116 t117 t118 t119 w0 _ ?side1 ?side2 A21.out).mono ?_); (case side1 => exact s9); (case side2 => exact b9); rintro e w27 ⟨ho, hi, hb, hk⟩; rcases ho with ⟨hm_, rfl⟩ | ⟨hm_, rfl⟩; (all_goals (first | exact absurd hm_ (mk0 (by assumption)) | exact absurd hm_ (mk1 (by assumption)) | skip)); have n0_ := am (Kd.R_mono (Kd.R_keep (IsS95.apart (show IsS95 Ab cb w0 _ g s0_0 x1001_3 from s9) (by (with_reducible repeat (first | apply Kd.R_alloc | apply Kd.R_drewN | apply Kd.R_drew)); exact HO_112001.out) (by decide)) hk (fun _ h => h.2)) (fun _ h => h.1)); have n1_ := am (KeepBut.blk hk (g' := gb106) (o := .cells #[.slice none 0 0, .slice none 0 0, .slice none 0 0] 26 (0, 0)) (bu BK106.out) NB106_0.out (by simp)); have n2_ := am (KeepBut.blk hk (g' := gb111) (o := .cells #[.slice none 0 0, u112001, .slice none 0 0] 26 (0, 0)) (bu BK111.out) NB111_0.out (by simp)); have n3_ := am (KeepBut.trans k9 hk (.inl rfl)); have n4_ := am (hb); have n5_ := am (hi); clear HO_112001; clear BK106; clear BK111; clear HK; clear HB; clear HI0; have HO_112001 := n0_; have BK106 := n1_; have BK111 := n2_; have HK := n3_; have HB := n4_; have HI0 := n5_; clear n0_ n1_ n2_ n3_ n4_ n5_; (try clear hb); (try clear hb2); (try clear hk); (try clear hi)))
        repeat (go_quiet (fail); try go_wp2)
        go_roundg k3
        case measure => have := HK1.out; have := HK2.out; have := HK3.out; omega
        case rel => exact ⟨(Go.bits .or .u64 x5_3 (ji26)), (wrap64 (x26_3 + 1)), (t119), (by first | rfl | (simp; done) | (simp only [← hji26] <;> (first | rfl | simp)) | (simp [*]; done)), tv, H', ⟨by have := HK1.out; have := HK2.out; have := HK3.out; omega⟩, ⟨by (with_reducible repeat (first | apply Kd.R_alloc | apply Kd.R_drewN | apply Kd.R_drew)); exact HO_112001.out⟩, ⟨by refine bu ?_; exact BK106.out⟩, ⟨by refine bu ?_; exact BK111.out⟩, ⟨s9⟩, ⟨k9⟩, ⟨b9⟩⟩
     rw [if_neg c19] at H
     have c19b0 := decide_eq_false c19
     clear c19
     replace H := Option.bind_eq_some_iff.mp H
     obtain ⟨⟨t123, t124, t125, t126⟩, A350, H⟩ := H
     replace H : (if t124 = 1 then (some (([] : List (S41)), ([] : List Int), ([] : List ByteArray), 1, t125, t126)) else (r_code.l3 k2 s0_0 t123 0 s0_0 t126 x112001_2 ([] : List ByteArray))) = some (r1, r2, r3, r4, r5, r6) := H
     have A35 := am A350
     clear A350
     by_cases c36 : t124 = 1
     ·rw [if_pos c36] at H
      have c36b0 : (t124 == 1) = true := beq_iff_eq.mpr c36
      have c36b1 : (t124 != 1) = false := bne_eq_false_iff_eq.mpr c36
      clear c36
      simp only [Option.some.injEq, Prod.mk.injEq] at H
      obtain ⟨rfl, rfl, rfl, rfl, rfl, rfl⟩ := H
      go_wp2_with (first | (go_at_call 63; (with_reducible refine (r_number.calls (Ab := Ab) (cb := cb) k2 g s0_0 x1001_2 t123 t124 t125 t126 w0 _ ?side1 ?side2 A35.out).mono ?_); (case side1 => exact s9); (case side2 => exact b9); rintro e w37 ⟨ho, hi, hb, hk⟩; rcases ho with ⟨hm_, rfl⟩ | ⟨hm_, rfl⟩; (all_goals (first | exact absurd hm_ (mk0 (by assumption)) | exact absurd hm_ (mk1 (by assumption)) | skip)); have n0_ := am (Kd.R_mono (Kd.R_keep (IsS95.apart (show IsS95 Ab cb w0 _ g s0_0 x1001_2 from s9) (by (with_reducible repeat (first | apply Kd.R_alloc | apply Kd.R_drewN | apply Kd.R_drew)); exact HO_112001.out) (by decide)) hk (fun _ h => h.2)) (fun _ h => h.1)); have n1_ := am (KeepBut.blk hk (g' := gb106) (o := .cells #[.slice none 0 0, .slice none 0 0, .slice none 0 0] 26 (0, 0)) (bu BK106.out) NB106_0.out (by simp)); have n2_ := am (KeepBut.blk hk (g' := gb111) (o := .cells #[.slice none 0 0, u112001, .slice none 0 0] 26 (0, 0)) (bu BK111.out) NB111_0.out (by simp)); have n3_ := am (KeepBut.trans k9 hk (.inl rfl)); have n4_ := am (hb); have n5_ := am (hi); clear HO_112001; clear BK106; clear BK111; clear HK; clear HB; clear HI0; have HO_112001 := n0_; have BK106 := n1_; have BK111 := n2_; have HK := n3_; have HB := n4_; have HI0 := n5_; clear n0_ n1_ n2_ n3_ n4_ n5_; (try clear hb); (try clear hb2); (try clear hk); (try clear hi)))
      repeat (go_quiet (fail); try go_wp2)
      refine ⟨rfl, ?_⟩
      exact ⟨_, _, _, .inr ⟨rfl, rfl⟩, nil9, nil9, nil9, s9, b9, k9⟩
     rw [if_neg c36] at H
     have c36b0 : (t124 == 1) = false := beq_eq_false_iff_ne.mpr c36
     have c36b1 : (t124 != 1) = true := bne_iff_ne.mpr c36
     have H' := am H
     clear H
     go_wp2_with (first | (go_at_call 63; (with_reducible refine (r_number.calls (Ab := Ab) (cb := cb) k2 g s0_0 x1001_2 t123 t124 t125 t126 w0 _ ?side1 ?side2 A35.out).mono ?_); (case side1 => exact s9); (case side2 => exact b9); rintro e w38 ⟨ho, hi, hb, hk⟩; rcases ho with ⟨hm_, rfl⟩ | ⟨hm_, rfl⟩; (all_goals (first | exact absurd hm_ (mk0 (by assumption)) | exact absurd hm_ (mk1 (by assumption)) | skip)); have n0_ := am (Kd.R_mono (Kd.R_keep (IsS95.apart (show IsS95 Ab cb w0 _ g s0_0 x1001_2 from s9) (by (with_reducible repeat (first | apply Kd.R_alloc | apply Kd.R_drewN | apply Kd.R_drew)); exact HO_112001.out) (by decide)) hk (fun _ h => h.2)) (fun _ h => h.1)); have n1_ := am (KeepBut.blk hk (g' := gb106) (o := .cells #[.slice none 0 0, .slice none 0 0, .slice none 0 0] 26 (0, 0)) (bu BK106.out) NB106_0.out (by simp)); have n2_ := am (KeepBut.blk hk (g' := gb111) (o := .cells #[.slice none 0 0, u112001, .slice none 0 0] 26 (0, 0)) (bu BK111.out) NB111_0.out (by simp)); have n3_ := am (KeepBut.trans k9 hk (.inl rfl)); have n4_ := am (hb); have n5_ := am (hi); clear HO_112001; clear BK106; clear BK111; clear HK; clear HB; clear HI0; have HO_112001 := n0_; have BK106 := n1_; have BK111 := n2_; have HK := n3_; have HB := n4_; have HI0 := n5_; clear n0_ n1_ n2_ n3_ n4_ n5_; (try clear hb); (try clear hb2); (try clear hk); (try clear hi)))
     repeat (go_quiet (fail); try go_wp2)
     go_loopg [47] k2 (fun kq v47 w' => ∃ (x47_3 : Int) (x1001_3 : Int) (x112002_3 : List ByteArray) (u112002 : Value), v47 = .int .i64 x47_3 ∧ Aside0 (r_code.l3 kq s0_0 t123 x47_3 s0_0 x1001_3 x112001_2 x112002_3 = some (r1, r2, r3, r4, r5, r6)) ∧ Aside0 (kq ≤ k2) ∧ Aside0 (Kd.R (Kd.int .u64) 66 w' w.heap.size (fun _ => True) u112001 x112001_2) ∧ Aside0 (Kd.R Kd.string 9 w' w.heap.size (fun _ => True) u112002 x112002_3) ∧ Aside0 (w'.heap[gb106]? = some (.cells #[(.slice none 0 0), (.slice none 0 0), (.slice none 0 0)] 26 (0, 0))) ∧ Aside0 (w'.heap[gb111]? = some (.cells #[(.slice none 0 0), u112001, u112002] 26 (0, 0))) ∧ Aside0 (IsS95 Ab cb w0 w' g s0_0 x1001_3) ∧ Aside0 (KeepBut w w' g none) ∧ Aside0 (Below w0.heap.size w0 w'))
     case atStart => exact ⟨(0), (t126), (([] : List ByteArray)), (.slice none 0 0), tv, H', ⟨Nat.le_refl _⟩, ⟨by (with_reducible repeat (first | apply Kd.R_alloc | apply Kd.R_drewN | apply Kd.R_drew)); exact HO_112001.out⟩, ⟨nil9⟩, ⟨by refine bu ?_; exact BK106.out⟩, ⟨by refine bu ?_; exact BK111.out⟩, ⟨s9⟩, ⟨k9⟩, ⟨b9⟩⟩
     case round =>
      clear H'
      try clear c1
      try clear c2
      try clear p2
      try clear c3
      try clear c4
      try clear c4b0
      try clear c6
      try clear c6b0
      try clear c6b1
      try clear p6
      try clear c8
      try clear c8b0
      try clear p9
      try clear q9
      try clear hx9
      try clear c10
      try clear c10b0
      try clear c10b1
      try clear c14
      try clear c14b0
      try clear c14b1
      try clear c19
      try clear c19b0
      try clear c20
      try clear c20b0
      try clear c22
      try clear c22b0
      try clear c22b1
      try clear c25
      try clear c25b0
      try clear c25b1
      try clear c28
      try clear c29
      try clear c30
      try clear c36
      try clear c36b0
      try clear c36b1
      try clear hcz31_0 hcz31_1 hcz31_2
      try clear hcz34_0 hcz34_1 hcz34_2
      try clear hfz31_0 hfz31_1 hfz31_2
      try clear hfz34_0 hfz34_1 hfz34_2
      try clear p2
      try clear p6
      try clear p9
      try clear q9
      obtain ⟨x47_3, x1001_3, x112002_3, u112002, rfl, HA, HK3, HO_112001, HO_112002, BK106, BK111, HI0, HK, HB⟩ := hrel
      cases gk with
      | zero => exact absurd HA.out (by simp [r_code.l3])
      | succ k3 =>
       have H := HA.out
       clear HA
       simp only [r_code.l3] at H
       by_cases c39 : x47_3 < t123
       ·rw [if_pos c39] at H
        have c39b0 := decide_eq_true c39
        clear c39
        replace H := Option.bind_eq_some_iff.mp H
        obtain ⟨⟨t127, t128, t129, t130⟩, A400, H⟩ := H
        replace H : (if t128 = 1 then (some (([] : List (S41)), ([] : List Int), ([] : List ByteArray), 1, t129, t130)) else (if t127 > (wrap64 ((s0_0.length : Int) - t130)) then (some (([] : List (S41)), ([] : List Int), ([] : List ByteArray), 1, (s0_0.length : Int), t130)) else (if 0 ≤ t130 then (if t130 ≤ (wrap64 (t130 + t127)) then (if (wrap64 (t130 + t127)) ≤ (s0_0.length : Int) then (if x112002_3.length < 8796093022208 then (r_code.l3 k3 s0_0 t123 (wrap64 (x47_3 + 1)) s0_0 (wrap64 (t130 + t127)) x112001_2 (x112002_3 ++ [strOfNums ((s0_0.take ((wrap64 (t130 + t127)) : Int).toNat).drop (t130 : Int).toNat)])) else (none)) else (none)) else (none)) else (none)))) = some (r1, r2, r3, r4, r5, r6) := H
        have A40 := am A400
        clear A400
        by_cases c41 : t128 = 1
        ·rw [if_pos c41] at H
         have c41b0 : (t128 == 1) = true := beq_iff_eq.mpr c41
         have c41b1 : (t128 != 1) = false := bne_eq_false_iff_eq.mpr c41
         clear c41
         simp only [Option.some.injEq, Prod.mk.injEq] at H
         obtain ⟨rfl, rfl, rfl, rfl, rfl, rfl⟩ := H
         go_wp2_with (first | (go_at_call 63; (with_reducible refine (r_number.calls (Ab := Ab) (cb := cb) k3 g s0_0 x1001_3 t127 t128 t129 t130 w0 _ ?side1 ?side2 A40.out).mono ?_); (case side1 => exact s9); (case side2 => exact b9); rintro e w42 ⟨ho, hi, hb, hk⟩; rcases ho with ⟨hm_, rfl⟩ | ⟨hm_, rfl⟩; (all_goals (first | exact absurd hm_ (mk0 (by assumption)) | exact absurd hm_ (mk1 (by assumption)) | skip)); have n0_ := am (Kd.R_mono (Kd.R_keep (IsS95.apart (show IsS95 Ab cb w0 _ g s0_0 x1001_3 from s9) (by (with_reducible repeat (first | apply Kd.R_alloc | apply Kd.R_drewN | apply Kd.R_drew)); exact HO_112001.out) (by decide)) hk (fun _ h => h.2)) (fun _ h => h.1)); have n1_ := am (Kd.R_mono (Kd.R_keep (IsS95.apart (show IsS95 Ab cb w0 _ g s0_0 x1001_3 from s9) (by (with_reducible repeat (first | apply Kd.R_alloc | apply Kd.R_drewN | apply Kd.R_drew)); exact HO_112002.out) (by decide)) hk (fun _ h => h.2)) (fun _ h => h.1)); have n2_ := am (KeepBut.blk hk (g' := gb106) (o := .cells #[.slice none 0 0, .slice none 0 0, .slice none 0 0] 26 (0, 0)) (bu BK106.out) NB106_0.out (by simp)); have n3_ := am (KeepBut.blk hk (g' := gb111) (o := .cells #[.slice none 0 0, u112001, u112002] 26 (0, 0)) (bu BK111.out) NB111_0.out (by simp)); have n4_ := am (KeepBut.trans k9 hk (.inl rfl)); have n5_ := am (hb); have n6_ := am (hi); clear HO_112001; clear HO_112002; clear BK106; clear BK111; clear HK; clear HB; clear HI0; have HO_112001 := n0_; have HO_112002 := n1_; have BK106 := n2_; have BK111 := n3_; have HK := n4_; have HB := n5_; have HI0 := n6_; clear n0_ n1_ n2_ n3_ n4_ n5_ n6_; (try clear hb); (try clear hb2); (try clear hk); (try clear hi)))
         repeat (go_quiet (fail); try go_wp2)
         refine ⟨rfl, ?_⟩
         exact ⟨_, _, _, .inr ⟨rfl, rfl⟩, nil9, nil9, nil9, s9, b9, k9⟩
        rw [if_neg c41] at H
        have c41b0 : (t128 == 1) = false := beq_eq_false_iff_ne.mpr c41
        have c41b1 : (t128 != 1) = true := bne_iff_ne.mpr c41
        by_cases c43 : t127 > (wrap64 ((s0_0.length : Int) - t130))
        ·rw [if_pos c43] at H
         have c43b0 : decide ((wrap64 ((s0_0.length : Int) - t130)) < t127) = true := decide_eq_true c43
         clear c43
         simp only [Option.some.injEq, Prod.mk.injEq] at H
         obtain ⟨rfl, rfl, rfl, rfl, rfl, rfl⟩ := H
         go_wp2_with (first | (go_at_call 63; (with_reducible refine (r_number.calls (Ab := Ab) (cb := cb) k3 g s0_0 x1001_3 t127 t128 t129 t130 w0 _ ?side1 ?side2 A40.out).mono ?_); (case side1 => exact s9); (case side2 => exact b9); rintro e w44 ⟨ho, hi, hb, hk⟩; rcases ho with ⟨hm_, rfl⟩ | ⟨hm_, rfl⟩; (all_goals (first | exact absurd hm_ (mk0 (by assumption)) | exact absurd hm_ (mk1 (by assumption)) | skip)); have n0_ := am (Kd.R_mono (Kd.R_keep (IsS95.apart (show IsS95 Ab cb w0 _ g s0_0 x1001_3 from s9) (by (with_reducible repeat (first | apply Kd.R_alloc | apply Kd.R_drewN | apply Kd.R_drew)); exact HO_112001.out) (by decide)) hk (fun _ h => h.2)) (fun _ h => h.1)); have n1_ := am (Kd.R_mono (Kd.R_keep (IsS95.apart (show IsS95 Ab cb w0 _ g s0_0 x1001_3 from s9) (by (with_reducible repeat (first | apply Kd.R_alloc | apply Kd.R_drewN | apply Kd.R_drew)); exact HO_112002.out) (by decide)) hk (fun _ h => h.2)) (fun _ h => h.1)); have n2_ := am (KeepBut.blk hk (g' := gb106) (o := .cells #[.slice none 0 0, .slice none 0 0, .slice none 0 0] 26 (0, 0)) (bu BK106.out) NB106_0.out (by simp)); have n3_ := am (KeepBut.blk hk (g' := gb111) (o := .cells #[.slice none 0 0, u112001, u112002] 26 (0, 0)) (bu BK111.out) NB111_0.out (by simp)); have n4_ := am (KeepBut.trans k9 hk (.inl rfl)); have n5_ := am (hb); have n6_ := am (hi); clear HO_112001; clear HO_112002; clear BK106; clear BK111; clear HK; clear HB; clear HI0; have HO_112001 := n0_; have HO_112002 := n1_; have BK106 := n2_; have BK111 := n3_; have HK := n4_; have HB := n5_; have HI0 := n6_; clear n0_ n1_ n2_ n3_ n4_ n5_ n6_; (try clear hb); (try clear hb2); (try clear hk); (try clear hi); obtain ⟨ASz45_0, cSz45_0, HGz45, hgz45, HSz45_0⟩ := HI0.out; have hcz45_0 := cellS95_0 HGz45; have hcz45_1 := cellS95_1 HGz45; have hfz45_1 := blk_frozen HGz45 1; clear HGz45 hgz45))
         repeat (go_quiet (fail); try go_wp2)
         refine ⟨rfl, ?_⟩
         exact ⟨_, _, _, .inr ⟨rfl, rfl⟩, nil9, nil9, nil9, s9, b9, k9⟩
        rw [if_neg c43] at H
        have c43b0 : decide ((wrap64 ((s0_0.length : Int) - t130)) < t127) = false := decide_eq_false c43
        clear c43
        by_cases c46 : 0 ≤ t130
        rotate_left
        ·rw [if_neg c46] at H
         exact absurd H (by simp)
        rw [if_pos c46] at H
        have c46b0 := eq_true c46
        have c46b1 := decide_eq_true c46
        clear c46
        by_cases c47 : t130 ≤ (wrap64 (t130 + t127))
        rotate_left
        ·rw [if_neg c47] at H
         exact absurd H (by simp)
        rw [if_pos c47] at H
        have c47b0 := eq_true c47
        have c47b1 := decide_eq_true c47
        by_cases c48 : (wrap64 (t130 + t127)) ≤ (s0_0.length : Int)
        rotate_left
        ·rw [if_neg c48] at H
         exact absurd H (by simp)
        rw [if_pos c48] at H
        have c48b0 := eq_true c48
        have c48b1 := decide_eq_true c48
        by_cases c49 : x112002_3.length < 8796093022208
        rotate_left
        ·rw [if_neg c49] at H
         exact absurd H (by simp)
        rw [if_pos c49] at H
        have LMc49 := am c49
        clear c49
        obtain ⟨y132, hy132⟩ : ∃ y_ : List ByteArray, y_ = (x112002_3 ++ [strOfNums ((s0_0.take ((wrap64 (t130 + t127)) : Int).toNat).drop (t130 : Int).toNat)]) := ⟨_, rfl⟩
        replace H : (r_code.l3 k3 s0_0 t123 (wrap64 (x47_3 + 1)) s0_0 (wrap64 (t130 + t127)) x112001_2 y132) = some (r1, r2, r3, r4, r5, r6) := by first | (rw [hy132]; with_reducible exact H) | (have H2_ := (Option.bind_some _ _).symm.trans H; rw [hy132]; with_reducible exact H2_) | (have H2_ := (Option.bind_some _ _).symm.trans H; with_reducible exact H2_) | with_reducible exact H | (rw [hy132]; exact H) | exact H
        have Ny132 := am hy132
        clear hy132
        have H' := am H
        clear H
        go_upto_region 20 with (first | (go_at_call 63; (with_reducible refine (r_number.calls (Ab := Ab) (cb := cb) k3 g s0_0 x1001_3 t127 t128 t129 t130 w0 _ ?side1 ?side2 A40.out).mono ?_); (case side1 => exact s9); (case side2 => exact b9); rintro e w50 ⟨ho, hi, hb, hk⟩; rcases ho with ⟨hm_, rfl⟩ | ⟨hm_, rfl⟩; (all_goals (first | exact absurd hm_ (mk0 (by assumption)) | exact absurd hm_ (mk1 (by assumption)) | skip)); have n0_ := am (Kd.R_mono (Kd.R_keep (IsS95.apart (show IsS95 Ab cb w0 _ g s0_0 x1001_3 from s9) (by (with_reducible repeat (first | apply Kd.R_alloc | apply Kd.R_drewN | apply Kd.R_drew)); exact HO_112001.out) (by decide)) hk (fun _ h => h.2)) (fun _ h => h.1)); have n1_ := am (Kd.R_mono (Kd.R_keep (IsS95.apart (show IsS95 Ab cb w0 _ g s0_0 x1001_3 from s9) (by (with_reducible repeat (first | apply Kd.R_alloc | apply Kd.R_drewN | apply Kd.R_drew)); exact HO_112002.out) (by decide)) hk (fun _ h => h.2)) (fun _ h => h.1)); have n2_ := am (KeepBut.blk hk (g' := gb106) (o := .cells #[.slice none 0 0, .slice none 0 0, .slice none 0 0] 26 (0, 0)) (bu BK106.out) NB106_0.out (by simp)); have n3_ := am (KeepBut.blk hk (g' := gb111) (o := .cells #[.slice none 0 0, u112001, u112002] 26 (0, 0)) (bu BK111.out) NB111_0.out (by simp)); have n4_ := am (KeepBut.trans k9 hk (.inl rfl)); have n5_ := am (hb); have n6_ := am (hi); clear HO_112001; clear HO_112002; clear BK106; clear BK111; clear HK; clear HB; clear HI0; have HO_112001 := n0_; have HO_112002 := n1_; have BK106 := n2_; have BK111 := n3_; have HK := n4_; have HB := n5_; have HI0 := n6_; clear n0_ n1_ n2_ n3_ n4_ n5_ n6_; (try clear hb); (try clear hb2); (try clear hk); (try clear hi); obtain ⟨ASz51_0, cSz51_0, HGz51, hgz51, HSq_, e1_, e2_⟩ := HI0.out; subst e1_ e2_; have hcz51_0 := cellS95_0 HGz51; have hcz51_1 := cellS95_1 HGz51; have hfz51_1 := blk_frozen HGz51 1; clear HGz51 hgz51; have hnb52 := NB111_106.out; have hnc52 := NB106_111.out; have hnb53 := NB111_0.out; have hnc53 := NB0_111.out; obtain ⟨⟨hcz54_0, hcz54_1, hcz54_2⟩, hfz54_0, hfz54_1, hfz54_2⟩ := blkAll3 BK111; obtain ⟨i055, hi055, _, hsz55, _⟩ := info_parts info5; obtain ⟨A55, hcut55, hA55, hC55⟩ := print_mid_of (P := Tryd.prog) (Value.int .u8) 0 34 5 .i64 .i64 Tryd.underlying34 hi055 hsz55 Ab cb s0_0 t130 (wrap64 (t130 + t127)) (of_decide_eq_true od) (by first | omega | exact of_decide_eq_true od) (of_decide_eq_true od) HC1.out; have HR131 := am (Kd.C_of_reads (h1 := fun _ => rfl) (hA55 _ (Kd.reads_of_C HR1.out))); have HC131 := am hC55; have hf131 : ∀ ad : Addr, A55 = some ad → 0 < ((s0_0.take ((wrap64 (t130 + t127)) : Int).toNat).drop (t130 : Int).toNat).length → ad.block ≠ g := fun ad he h_ => (by cases he; exact Kd.foot_ne (fun W_ hk_ => Kd.C_of_reads (h1 := fun _ => rfl) (hA55 _ (Kd.reads_of_C (Kd.C_foot_ne (fun h => h) HR1.out hf1 W_ hk_)))) h_ (by decide)); clear hA55 hC55 hi055 hsz55; have hm55_ : (wrap64 (t130 + t127)) ≤ ((s0_0.length : Nat) : Int) := (of_decide_eq_true od); have hlen55_ : (((s0_0.take ((wrap64 (t130 + t127)) : Int).toNat).drop (t130 : Int).toNat)).length = ((wrap64 (t130 + t127)).toNat - t130.toNat) := by rw [List.length_drop, List.length_take_of_le (Int.toNat_le.mpr hm55_)]))
        go_quiet (fail)
        go_wp2
        refine start_ (n := 22) (S := fun w' => w'.cell? ⟨gb111, 2, none⟩ = some u112002 ∧ w'.cell? ⟨g, 0, none⟩ = some (.slice Ab s0_0.length cb) ∧ w'.cell? ⟨g, 1, none⟩ = some (.int .i64 t130) ∧ (convert 34 9 (.slice A55 ((wrap64 (t130 + t127)).toNat - t130.toNat) (cb - t130.toNat))).run Tryd.prog w' = .ok (.string (strOfNums ((s0_0.take ((wrap64 (t130 + t127)) : Int).toNat).drop (t130 : Int).toNat))) w') (ds := [19, 21]) #[false, false, false, false, false, false, false, false, false, false, false, false, false, false, false, false, false, false, false, false, false, false] (by kernel_rfl) rfl rfl ⟨hcz54_2, hcz51_0, hcz51_1, conv_len hlen55_ (Kd.C_string (P := Tryd.prog) (A := A55) (c := (cb - t130.toNat)) Tryd.underlying34 Tryd.underlying5 Tryd.underlying9 (Kd.C_keep 0 HR131.out k9 hf131))⟩ (fun hHeld => ?_)
        refine pure_ (i := 0) (N := some 69) (v := ?_) (a' := ?_) #[true, false, false, false, false, false, false, false, false, false, false, false, false, false, false, false, false, false, false, false, false, false] rfl rfl (by kernel_rfl) (fun _ _ _ h => h) (Or.inl ⟨by rfl, ?_⟩) ?_ ?_
        rotate_left
        ·intro w'
         go_simp
         with_reducible rfl
        rotate_left
        ·simp only [Act.put, List.setIfInBounds_toArray, List.set_cons_zero, List.set_cons_succ, i64_w, i32_w]
         rfl
        refine pure_ (i := 2) (N := some 71) (v := ?_) (a' := ?_) #[true, false, true, false, false, false, false, false, false, false, false, false, false, false, false, false, false, false, false, false, false, false] rfl rfl (by kernel_rfl) (fun _ _ _ h => h) (Or.inl ⟨by rfl, ?_⟩) ?_ ?_
        rotate_left
        ·intro w'
         go_simp
         with_reducible rfl
        rotate_left
        ·simp only [Act.put, List.setIfInBounds_toArray, List.set_cons_zero, List.set_cons_succ, i64_w, i32_w]
         rfl
        refine pure_ (i := 3) (N := some 72) (v := ?_) (a' := ?_) #[true, false, true, true, false, false, false, false, false, false, false, false, false, false, false, false, false, false, false, false, false, false] rfl rfl (by kernel_rfl) (fun _ _ _ h => h) (Or.inl ⟨by rfl, ?_⟩) ?_ ?_
        rotate_left
        ·intro w'
         go_simp
         with_reducible rfl
        rotate_left
        ·simp only [Act.put, List.setIfInBounds_toArray, List.set_cons_zero, List.set_cons_succ, i64_w, i32_w]
         rfl
        refine pure_ (i := 4) (N := some 73) (v := ?_) (a' := ?_) #[true, false, true, true, true, false, false, false, false, false, false, false, false, false, false, false, false, false, false, false, false, false] rfl rfl (by kernel_rfl) (fun _ _ _ h => h) (Or.inl ⟨by rfl, ?_⟩) ?_ ?_
        rotate_left
        ·intro w'
         go_simp
         with_reducible rfl
        rotate_left
        ·simp only [Act.put, List.setIfInBounds_toArray, List.set_cons_zero, List.set_cons_succ, i64_w, i32_w]
         rfl
        refine pure_ (i := 6) (N := some 75) (v := ?_) (a' := ?_) #[true, false, true, true, true, false, true, false, false, false, false, false, false, false, false, false, false, false, false, false, false, false] rfl rfl (by kernel_rfl) (fun _ _ _ h => h) (Or.inl ⟨by rfl, ?_⟩) ?_ ?_
        rotate_left
        ·intro w'
         go_simp
         with_reducible rfl
        rotate_left
        ·simp only [Act.put, List.setIfInBounds_toArray, List.set_cons_zero, List.set_cons_succ, i64_w, i32_w]
         rfl
        refine pure_ (i := 7) (N := some 76) (v := ?_) (a' := ?_) #[true, false, true, true, true, false, true, true, false, false, false, false, false, false, false, false, false, false, false, false, false, false] rfl rfl (by kernel_rfl) (fun _ _ _ h => h) (Or.inl ⟨by rfl, ?_⟩) ?_ ?_
        rotate_left
        ·intro w'
         go_simp
         with_reducible rfl
        rotate_left
        ·simp only [Act.put, List.setIfInBounds_toArray, List.set_cons_zero, List.set_cons_succ, i64_w, i32_w]
         rfl
        refine pure_ (i := 8) (N := some 77) (v := ?_) (a' := ?_) #[true, false, true, true, true, false, true, true, true, false, false, false, false, false, false, false, false, false, false, false, false, false] rfl rfl (by kernel_rfl) (fun _ _ _ h => h) (Or.inl ⟨by rfl, ?_⟩) ?_ ?_
        rotate_left
        ·intro w'
         go_simp
         with_reducible rfl
        rotate_left
        ·simp only [Act.put, List.setIfInBounds_toArray, List.set_cons_zero, List.set_cons_succ, i64_w, i32_w]
         rfl
        refine pure_ (i := 10) (N := some 79) (v := ?_) (a' := ?_) #[true, false, true, true, true, false, true, true, true, false, true, false, false, false, false, false, false, false, false, false, false, false] rfl rfl (by kernel_rfl) (fun _ _ _ h => h) (Or.inl ⟨by rfl, ?_⟩) ?_ ?_
        rotate_left
        ·intro w'
         go_simp
         with_reducible rfl
        rotate_left
        ·simp only [Act.put, List.setIfInBounds_toArray, List.set_cons_zero, List.set_cons_succ, i64_w, i32_w]
         rfl
        refine pure_ (i := 11) (N := some 80) (v := ?_) (a' := ?_) #[true, false, true, true, true, false, true, true, true, false, true, true, false, false, false, false, false, false, false, false, false, false] rfl rfl (by kernel_rfl) (fun _ _ _ h => h) (Or.inl ⟨by rfl, ?_⟩) ?_ ?_
        rotate_left
        ·intro w'
         go_simp
         with_reducible rfl
        rotate_left
        ·simp only [Act.put, List.setIfInBounds_toArray, List.set_cons_zero, List.set_cons_succ, i64_w, i32_w]
         rfl
        refine pure_ (i := 12) (N := some 81) (v := ?_) (a' := ?_) #[true, false, true, true, true, false, true, true, true, false, true, true, true, false, false, false, false, false, false, false, false, false] rfl rfl (by kernel_rfl) (fun _ _ _ h => h) (Or.inl ⟨by rfl, ?_⟩) ?_ ?_
        rotate_left
        ·intro w'
         go_simp
         with_reducible rfl
        rotate_left
        ·simp only [Act.put, List.setIfInBounds_toArray, List.set_cons_zero, List.set_cons_succ, i64_w, i32_w]
         rfl
        refine pure_ (i := 14) (N := some 83) (v := ?_) (a' := ?_) #[true, false, true, true, true, false, true, true, true, false, true, true, true, false, true, false, false, false, false, false, false, false] rfl rfl (by kernel_rfl) (fun _ _ _ h => h) (Or.inl ⟨by rfl, ?_⟩) ?_ ?_
        rotate_left
        ·intro w'
         go_simp
         with_reducible rfl
        rotate_left
        ·simp only [Act.put, List.setIfInBounds_toArray, List.set_cons_zero, List.set_cons_succ, i64_w, i32_w]
         rfl
        refine take_ (i := 1) (N := some 70) (v := ?_) (a' := ?_) #[true, true, true, true, true, false, true, true, true, false, true, true, true, false, true, false, false, false, false, false, false, false] rfl rfl (by kernel_rfl) (fun _ _ _ h => h) (Or.inl ⟨by rfl, ?_⟩) hHeld ?_ ?_
        rotate_left
        ·rintro w' ⟨s0, s1, s2, s3⟩
         go_simp
         with_reducible rfl
        rotate_left
        ·simp only [Act.put, List.setIfInBounds_toArray, List.set_cons_zero, List.set_cons_succ, i64_w, i32_w]
         rfl
        refine take_ (i := 5) (N := some 74) (v := ?_) (a' := ?_) #[true, true, true, true, true, true, true, true, true, false, true, true, true, false, true, false, false, false, false, false, false, false] rfl rfl (by kernel_rfl) (fun _ _ _ h => h) (Or.inl ⟨by rfl, ?_⟩) hHeld ?_ ?_
        rotate_left
        ·rintro w' ⟨s0, s1, s2, s3⟩
         go_simp
         with_reducible rfl
        rotate_left
        ·simp only [Act.put, List.setIfInBounds_toArray, List.set_cons_zero, List.set_cons_succ, i64_w, i32_w]
         rfl
        refine take_ (i := 9) (N := some 78) (v := ?_) (a' := ?_) #[true, true, true, true, true, true, true, true, true, true, true, true, true, false, true, false, false, false, false, false, false, false] rfl rfl (by kernel_rfl) (fun _ _ _ h => h) (Or.inl ⟨by rfl, ?_⟩) hHeld ?_ ?_
        rotate_left
        ·rintro w' ⟨s0, s1, s2, s3⟩
         go_simp
         with_reducible rfl
        rotate_left
        ·simp only [Act.put, List.setIfInBounds_toArray, List.set_cons_zero, List.set_cons_succ, i64_w, i32_w]
         rfl
        refine take_ (i := 13) (N := some 82) (v := ?_) (a' := ?_) #[true, true, true, true, true, true, true, true, true, true, true, true, true, true, true, false, false, false, false, false, false, false] rfl rfl (by kernel_rfl) (fun _ _ _ h => h) (Or.inl ⟨by rfl, ?_⟩) hHeld ?_ ?_
        rotate_left
        ·rintro w' ⟨s0, s1, s2, s3⟩
         go_simp
         with_reducible rfl
        rotate_left
        ·simp only [Act.put, List.setIfInBounds_toArray, List.set_cons_zero, List.set_cons_succ, i64_w, i32_w]
         rfl
        refine pure_ (i := 15) (N := some 84) (v := ?_) (a' := ?_) #[true, true, true, true, true, true, true, true, true, true, true, true, true, true, true, true, false, false, false, false, false, false] rfl rfl (by kernel_rfl) (fun _ _ _ h => h) (Or.inl ⟨by rfl, ?_⟩) ?_ ?_
        rotate_left
        ·intro w'
         go_simp
         with_reducible rfl
        rotate_left
        ·simp only [Act.put, List.setIfInBounds_toArray, List.set_cons_zero, List.set_cons_succ, i64_w, i32_w]
         rfl
        refine pure_ (i := 16) (N := some 85) (v := ?_) (a' := ?_) #[true, true, true, true, true, true, true, true, true, true, true, true, true, true, true, true, true, false, false, false, false, false] rfl rfl (by kernel_rfl) (fun _ _ _ h => h) (Or.inl ⟨by rfl, ?_⟩) ?_ ?_
        rotate_left
        ·intro w'
         go_simp
         with_reducible rfl
        rotate_left
        ·simp only [Act.put, List.setIfInBounds_toArray, List.set_cons_zero, List.set_cons_succ, i64_w, i32_w]
         rfl
        refine take_ (i := 17) (N := some 86) (v := ?_) (a' := ?_) #[true, true, true, true, true, true, true, true, true, true, true, true, true, true, true, true, true, true, false, false, false, false] rfl rfl (by kernel_rfl) (fun _ _ _ h => h) (Or.inl ⟨by rfl, ?_⟩) hHeld ?_ ?_
        rotate_left
        ·rintro w' ⟨s0, s1, s2, s3⟩
         go_simp
         with_reducible rfl
        rotate_left
        ·simp only [Act.put, List.setIfInBounds_toArray, List.set_cons_zero, List.set_cons_succ, i64_w, i32_w]
         rfl
        refine one_ (i := 18) (N := some 87) #[true, true, true, true, true, true, true, true, true, true, true, true, true, true, true, true, true, true, true, false, false, false] rfl rfl (by kernel_rfl) (by decide) (fun K hK => ?_)
        refine value_ (w1 := ?_) (v := ?_) (by rfl) rfl ?_ ?_
        rotate_left 2
        ·go_simp
         constructor
         ·rfl
         ·rfl
        refine hK.out _ _ ⟨(World.cell?_alloc_lt _ _ _ (World.block_lt_of_cell? _ _ hHeld.1)).trans hHeld.1, (World.cell?_alloc_lt _ _ _ (World.block_lt_of_cell? _ _ hHeld.2.1)).trans hHeld.2.1, (World.cell?_alloc_lt _ _ _ (World.block_lt_of_cell? _ _ hHeld.2.2.1)).trans hHeld.2.2.1, conv_len hlen55_ (Kd.C_string (P := Tryd.prog) (A := A55) (c := (cb - t130.toNat)) Tryd.underlying34 Tryd.underlying5 Tryd.underlying9 (Kd.C_keep 0 HR131.out k9 hf131))⟩ (fun hHeld => ?_)
        clear hK K
        refine norm_ (a' := ?_) ?_ ?_
        rotate_left
        ·show Act.put _ (some 87) _ = _
         simp only [Act.put, List.setIfInBounds_toArray, List.set_cons_zero, List.set_cons_succ, i64_w, i32_w]
         rfl
        refine last_ (i := 19) (N := some 88) #[true, true, true, true, true, true, true, true, true, true, true, true, true, true, true, true, true, true, true, true, false, false] rfl rfl (by kernel_rfl) (by decide) (fun K hK => ?_)
        refine Kd.R_append_step Kd.string w.heap.size (by rfl) (.tmp 70) (.tmp 87) 24 9 (.string ⟨#[]⟩) 16 rfl Tryd.underlying24 info9 rfl (by decide) (by omega) u112002 x112002_3 (strOfNums ((s0_0.take ((wrap64 (t130 + t127)) : Int).toNat).drop (t130 : Int).toNat)) [.string (strOfNums ((s0_0.take ((wrap64 (t130 + t127)) : Int).toNat).drop (t130 : Int).toNat))] (fun _ => True) (fun _ => False) rfl rfl ?aP (fun _ hk => hk.elim) ?aF ?aO (Below.refl _ _) ?aS ?aL ?_
        (case aP => exact rfl)
        (case aF => exact (fun _ _ => trivial))
        (case aO => exact (by (with_reducible repeat (first | apply Kd.R_alloc | apply Kd.R_drewN | apply Kd.R_drew)); exact HO_112002.out))
        (case aS => exact (keep_size (w := w) (g := g) (row := none) k9))
        (case aL => have := LMc49.out; omega)
        intro v133 w57 ho hb hg hat
        rw [← Ny132.out] at ho
        have n0_ := am (Kd.R_over' (by (with_reducible repeat (first | apply Kd.R_alloc | apply Kd.R_drewN | apply Kd.R_drew)); exact HO_112001.out) (Kd.R_typed (by (with_reducible repeat (first | apply Kd.R_alloc | apply Kd.R_drewN | apply Kd.R_drew)); exact HO_112002.out)) (by decide) hg)
        have n1_ := am (blk_grown (g := gb106) (o := .cells #[.slice none 0 0, .slice none 0 0, .slice none 0 0] 26 (0, 0)) (bu BK106.out) hg (Kd.R_ne HO_112002.out BK106.out (by decide)))
        have n2_ := am (blk_grown (g := gb111) (o := .cells #[.slice none 0 0, u112001, u112002] 26 (0, 0)) (bu BK111.out) hg (Kd.R_ne HO_112002.out BK111.out (by decide)))
        have n3_ := am (IsS95.grown s9 hg (IsS95.own_ne HI0.out HO_112002.out (by decide)))
        have n4_ := am (below_weaken b9 HL.out hb)
        have n5_ := am (KeepBut.trans k9 (KeepBut.of_grown hg g) (Kd.R_base2 HO_112002.out))
        have n6_ := am (ho)
        clear HO_112001
        clear BK106
        clear BK111
        clear HI0
        clear HB
        clear HK
        clear HO_112002
        have HO_112001 := n0_
        have BK106 := n1_
        have BK111 := n2_
        have HI0 := n3_
        have HB := n4_
        have HK := n5_
        have HO134 := n6_
        clear n0_ n1_ n2_ n3_ n4_ n5_ n6_
        clear ho hb hg hat
        obtain ⟨Ao58, co58, eo58⟩ := Kd.R_slice HO134.out
        subst eo58
        obtain ⟨⟨hcz59_0, hcz59_1, hcz59_2⟩, hfz59_0, hfz59_1, hfz59_2⟩ := blkAll3 BK111
        obtain ⟨ASz60_0, cSz60_0, HGz60, hgz60, HSz60_0⟩ := HI0.out
        have hcz60_0 := cellS95_0 HGz60
        have hcz60_1 := cellS95_1 HGz60
        have hfz60_1 := blk_frozen HGz60 1
        clear HGz60 hgz60
        refine hK.out _ _ ?_
        clear hK K
        refine norm_ (a' := ?_) ?_ ?_
        rotate_left
        ·show Act.put _ (some 88) _ = _
         simp only [Act.put, List.setIfInBounds_toArray, List.set_cons_zero, List.set_cons_succ, i64_w, i32_w]
         rfl
        refine pure_ (i := 20) (N := some 89) (v := ?_) (a' := ?_) #[true, true, true, true, true, true, true, true, true, true, true, true, true, true, true, true, true, true, true, true, true, false] rfl rfl (by kernel_rfl) (fun _ _ _ h => h) (Or.inl ⟨by rfl, ?_⟩) ?_ ?_
        rotate_left
        ·intro w'
         go_simp
         with_reducible rfl
        rotate_left
        ·simp only [Act.put, List.setIfInBounds_toArray, List.set_cons_zero, List.set_cons_succ, i64_w, i32_w]
         rfl
        refine last_ (i := 21) (N := none) #[true, true, true, true, true, true, true, true, true, true, true, true, true, true, true, true, true, true, true, true, true, true] rfl rfl (by kernel_rfl) (by decide) (fun K hK => ?_)
        refine skip_ (w1 := ?_) (by rfl) rfl ?_ ?_
        rotate_left
        ·go_simp
         rfl
        refine hK.out _ _ ?_
        clear hK K
        refine done_ (by kernel_rfl) ?_
        go_wp2
        repeat (go_quiet (fail); try go_wp2)
        go_roundg k3
        case measure => have := HK1.out; have := HK2.out; have := HK3.out; omega
        case rel => exact ⟨(wrap64 (x47_3 + 1)), (wrap64 (t130 + t127)), (y132), (.slice Ao58 y132.length co58), tv, H', ⟨by have := HK1.out; have := HK2.out; have := HK3.out; omega⟩, ⟨by (with_reducible repeat (first | apply Kd.R_alloc | apply Kd.R_drewN | apply Kd.R_drew)); exact Kd.R_mono (Kd.R_far (p := ⟨g, 1, none⟩) (Kd.R_far (p := ⟨gb111, 2, none⟩) (IsS95.apart HI0.out (Kd.R_types HO_112001.out BK111.out (by decide)) (by decide)) (fun _ hk => hk.1.2) (.slice Ao58 y132.length co58)) (fun _ hk => hk.2) (.int .i64 (wrap64 (t130 + t127)))) (fun _ hk => trivial)⟩, ⟨by (with_reducible repeat (first | apply Kd.R_alloc | apply Kd.R_drewN | apply Kd.R_drew)); exact Kd.R_mono (Kd.R_far (p := ⟨g, 1, none⟩) (Kd.R_far (p := ⟨gb111, 2, none⟩) (IsS95.apart HI0.out (Kd.R_types HO134.out BK111.out (by decide)) (by decide)) (fun _ hk => hk.1.2) (.slice Ao58 y132.length co58)) (fun _ hk => hk.2) (.int .i64 (wrap64 (t130 + t127)))) (fun _ hk => trivial)⟩, ⟨by refine bu ?_; refine blk_far ?_ NB106_0.out _; refine bu ?_; refine blk_far ?_ NB106_111.out _; refine bu ?_; exact BK106.out⟩, ⟨by refine bu ?_; refine blk_far ?_ NB111_0.out _; refine bu ?_; refine blk_put (cs := #[.slice none 0 0, u112001, u112002]) ?_ 2 _ rfl; refine bu ?_; exact BK111.out⟩, ⟨by repeat (first | (with_reducible first | exact HI0.out | apply IsS95.alloc | apply IsS95.drewN | apply IsS95.drew | refine IsS95.set_1 (f1 := t130) ?_ _ | refine IsS95.far ?_ NB0_106.out _ | refine IsS95.far ?_ NB0_111.out _) | exact HI0.out)⟩, ⟨k9⟩, ⟨b9⟩⟩
       rw [if_neg c39] at H
       have c39b0 := decide_eq_false c39
       clear c39
       replace H := Option.bind_eq_some_iff.mp H
       obtain ⟨⟨t136, t137, t138, t139⟩, A610, H⟩ := H
       replace H : (if t137 = 1 then (some (([] : List (S41)), ([] : List Int), ([] : List ByteArray), 1, t138, t139)) else (r_code.l4 k3 t136 0 s0_0 t139 ([] : List (S41)) x112001_2 x112002_3)) = some (r1, r2, r3, r4, r5, r6) := H
       have A61 := am A610
       clear A610
       by_cases c62 : t137 = 1
       ·rw [if_pos c62] at H
        have c62b0 : (t137 == 1) = true := beq_iff_eq.mpr c62
        have c62b1 : (t137 != 1) = false := bne_eq_false_iff_eq.mpr c62
        clear c62
        simp only [Option.some.injEq, Prod.mk.injEq] at H
        obtain ⟨rfl, rfl, rfl, rfl, rfl, rfl⟩ := H
        go_wp2_with (first | ((with_reducible refine gate_callee (f := 25) rfl ?_); refine goesL_ (some 99) rfl rfl Tryd.func25 (by kernel_rfl) rfl #[] rfl (by first | rfl | simp) ?_; (with_reducible refine (xRows.calls _).mono ?_); rintro e wq_ ⟨rfl, hq_⟩; refine ⟨_, rfl, ?_⟩; refine tab_event (T := 8) (B := 99) rfl rfl rfl rfl rfl rfl ?hx_ ?hy_ ?_; (case hx_ => intro v; first | rfl | (go_simp; done)); (case hy_ => intro v; first | rfl | (go_simp; done)); intro gb135 adT_ hg0_ hadT_ w63 hbox hb0_; have hb := below_then hq_ hq_.size hb0_; have hg := Nat.le_trans hq_.size hg0_; clear hq_ hg0_ hb0_; have n0_ := am (Kd.R_below (by (with_reducible repeat (first | apply Kd.R_alloc | apply Kd.R_drewN | apply Kd.R_drew)); exact HO_112001.out) hb); have n1_ := am (Kd.R_below (by (with_reducible repeat (first | apply Kd.R_alloc | apply Kd.R_drewN | apply Kd.R_drew)); exact HO_112002.out) hb); have n2_ := am (blk_below (bu BK106.out) hb); have n3_ := am (blk_below (bu BK111.out) hb); have n4_ := am (IsS95.below s9 hb); have n5_ := am (KeepBut.trans k9 (KeepBut.of_below hb g none) (.inl rfl)); have n6_ := am (below_step b9 hb); have n7_ := am (hbox); have n8_ := am ((exact_le hg (keep_size (w := w) (g := g) (row := none) k9) : w.heap.size ≤ gb135)); have n9_ := am ((Nat.le_trans HW0.out (exact_le hg (keep_size (w := w) (g := g) (row := none) k9) : w.heap.size ≤ gb135) : w0.heap.size ≤ gb135)); have n10_ := am ((ne_lt_le hg (blk_lt (bu BK106.out)) : gb106 ≠ gb135)); have n11_ := am ((ne_gt_le hg (blk_lt (bu BK106.out)) : gb135 ≠ gb106)); have n12_ := am ((ne_lt_le hg (blk_lt (bu BK111.out)) : gb111 ≠ gb135)); have n13_ := am ((ne_gt_le hg (blk_lt (bu BK111.out)) : gb135 ≠ gb111)); have n14_ := am ((ne_lt_le hg (IsS95.lt (show IsS95 Ab cb w0 _ g s0_0 x1001_3 from s9)) : g ≠ gb135)); have n15_ := am ((ne_gt_le hg (IsS95.lt (show IsS95 Ab cb w0 _ g s0_0 x1001_3 from s9)) : gb135 ≠ g)); clear HO_112001; clear HO_112002; clear BK106; clear BK111; clear HI0; clear HK; clear HB; have HO_112001 := n0_; have HO_112002 := n1_; have BK106 := n2_; have BK111 := n3_; have HI0 := n4_; have HK := n5_; have HB := n6_; have BK135 := n7_; have GW135 := n8_; have GE135 := n9_; have NB106_135 := n10_; have NB135_106 := n11_; have NB111_135 := n12_; have NB135_111 := n13_; have NB0_135 := n14_; have NB135_0 := n15_; clear n0_ n1_ n2_ n3_ n4_ n5_ n6_ n7_ n8_ n9_ n10_ n11_ n12_ n13_ n14_ n15_; clear hb hbox hg) | (go_at_call 63; (with_reducible refine (r_number.calls (Ab := Ab) (cb := cb) k3 g s0_0 x1001_3 t136 t137 t138 t139 w0 _ ?side1 ?side2 A61.out).mono ?_); (case side1 => exact s9); (case side2 => exact b9); rintro e w64 ⟨ho, hi, hb, hk⟩; rcases ho with ⟨hm_, rfl⟩ | ⟨hm_, rfl⟩; (all_goals (first | exact absurd hm_ (mk0 (by assumption)) | exact absurd hm_ (mk1 (by assumption)) | skip)); have n0_ := am (Kd.R_mono (Kd.R_keep (IsS95.apart (show IsS95 Ab cb w0 _ g s0_0 x1001_3 from s9) (by (with_reducible repeat (first | apply Kd.R_alloc | apply Kd.R_drewN | apply Kd.R_drew)); exact HO_112001.out) (by decide)) hk (fun _ h => h.2)) (fun _ h => h.1)); have n1_ := am (Kd.R_mono (Kd.R_keep (IsS95.apart (show IsS95 Ab cb w0 _ g s0_0 x1001_3 from s9) (by (with_reducible repeat (first | apply Kd.R_alloc | apply Kd.R_drewN | apply Kd.R_drew)); exact HO_112002.out) (by decide)) hk (fun _ h => h.2)) (fun _ h => h.1)); have n2_ := am (KeepBut.blk hk (g' := gb106) (o := .cells #[.slice none 0 0, .slice none 0 0, .slice none 0 0] 26 (0, 0)) (bu BK106.out) NB106_0.out (by simp)); have n3_ := am (KeepBut.blk hk (g' := gb111) (o := .cells #[.slice none 0 0, u112001, u112002] 26 (0, 0)) (bu BK111.out) NB111_0.out (by simp)); have n4_ := am (KeepBut.blk hk (g' := gb135) (o := .cells tabC 73 (0, 0)) (bu BK135.out) NB135_0.out (by simp)); have n5_ := am (KeepBut.trans k9 hk (.inl rfl)); have n6_ := am (hb); have n7_ := am (hi); clear HO_112001; clear HO_112002; clear BK106; clear BK111; clear BK135; clear HK; clear HB; clear HI0; have HO_112001 := n0_; have HO_112002 := n1_; have BK106 := n2_; have BK111 := n3_; have BK135 := n4_; have HK := n5_; have HB := n6_; have HI0 := n7_; clear n0_ n1_ n2_ n3_ n4_ n5_ n6_ n7_; (try clear hb); (try clear hb2); (try clear hk); (try clear hi)))
        repeat (go_quiet (fail); try go_wp2)
        refine ⟨rfl, ?_⟩
        exact ⟨_, _, _, .inr ⟨rfl, rfl⟩, nil9, nil9, nil9, s9, b9, k9⟩
       rw [if_neg c62] at H
       have c62b0 : (t137 == 1) = false := beq_eq_false_iff_ne.mpr c62
       have c62b1 : (t137 != 1) = true := bne_iff_ne.mpr c62
       have H' := am H
       clear H
       go_wp2_with (first | ((with_reducible refine gate_callee (f := 25) rfl ?_); refine goesL_ (some 99) rfl rfl Tryd.func25 (by kernel_rfl) rfl #[] rfl (by first | rfl | simp) ?_; (with_reducible refine (xRows.calls _).mono ?_); rintro e wq_ ⟨rfl, hq_⟩; refine ⟨_, rfl, ?_⟩; refine tab_event (T := 8) (B := 99) rfl rfl rfl rfl rfl rfl ?hx_ ?hy_ ?_; (case hx_ => intro v; first | rfl | (go_simp; done)); (case hy_ => intro v; first | rfl | (go_simp; done)); intro gb135 adT_ hg0_ hadT_ w65 hbox hb0_; have hb := below_then hq_ hq_.size hb0_; have hg := Nat.le_trans hq_.size hg0_; clear hq_ hg0_ hb0_; have n0_ := am (Kd.R_below (by (with_reducible repeat (first | apply Kd.R_alloc | apply Kd.R_drewN | apply Kd.R_drew)); exact HO_112001.out) hb); have n1_ := am (Kd.R_below (by (with_reducible repeat (first | apply Kd.R_alloc | apply Kd.R_drewN | apply Kd.R_drew)); exact HO_112002.out) hb); have n2_ := am (blk_below (bu BK106.out) hb); have n3_ := am (blk_below (bu BK111.out) hb); have n4_ := am (IsS95.below s9 hb); have n5_ := am (KeepBut.trans k9 (KeepBut.of_below hb g none) (.inl rfl)); have n6_ := am (below_step b9 hb); have n7_ := am (hbox); have n8_ := am ((exact_le hg (keep_size (w := w) (g := g) (row := none) k9) : w.heap.size ≤ gb135)); have n9_ := am ((Nat.le_trans HW0.out (exact_le hg (keep_size (w := w) (g := g) (row := none) k9) : w.heap.size ≤ gb135) : w0.heap.size ≤ gb135)); have n10_ := am ((ne_lt_le hg (blk_lt (bu BK106.out)) : gb106 ≠ gb135)); have n11_ := am ((ne_gt_le hg (blk_lt (bu BK106.out)) : gb135 ≠ gb106)); have n12_ := am ((ne_lt_le hg (blk_lt (bu BK111.out)) : gb111 ≠ gb135)); have n13_ := am ((ne_gt_le hg (blk_lt (bu BK111.out)) : gb135 ≠ gb111)); have n14_ := am ((ne_lt_le hg (IsS95.lt (show IsS95 Ab cb w0 _ g s0_0 x1001_3 from s9)) : g ≠ gb135)); have n15_ := am ((ne_gt_le hg (IsS95.lt (show IsS95 Ab cb w0 _ g s0_0 x1001_3 from s9)) : gb135 ≠ g)); clear HO_112001; clear HO_112002; clear BK106; clear BK111; clear HI0; clear HK; clear HB; have HO_112001 := n0_; have HO_112002 := n1_; have BK106 := n2_; have BK111 := n3_; have HI0 := n4_; have HK := n5_; have HB := n6_; have BK135 := n7_; have GW135 := n8_; have GE135 := n9_; have NB106_135 := n10_; have NB135_106 := n11_; have NB111_135 := n12_; have NB135_111 := n13_; have NB0_135 := n14_; have NB135_0 := n15_; clear n0_ n1_ n2_ n3_ n4_ n5_ n6_ n7_ n8_ n9_ n10_ n11_ n12_ n13_ n14_ n15_; clear hb hbox hg) | (go_at_call 63; (with_reducible refine (r_number.calls (Ab := Ab) (cb := cb) k3 g s0_0 x1001_3 t136 t137 t138 t139 w0 _ ?side1 ?side2 A61.out).mono ?_); (case side1 => exact s9); (case side2 => exact b9); rintro e w66 ⟨ho, hi, hb, hk⟩; rcases ho with ⟨hm_, rfl⟩ | ⟨hm_, rfl⟩; (all_goals (first | exact absurd hm_ (mk0 (by assumption)) | exact absurd hm_ (mk1 (by assumption)) | skip)); have n0_ := am (Kd.R_mono (Kd.R_keep (IsS95.apart (show IsS95 Ab cb w0 _ g s0_0 x1001_3 from s9) (by (with_reducible repeat (first | apply Kd.R_alloc | apply Kd.R_drewN | apply Kd.R_drew)); exact HO_112001.out) (by decide)) hk (fun _ h => h.2)) (fun _ h => h.1)); have n1_ := am (Kd.R_mono (Kd.R_keep (IsS95.apart (show IsS95 Ab cb w0 _ g s0_0 x1001_3 from s9) (by (with_reducible repeat (first | apply Kd.R_alloc | apply Kd.R_drewN | apply Kd.R_drew)); exact HO_112002.out) (by decide)) hk (fun _ h => h.2)) (fun _ h => h.1)); have n2_ := am (KeepBut.blk hk (g' := gb106) (o := .cells #[.slice none 0 0, .slice none 0 0, .slice none 0 0] 26 (0, 0)) (bu BK106.out) NB106_0.out (by simp)); have n3_ := am (KeepBut.blk hk (g' := gb111) (o := .cells #[.slice none 0 0, u112001, u112002] 26 (0, 0)) (bu BK111.out) NB111_0.out (by simp)); have n4_ := am (KeepBut.blk hk (g' := gb135) (o := .cells tabC 73 (0, 0)) (bu BK135.out) NB135_0.out (by simp)); have n5_ := am (KeepBut.trans k9 hk (.inl rfl)); have n6_ := am (hb); have n7_ := am (hi); clear HO_112001; clear HO_112002; clear BK106; clear BK111; clear BK135; clear HK; clear HB; clear HI0; have HO_112001 := n0_; have HO_112002 := n1_; have BK106 := n2_; have BK111 := n3_; have BK135 := n4_; have HK := n5_; have HB := n6_; have HI0 := n7_; clear n0_ n1_ n2_ n3_ n4_ n5_ n6_ n7_; (try clear hb); (try clear hb2); (try clear hk); (try clear hi)))
       repeat (go_quiet (fail); try go_wp2)
       go_loopg [102] k3 (fun kq v102 w' => ∃ (x102_4 : Int) (x1001_4 : Int) (x112000_4 : List (S41)) (u112000 : Value), v102 = .int .i64 x102_4 ∧ Aside0 (r_code.l4 kq t136 x102_4 s0_0 x1001_4 x112000_4 x112001_2 x112002_3 = some (r1, r2, r3, r4, r5, r6)) ∧ Aside0 (kq ≤ k3) ∧ Aside0 (Kd.R k41 41 w' w.heap.size (fun _ => True) u112000 x112000_4) ∧ Aside0 (Kd.R (Kd.int .u64) 66 w' w.heap.size (fun _ => True) u112001 x112001_2) ∧ Aside0 (Kd.R Kd.string 9 w' w.heap.size (fun _ => True) u112002 x112002_3) ∧ Aside0 (w'.heap[gb106]? = some (.cells #[(.slice none 0 0), (.slice none 0 0), (.slice none 0 0)] 26 (0, 0))) ∧ Aside0 (w'.heap[gb111]? = some (.cells #[u112000, u112001, u112002] 26 (0, 0))) ∧ Aside0 (w'.heap[gb135]? = some (.cells tabC 73 (0, 0))) ∧ Aside0 (IsS95 Ab cb w0 w' g s0_0 x1001_4) ∧ Aside0 (KeepBut w w' g none) ∧ Aside0 (Below w0.heap.size w0 w'))
       case atStart => exact ⟨(0), (t139), (([] : List (S41))), (.slice none 0 0), tv, H', ⟨Nat.le_refl _⟩, ⟨nil9⟩, ⟨by (with_reducible repeat (first | apply Kd.R_alloc | apply Kd.R_drewN | apply Kd.R_drew)); exact HO_112001.out⟩, ⟨by (with_reducible repeat (first | apply Kd.R_alloc | apply Kd.R_drewN | apply Kd.R_drew)); exact HO_112002.out⟩, ⟨by refine bu ?_; exact BK106.out⟩, ⟨by refine bu ?_; exact BK111.out⟩, ⟨by refine bu ?_; exact BK135.out⟩, ⟨s9⟩, ⟨k9⟩, ⟨b9⟩⟩
       case round =>
        clear H'
        try clear c1
        try clear c2
        try clear p2
        try clear c3
        try clear c4
        try clear c4b0
        try clear c5
        try clear hcv5
        try clear c6
        try clear c6b0
        try clear c6b1
        try clear p6
        try clear c8
        try clear c8b0
        try clear p9
        try clear q9
        try clear hx9
        try clear c10
        try clear c10b0
        try clear c10b1
        try clear hf13
        try clear c14
        try clear c14b0
        try clear c14b1
        try clear c19
        try clear c19b0
        try clear c20
        try clear c20b0
        try clear c22
        try clear c22b0
        try clear c22b1
        try clear c25
        try clear c25b0
        try clear c25b1
        try clear c28
        try clear c29
        try clear c30
        try clear c36
        try clear c36b0
        try clear c36b1
        try clear c39
        try clear c39b0
        try clear c41
        try clear c41b0
        try clear c41b1
        try clear c42
        try clear c43
        try clear c43b0
        try clear c46
        try clear c46b0
        try clear c46b1
        try clear c47
        try clear c47b0
        try clear c47b1
        try clear c48
        try clear c48b0
        try clear c48b1
        try clear c49
        try clear c52
        try clear c53
        try clear hcv56
        try clear c62
        try clear c62b0
        try clear c62b1
        try clear p64
        try clear hcz31_0 hcz31_1 hcz31_2
        try clear hcz34_0 hcz34_1 hcz34_2
        try clear hcz45_0 hcz45_1
        try clear hcz51_0 hcz51_1
        try clear hcz54_0 hcz54_1 hcz54_2
        try clear hcz59_0 hcz59_1 hcz59_2
        try clear hcz60_0 hcz60_1
        try clear hfz31_0 hfz31_1 hfz31_2
        try clear hfz34_0 hfz34_1 hfz34_2
        try clear hfz45_1
        try clear hfz51_1
        try clear hfz54_0 hfz54_1 hfz54_2
        try clear hfz59_0 hfz59_1 hfz59_2
        try clear hfz60_1
        try clear p2
        try clear p6
        try clear p9
        try clear q9
        obtain ⟨x102_4, x1001_4, x112000_4, u112000, rfl, HA, HK4, HO_112000, HO_112001, HO_112002, BK106, BK111, BK135, HI0, HK, HB⟩ := hrel
        cases gk with
        | zero => exact absurd HA.out (by simp [r_code.l4])
        | succ k4 =>
         have H := HA.out
         clear HA
         simp only [r_code.l4] at H
         by_cases c67 : x102_4 < t136
         rotate_left
         ·rw [if_neg c67] at H
          have c67b0 := decide_eq_false c67
          clear c67
          by_cases c143 : x1001_4 < (s0_0.length : Int)
          ·rw [if_pos c143] at H
           have c143b0 := decide_eq_true c143
           clear c143
           simp only [Option.some.injEq, Prod.mk.injEq] at H
           obtain ⟨rfl, rfl, rfl, rfl, rfl, rfl⟩ := H
           obtain ⟨ASz144_0, cSz144_0, HGz144, hgz144, HSz144_0⟩ := HI0.out
           have hcz144_0 := cellS95_0 HGz144
           have hcz144_1 := cellS95_1 HGz144
           have hfz144_1 := blk_frozen HGz144 1
           clear HGz144 hgz144
           go_wp2
           repeat (go_quiet (fail); try go_wp2)
           refine ⟨rfl, ?_⟩
           exact ⟨_, _, _, .inr ⟨rfl, rfl⟩, nil9, nil9, nil9, s9, b9, k9⟩
          rw [if_neg c143] at H
          have c143b0 := decide_eq_false c143
          clear c143
          simp only [Option.some.injEq, Prod.mk.injEq] at H
          obtain ⟨rfl, rfl, rfl, rfl, rfl, rfl⟩ := H
          obtain ⟨ASz145_0, cSz145_0, HGz145, hgz145, HSz145_0⟩ := HI0.out
          have hcz145_0 := cellS95_0 HGz145
          have hcz145_1 := cellS95_1 HGz145
          have hfz145_1 := blk_frozen HGz145 1
          clear HGz145 hgz145
          have hnb146 := NB111_106.out
          have hnc146 := NB106_111.out
          have hnb147 := NB111_135.out
          have hnc147 := NB135_111.out
          have hnb148 := NB111_0.out
          have hnc148 := NB0_111.out
          obtain ⟨⟨hcz149_0, hcz149_1, hcz149_2⟩, hfz149_0, hfz149_1, hfz149_2⟩ := blkAll3 BK111
          obtain ⟨Ao150, co150, eo150⟩ := Kd.R_slice HO_112000.out
          subst eo150
          have hnb151 := NB106_135.out
          have hnc151 := NB135_106.out
          have hnb152 := NB106_0.out
          have hnc152 := NB0_106.out
          obtain ⟨⟨hcz153_0, hcz153_1, hcz153_2⟩, hfz153_0, hfz153_1, hfz153_2⟩ := blkAll3 BK106
          obtain ⟨Ao154, co154, eo154⟩ := Kd.R_slice HO_112001.out
          subst eo154
          obtain ⟨Ao155, co155, eo155⟩ := Kd.R_slice HO_112002.out
          subst eo155
          go_wp2
          repeat (go_quiet (fail); try go_wp2)
          refine bodyPost_ret (results_cell_row rfl _ _ gb106 26 #[.slice Ao150 x112000_4.length co150, .slice Ao154 x112001_2.length co154, .slice Ao155 x112002_3.length co155] (0, 0) _ rfl (by refine bu ?_; refine blk_put (cs := #[.slice Ao150 x112000_4.length co150, .slice Ao154 x112001_2.length co154, .slice none 0 0]) ?_ 2 _ rfl; refine bu ?_; refine blk_put (cs := #[.slice Ao150 x112000_4.length co150, .slice none 0 0, .slice none 0 0]) ?_ 1 _ rfl; refine bu ?_; refine blk_put (cs := #[.slice none 0 0, .slice none 0 0, .slice none 0 0]) ?_ 0 _ rfl; refine bu ?_; exact BK106.out) Tryd.underlying26 rfl (by kernel_rfl)) rfl ?_
          exact ⟨_, _, _, .inl ⟨rfl, er⟩, by (with_reducible repeat (first | apply Kd.R_alloc | apply Kd.R_drewN | apply Kd.R_drew)); exact Kd.R_mono (Kd.R_far (p := ⟨gb106, 2, none⟩) (Kd.R_far (p := ⟨gb106, 1, none⟩) (Kd.R_far (p := ⟨gb106, 0, none⟩) (Kd.R_types HO_112000.out BK106.out (by decide)) (fun _ hk => hk.2) (.slice Ao150 x112000_4.length co150)) (fun _ hk => hk.2) (.slice Ao154 x112001_2.length co154)) (fun _ hk => hk.2) (.slice Ao155 x112002_3.length co155)) (fun _ hk => trivial), by (with_reducible repeat (first | apply Kd.R_alloc | apply Kd.R_drewN | apply Kd.R_drew)); exact Kd.R_mono (Kd.R_far (p := ⟨gb106, 2, none⟩) (Kd.R_far (p := ⟨gb106, 1, none⟩) (Kd.R_far (p := ⟨gb106, 0, none⟩) (Kd.R_types HO_112001.out BK106.out (by decide)) (fun _ hk => hk.2) (.slice Ao150 x112000_4.length co150)) (fun _ hk => hk.2) (.slice Ao154 x112001_2.length co154)) (fun _ hk => hk.2) (.slice Ao155 x112002_3.length co155)) (fun _ hk => trivial), by (with_reducible repeat (first | apply Kd.R_alloc | apply Kd.R_drewN | apply Kd.R_drew)); exact Kd.R_mono (Kd.R_far (p := ⟨gb106, 2, none⟩) (Kd.R_far (p := ⟨gb106, 1, none⟩) (Kd.R_far (p := ⟨gb106, 0, none⟩) (Kd.R_types HO_112002.out BK106.out (by decide)) (fun _ hk => hk.2) (.slice Ao150 x112000_4.length co150)) (fun _ hk => hk.2) (.slice Ao154 x112001_2.length co154)) (fun _ hk => hk.2) (.slice Ao155 x112002_3.length co155)) (fun _ hk => trivial), s9, b9, k9⟩
         rw [if_pos c67] at H
         have c67b0 := decide_eq_true c67
         clear c67
         replace H := Option.bind_eq_some_iff.mp H
         obtain ⟨⟨t140, t141, t142, t143⟩, A680, H⟩ := H
         replace H : (if t141 = 1 then (some (([] : List (S41)), ([] : List Int), ([] : List ByteArray), 1, t142, t143)) else ((c_within.f (wrap64 (t140)) 1 33).bind fun t145 => (if t145 = true then (if 0 ≤ (wrap64 (t140)) then (if (wrap64 (t140)) < (tabL.length : Int) then (if ((rd_T72 tabL (wrap64 (t140))).f1) = 0 then (r_code.j5 k4 tabL t136 x102_4 s0_0 t143 x112000_4 x112001_2 x112002_3 (wrap64 (t140)) 0 0) else ((r_number.f k4 s0_0 t143).bind fun bt147 => (if bt147.2.1 = 1 then (some (([] : List (S41)), ([] : List Int), ([] : List ByteArray), 1, bt147.2.2.1, bt147.2.2.2)) else (r_code.j5 k4 tabL t136 x102_4 s0_0 bt147.2.2.2 x112000_4 x112001_2 x112002_3 (wrap64 (t140)) bt147.1 0)))) else (none)) else (none)) else (some (([] : List (S41)), ([] : List Int), ([] : List ByteArray), 1, x1001_4, t143))))) = some (r1, r2, r3, r4, r5, r6) := H
         have A68 := am A680
         clear A680
         by_cases c69 : t141 = 1
         ·rw [if_pos c69] at H
          have c69b0 : (t141 == 1) = true := beq_iff_eq.mpr c69
          have c69b1 : (t141 != 1) = false := bne_eq_false_iff_eq.mpr c69
          clear c69
          simp only [Option.some.injEq, Prod.mk.injEq] at H
          obtain ⟨rfl, rfl, rfl, rfl, rfl, rfl⟩ := H
          obtain ⟨ASz70_0, cSz70_0, HGz70, hgz70, HSz70_0⟩ := HI0.out
          have hcz70_0 := cellS95_0 HGz70
          have hcz70_1 := cellS95_1 HGz70
          have hfz70_1 := blk_frozen HGz70 1
          clear HGz70 hgz70
          go_wp2_with (first | (go_at_call 62; (with_reducible refine (r_byte.calls (Ab := Ab) (cb := cb) g s0_0 x1001_4 t140 t141 t142 t143 w0 _ ?side1 ?side2 A68.out).mono ?_); (case side1 => exact s9); (case side2 => exact b9); rintro e w71 ⟨ho, hi, hb, hk⟩; rcases ho with ⟨hm_, rfl⟩ | ⟨hm_, rfl⟩; (all_goals (first | exact absurd hm_ (mk0 (by assumption)) | exact absurd hm_ (mk1 (by assumption)) | skip)); have n0_ := am (Kd.R_mono (Kd.R_keep (IsS95.apart (show IsS95 Ab cb w0 _ g s0_0 x1001_4 from s9) (by (with_reducible repeat (first | apply Kd.R_alloc | apply Kd.R_drewN | apply Kd.R_drew)); exact HO_112000.out) (by decide)) hk (fun _ h => h.2)) (fun _ h => h.1)); have n1_ := am (Kd.R_mono (Kd.R_keep (IsS95.apart (show IsS95 Ab cb w0 _ g s0_0 x1001_4 from s9) (by (with_reducible repeat (first | apply Kd.R_alloc | apply Kd.R_drewN | apply Kd.R_drew)); exact HO_112001.out) (by decide)) hk (fun _ h => h.2)) (fun _ h => h.1)); have n2_ := am (Kd.R_mono (Kd.R_keep (IsS95.apart (show IsS95 Ab cb w0 _ g s0_0 x1001_4 from s9) (by (with_reducible repeat (first | apply Kd.R_alloc | apply Kd.R_drewN | apply Kd.R_drew)); exact HO_112002.out) (by decide)) hk (fun _ h => h.2)) (fun _ h => h.1)); have n3_ := am (KeepBut.blk hk (g' := gb106) (o := .cells #[.slice none 0 0, .slice none 0 0, .slice none 0 0] 26 (0, 0)) (bu BK106.out) NB106_0.out (by simp)); have n4_ := am (KeepBut.blk hk (g' := gb111) (o := .cells #[u112000, u112001, u112002] 26 (0, 0)) (bu BK111.out) NB111_0.out (by simp)); have n5_ := am (KeepBut.blk hk (g' := gb135) (o := .cells tabC 73 (0, 0)) (bu BK135.out) NB135_0.out (by simp)); have n6_ := am (KeepBut.trans k9 hk (.inl rfl)); have n7_ := am (hb); have n8_ := am (hi); clear HO_112000; clear HO_112001; clear HO_112002; clear BK106; clear BK111; clear BK135; clear HK; clear HB; clear HI0; have HO_112000 := n0_; have HO_112001 := n1_; have HO_112002 := n2_; have BK106 := n3_; have BK111 := n4_; have BK135 := n5_; have HK := n6_; have HB := n7_; have HI0 := n8_; clear n0_ n1_ n2_ n3_ n4_ n5_ n6_ n7_ n8_; (try clear hb); (try clear hb2); (try clear hk); (try clear hi)))
          repeat (go_quiet (fail); try go_wp2)
          refine ⟨rfl, ?_⟩
          exact ⟨_, _, _, .inr ⟨rfl, rfl⟩, nil9, nil9, nil9, s9, b9, k9⟩
         rw [if_neg c69] at H
         have c69b0 : (t141 == 1) = false := beq_eq_false_iff_ne.mpr c69
         have c69b1 : (t141 != 1) = true := bne_iff_ne.mpr c69
         replace H := Option.bind_eq_some_iff.mp H
         obtain ⟨t145, A720, H⟩ := H
         replace H : (if t145 = true then (if 0 ≤ (wrap64 (t140)) then (if (wrap64 (t140)) < (tabL.length : Int) then (if ((rd_T72 tabL (wrap64 (t140))).f1) = 0 then (r_code.j5 k4 tabL t136 x102_4 s0_0 t143 x112000_4 x112001_2 x112002_3 (wrap64 (t140)) 0 0) else ((r_number.f k4 s0_0 t143).bind fun bt147 => (if bt147.2.1 = 1 then (some (([] : List (S41)), ([] : List Int), ([] : List ByteArray), 1, bt147.2.2.1, bt147.2.2.2)) else (r_code.j5 k4 tabL t136 x102_4 s0_0 bt147.2.2.2 x112000_4 x112001_2 x112002_3 (wrap64 (t140)) bt147.1 0)))) else (none)) else (none)) else (some (([] : List (S41)), ([] : List Int), ([] : List ByteArray), 1, x1001_4, t143))) = some (r1, r2, r3, r4, r5, r6) := H
         have A72 := am A720
         clear A720
         by_cases c73 : t145 = true
         rotate_left
         ·replace c73 := Bool.eq_false_iff.mpr c73
          subst c73
          have H1 : (some (([] : List (S41)), ([] : List Int), ([] : List ByteArray), 1, x1001_4, t143)) = some (r1, r2, r3, r4, r5, r6) := by rw [if_neg (show ¬ (false = true) by decide)] at H; exact H
          clear H
          have H := H1
          clear H1
          simp only [Option.some.injEq, Prod.mk.injEq] at H
          obtain ⟨rfl, rfl, rfl, rfl, rfl, rfl⟩ := H
          obtain ⟨ASz135_0, cSz135_0, HGz135, hgz135, HSz135_0⟩ := HI0.out
          have hcz135_0 := cellS95_0 HGz135
          have hcz135_1 := cellS95_1 HGz135
          have hfz135_1 := blk_frozen HGz135 1
          clear HGz135 hgz135
          go_wp2_with (first | (go_at_call 62; (with_reducible refine (r_byte.calls (Ab := Ab) (cb := cb) g s0_0 x1001_4 t140 t141 t142 t143 w0 _ ?side1 ?side2 A68.out).mono ?_); (case side1 => exact s9); (case side2 => exact b9); rintro e w136 ⟨ho, hi, hb, hk⟩; rcases ho with ⟨hm_, rfl⟩ | ⟨hm_, rfl⟩; (all_goals (first | exact absurd hm_ (mk0 (by assumption)) | exact absurd hm_ (mk1 (by assumption)) | skip)); have n0_ := am (Kd.R_mono (Kd.R_keep (IsS95.apart (show IsS95 Ab cb w0 _ g s0_0 x1001_4 from s9) (by (with_reducible repeat (first | apply Kd.R_alloc | apply Kd.R_drewN | apply Kd.R_drew)); exact HO_112000.out) (by decide)) hk (fun _ h => h.2)) (fun _ h => h.1)); have n1_ := am (Kd.R_mono (Kd.R_keep (IsS95.apart (show IsS95 Ab cb w0 _ g s0_0 x1001_4 from s9) (by (with_reducible repeat (first | apply Kd.R_alloc | apply Kd.R_drewN | apply Kd.R_drew)); exact HO_112001.out) (by decide)) hk (fun _ h => h.2)) (fun _ h => h.1)); have n2_ := am (Kd.R_mono (Kd.R_keep (IsS95.apart (show IsS95 Ab cb w0 _ g s0_0 x1001_4 from s9) (by (with_reducible repeat (first | apply Kd.R_alloc | apply Kd.R_drewN | apply Kd.R_drew)); exact HO_112002.out) (by decide)) hk (fun _ h => h.2)) (fun _ h => h.1)); have n3_ := am (KeepBut.blk hk (g' := gb106) (o := .cells #[.slice none 0 0, .slice none 0 0, .slice none 0 0] 26 (0, 0)) (bu BK106.out) NB106_0.out (by simp)); have n4_ := am (KeepBut.blk hk (g' := gb111) (o := .cells #[u112000, u112001, u112002] 26 (0, 0)) (bu BK111.out) NB111_0.out (by simp)); have n5_ := am (KeepBut.blk hk (g' := gb135) (o := .cells tabC 73 (0, 0)) (bu BK135.out) NB135_0.out (by simp)); have n6_ := am (KeepBut.trans k9 hk (.inl rfl)); have n7_ := am (hb); have n8_ := am (hi); clear HO_112000; clear HO_112001; clear HO_112002; clear BK106; clear BK111; clear BK135; clear HK; clear HB; clear HI0; have HO_112000 := n0_; have HO_112001 := n1_; have HO_112002 := n2_; have BK106 := n3_; have BK111 := n4_; have BK135 := n5_; have HK := n6_; have HB := n7_; have HI0 := n8_; clear n0_ n1_ n2_ n3_ n4_ n5_ n6_ n7_ n8_; (try clear hb); (try clear hb2); (try clear hk); (try clear hi)) | ((with_reducible refine gate_dst (N := 10) rfl ?_); refine box_event ?hg (N := 10) ?hd (cs := #[.int .i64 0, .int .i64 0, .int .i64 0]) (t := 41) ?hr ?_; (case hd => rfl); (case hg => rfl); (case hr => first | (go_simp; done) | (go_simp; rfl)); intro gb144 hg w137 hbox hb; have n0_ := am (Kd.R_below (Kd.R_elderB (by (with_reducible repeat (first | apply Kd.R_alloc | apply Kd.R_drewN | apply Kd.R_drew)); exact HO_112000.out) gb144 (Nat.le_of_eq hg.symm)) hb); have n1_ := am (Kd.R_below (by (with_reducible repeat (first | apply Kd.R_alloc | apply Kd.R_drewN | apply Kd.R_drew)); exact HO_112001.out) hb); have n2_ := am (Kd.R_below (by (with_reducible repeat (first | apply Kd.R_alloc | apply Kd.R_drewN | apply Kd.R_drew)); exact HO_112002.out) hb); have n3_ := am (blk_below (bu BK106.out) hb); have n4_ := am (blk_below (bu BK111.out) hb); have n5_ := am (blk_below (bu BK135.out) hb); have n6_ := am (IsS95.below s9 hb); have n7_ := am (KeepBut.trans k9 (KeepBut.of_below hb g none) (.inl rfl)); have n8_ := am (below_step b9 hb); have n9_ := am (hbox); have n10_ := am ((by rw [hg]; exact (keep_size (w := w) (g := g) (row := none) k9) : w.heap.size ≤ gb144)); have n11_ := am ((Nat.le_trans HW0.out (by rw [hg]; exact (keep_size (w := w) (g := g) (row := none) k9) : w.heap.size ≤ gb144) : w0.heap.size ≤ gb144)); have n12_ := am ((by rw [hg]; exact Nat.ne_of_lt (blk_lt (bu BK106.out)) : gb106 ≠ gb144)); have n13_ := am ((by rw [hg]; exact Nat.ne_of_gt (blk_lt (bu BK106.out)) : gb144 ≠ gb106)); have n14_ := am ((by rw [hg]; exact Nat.ne_of_lt (blk_lt (bu BK111.out)) : gb111 ≠ gb144)); have n15_ := am ((by rw [hg]; exact Nat.ne_of_gt (blk_lt (bu BK111.out)) : gb144 ≠ gb111)); have n16_ := am ((by rw [hg]; exact Nat.ne_of_lt (blk_lt (bu BK135.out)) : gb135 ≠ gb144)); have n17_ := am ((by rw [hg]; exact Nat.ne_of_gt (blk_lt (bu BK135.out)) : gb144 ≠ gb135)); have n18_ := am ((by rw [hg]; exact Nat.ne_of_lt (IsS95.lt (show IsS95 Ab cb w0 _ g s0_0 t143 from s9)) : g ≠ gb144)); have n19_ := am ((by rw [hg]; exact Nat.ne_of_gt (IsS95.lt (show IsS95 Ab cb w0 _ g s0_0 t143 from s9)) : gb144 ≠ g)); clear HO_112000; clear HO_112001; clear HO_112002; clear BK106; clear BK111; clear BK135; clear HI0; clear HK; clear HB; have HO_112000 := n0_; have HO_112001 := n1_; have HO_112002 := n2_; have BK106 := n3_; have BK111 := n4_; have BK135 := n5_; have HI0 := n6_; have HK := n7_; have HB := n8_; have BK144 := n9_; have GW144 := n10_; have GE144 := n11_; have NB106_144 := n12_; have NB144_106 := n13_; have NB111_144 := n14_; have NB144_111 := n15_; have NB135_144 := n16_; have NB144_135 := n17_; have NB0_144 := n18_; have NB144_0 := n19_; clear n0_ n1_ n2_ n3_ n4_ n5_ n6_ n7_ n8_ n9_ n10_ n11_ n12_ n13_ n14_ n15_ n16_ n17_ n18_ n19_; clear hb hbox hg; have hnb138 := NB144_106.out; have hnc138 := NB106_144.out; have hnb139 := NB144_111.out; have hnc139 := NB111_144.out; have hnb140 := NB144_135.out; have hnc140 := NB135_144.out; have hnb141 := NB144_0.out; have hnc141 := NB0_144.out; obtain ⟨⟨hcz142_0, hcz142_1, hcz142_2⟩, hfz142_0, hfz142_1, hfz142_2⟩ := blkAll3 BK144) | (go_at_call 47; (with_reducible refine (c_within.calls (wrap64 (t140)) 1 33 false _ A72.out).mono ?_); rintro e w' ⟨rfl, ⟨nd, rfl⟩⟩; (try first | exact ⟨rfl, _, World.drewN_drewN _ _ _⟩ | exact ⟨rfl, _, Eq.trans (World.drewN_drewN _ _ _) (congrArg (World.drewN _) (Nat.add_assoc _ _ _))⟩)))
          repeat (go_quiet (fail); try go_wp2)
          refine ⟨rfl, ?_⟩
          exact ⟨_, _, _, .inr ⟨rfl, rfl⟩, nil9, nil9, nil9, s9, b9, k9⟩
         subst c73
         have H1 : (if 0 ≤ (wrap64 (t140)) then (if (wrap64 (t140)) < (tabL.length : Int) then (if ((rd_T72 tabL (wrap64 (t140))).f1) = 0 then (r_code.j5 k4 tabL t136 x102_4 s0_0 t143 x112000_4 x112001_2 x112002_3 (wrap64 (t140)) 0 0) else ((r_number.f k4 s0_0 t143).bind fun bt147 => (if bt147.2.1 = 1 then (some (([] : List (S41)), ([] : List Int), ([] : List ByteArray), 1, bt147.2.2.1, bt147.2.2.2)) else (r_code.j5 k4 tabL t136 x102_4 s0_0 bt147.2.2.2 x112000_4 x112001_2 x112002_3 (wrap64 (t140)) bt147.1 0)))) else (none)) else (none)) = some (r1, r2, r3, r4, r5, r6) := by rw [if_pos rfl] at H; exact H
         clear H
         have H := H1
         clear H1
         obtain ⟨ji74, hji74⟩ : ∃ j_ : Int, (wrap64 (t140)) = j_ := ⟨_, rfl⟩
         replace H : (if 0 ≤ (ji74) then (if (ji74) < (tabL.length : Int) then (if ((rd_T72 tabL (ji74)).f1) = 0 then (r_code.j5 k4 tabL t136 x102_4 s0_0 t143 x112000_4 x112001_2 x112002_3 ji74 0 0) else ((r_number.f k4 s0_0 t143).bind fun bt147 => (if bt147.2.1 = 1 then (some (([] : List (S41)), ([] : List Int), ([] : List ByteArray), 1, bt147.2.2.1, bt147.2.2.2)) else (r_code.j5 k4 tabL t136 x102_4 s0_0 bt147.2.2.2 x112000_4 x112001_2 x112002_3 ji74 bt147.1 0)))) else (none)) else (none)) = some (r1, r2, r3, r4, r5, r6) := by first | (rw [hji74] at H; exact H) | (simp only [hji74] at H ⊢; exact H)
         (try rw [hji74] at A68)
         (try rw [hji74] at A72)
         have hji74w : (IntKind.i64.wrap (t140)) = ji74 := (i64_w _).trans hji74
         by_cases c75 : 0 ≤ (ji74)
         rotate_left
         ·rw [if_neg c75] at H
          exact absurd H (by simp)
         rw [if_pos c75] at H
         have c75b0 := decide_eq_true c75
         clear c75
         by_cases c76 : (ji74) < (tabL.length : Int)
         rotate_left
         ·rw [if_neg c76] at H
          exact absurd H (by simp)
         rw [if_pos c76] at H
         have c76b0 := decide_eq_true c76
         clear c76
         have HC77 := am H
         clear H
         obtain ⟨ASz78_0, cSz78_0, HGz78, hgz78, HSz78_0⟩ := HI0.out
         have hcz78_0 := cellS95_0 HGz78
         have hcz78_1 := cellS95_1 HGz78
         have hfz78_1 := blk_frozen HGz78 1
         clear HGz78 hgz78
         go_upto_if 123 with (first | (go_at_call 62; (with_reducible refine (r_byte.calls (Ab := Ab) (cb := cb) g s0_0 x1001_4 t140 t141 t142 t143 w0 _ ?side1 ?side2 A68.out).mono ?_); (case side1 => exact s9); (case side2 => exact b9); rintro e w79 ⟨ho, hi, hb, hk⟩; rcases ho with ⟨hm_, rfl⟩ | ⟨hm_, rfl⟩; (all_goals (first | exact absurd hm_ (mk0 (by assumption)) | exact absurd hm_ (mk1 (by assumption)) | skip)); have n0_ := am (Kd.R_mono (Kd.R_keep (IsS95.apart (show IsS95 Ab cb w0 _ g s0_0 x1001_4 from s9) (by (with_reducible repeat (first | apply Kd.R_alloc | apply Kd.R_drewN | apply Kd.R_drew)); exact HO_112000.out) (by decide)) hk (fun _ h => h.2)) (fun _ h => h.1)); have n1_ := am (Kd.R_mono (Kd.R_keep (IsS95.apart (show IsS95 Ab cb w0 _ g s0_0 x1001_4 from s9) (by (with_reducible repeat (first | apply Kd.R_alloc | apply Kd.R_drewN | apply Kd.R_drew)); exact HO_112001.out) (by decide)) hk (fun _ h => h.2)) (fun _ h => h.1)); have n2_ := am (Kd.R_mono (Kd.R_keep (IsS95.apart (show IsS95 Ab cb w0 _ g s0_0 x1001_4 from s9) (by (with_reducible repeat (first | apply Kd.R_alloc | apply Kd.R_drewN | apply Kd.R_drew)); exact HO_112002.out) (by decide)) hk (fun _ h => h.2)) (fun _ h => h.1)); have n3_ := am (KeepBut.blk hk (g' := gb106) (o := .cells #[.slice none 0 0, .slice none 0 0, .slice none 0 0] 26 (0, 0)) (bu BK106.out) NB106_0.out (by simp)); have n4_ := am (KeepBut.blk hk (g' := gb111) (o := .cells #[u112000, u112001, u112002] 26 (0, 0)) (bu BK111.out) NB111_0.out (by simp)); have n5_ := am (KeepBut.blk hk (g' := gb135) (o := .cells tabC 73 (0, 0)) (bu BK135.out) NB135_0.out (by simp)); have n6_ := am (KeepBut.trans k9 hk (.inl rfl)); have n7_ := am (hb); have n8_ := am (hi); clear HO_112000; clear HO_112001; clear HO_112002; clear BK106; clear BK111; clear BK135; clear HK; clear HB; clear HI0; have HO_112000 := n0_; have HO_112001 := n1_; have HO_112002 := n2_; have BK106 := n3_; have BK111 := n4_; have BK135 := n5_; have HK := n6_; have HB := n7_; have HI0 := n8_; clear n0_ n1_ n2_ n3_ n4_ n5_ n6_ n7_ n8_; (try clear hb); (try clear hb2); (try clear hk); (try clear hi)) | ((with_reducible refine gate_dst (N := 10) rfl ?_); refine box_event ?hg (N := 10) ?hd (cs := #[.int .i64 0, .int .i64 0, .int .i64 0]) (t := 41) ?hr ?_; (case hd => rfl); (case hg => rfl); (case hr => first | (go_simp; done) | (go_simp; rfl)); intro gb144 hg w80 hbox hb; have n0_ := am (Kd.R_below (Kd.R_elderB (by (with_reducible repeat (first | apply Kd.R_alloc | apply Kd.R_drewN | apply Kd.R_drew)); exact HO_112000.out) gb144 (Nat.le_of_eq hg.symm)) hb); have n1_ := am (Kd.R_below (by (with_reducible repeat (first | apply Kd.R_alloc | apply Kd.R_drewN | apply Kd.R_drew)); exact HO_112001.out) hb); have n2_ := am (Kd.R_below (by (with_reducible repeat (first | apply Kd.R_alloc | apply Kd.R_drewN | apply Kd.R_drew)); exact HO_112002.out) hb); have n3_ := am (blk_below (bu BK106.out) hb); have n4_ := am (blk_below (bu BK111.out) hb); have n5_ := am (blk_below (bu BK135.out) hb); have n6_ := am (IsS95.below s9 hb); have n7_ := am (KeepBut.trans k9 (KeepBut.of_below hb g none) (.inl rfl)); have n8_ := am (below_step b9 hb); have n9_ := am (hbox); have n10_ := am ((by rw [hg]; exact (keep_size (w := w) (g := g) (row := none) k9) : w.heap.size ≤ gb144)); have n11_ := am ((Nat.le_trans HW0.out (by rw [hg]; exact (keep_size (w := w) (g := g) (row := none) k9) : w.heap.size ≤ gb144) : w0.heap.size ≤ gb144)); have n12_ := am ((by rw [hg]; exact Nat.ne_of_lt (blk_lt (bu BK106.out)) : gb106 ≠ gb144)); have n13_ := am ((by rw [hg]; exact Nat.ne_of_gt (blk_lt (bu BK106.out)) : gb144 ≠ gb106)); have n14_ := am ((by rw [hg]; exact Nat.ne_of_lt (blk_lt (bu BK111.out)) : gb111 ≠ gb144)); have n15_ := am ((by rw [hg]; exact Nat.ne_of_gt (blk_lt (bu BK111.out)) : gb144 ≠ gb111)); have n16_ := am ((by rw [hg]; exact Nat.ne_of_lt (blk_lt (bu BK135.out)) : gb135 ≠ gb144)); have n17_ := am ((by rw [hg]; exact Nat.ne_of_gt (blk_lt (bu BK135.out)) : gb144 ≠ gb135)); have n18_ := am ((by rw [hg]; exact Nat.ne_of_lt (IsS95.lt (show IsS95 Ab cb w0 _ g s0_0 t143 from s9)) : g ≠ gb144)); have n19_ := am ((by rw [hg]; exact Nat.ne_of_gt (IsS95.lt (show IsS95 Ab cb w0 _ g s0_0 t143 from s9)) : gb144 ≠ g)); clear HO_112000; clear HO_112001; clear HO_112002; clear BK106; clear BK111; clear BK135; clear HI0; clear HK; clear HB; have HO_112000 := n0_; have HO_112001 := n1_; have HO_112002 := n2_; have BK106 := n3_; have BK111 := n4_; have BK135 := n5_; have HI0 := n6_; have HK := n7_; have HB := n8_; have BK144 := n9_; have GW144 := n10_; have GE144 := n11_; have NB106_144 := n12_; have NB144_106 := n13_; have NB111_144 := n14_; have NB144_111 := n15_; have NB135_144 := n16_; have NB144_135 := n17_; have NB0_144 := n18_; have NB144_0 := n19_; clear n0_ n1_ n2_ n3_ n4_ n5_ n6_ n7_ n8_ n9_ n10_ n11_ n12_ n13_ n14_ n15_ n16_ n17_ n18_ n19_; clear hb hbox hg; have hnb81 := NB144_106.out; have hnc81 := NB106_144.out; have hnb82 := NB144_111.out; have hnc82 := NB111_144.out; have hnb83 := NB144_135.out; have hnc83 := NB135_144.out; have hnb84 := NB144_0.out; have hnc84 := NB0_144.out; obtain ⟨⟨hcz85_0, hcz85_1, hcz85_2⟩, hfz85_0, hfz85_1, hfz85_2⟩ := blkAll3 BK144) | (go_at_call 47; (with_reducible refine (c_within.calls ji74 1 33 true _ A72.out).mono ?_); rintro e w' ⟨rfl, ⟨nd, rfl⟩⟩; (try first | exact ⟨rfl, _, World.drewN_drewN _ _ _⟩ | exact ⟨rfl, _, Eq.trans (World.drewN_drewN _ _ _) (congrArg (World.drewN _) (Nat.add_assoc _ _ _))⟩); have p146 : 0 ≤ ((ji74) : Int) := of_decide_eq_true od; have q146 : (ji74) < (tabL.length : Int) := of_decide_eq_true od; have q146n : ((ji74) < 34) = True := eq_true (by have h_ := q146; rw [tabL_len] at h_; exact h_); obtain ⟨adq_, e146, hx146_0, hx146_1, hx146_2, hx146_3, hx146_4⟩ := at_T72 (tab_rowsA hadT_.out BK135.out) (ji74) p146 q146; obtain rfl := Option.some.inj e146; have hn146_0 : adT_.block ≠ gb144 := (by rw [hadT_.out]; exact NB135_144.out); have hn146_1 : adT_.block ≠ gb144 := (by rw [hadT_.out]; exact NB135_144.out); have hn146_2 : adT_.block ≠ gb144 := (by rw [hadT_.out]; exact NB135_144.out); replace hx146_0 := (cell_far (p := ⟨gb144, 0, none⟩) (by first | (rw [add_block]; exact hn146_0) | (show (Addr.add _ _).block ≠ _; rw [add_block]; exact hn146_0) | exact hn146_0) (.int .i64 ji74)).trans hx146_0; replace hx146_1 := (cell_far (p := ⟨gb144, 0, none⟩) (by first | (rw [add_block]; exact hn146_0) | (show (Addr.add _ _).block ≠ _; rw [add_block]; exact hn146_0) | exact hn146_0) (.int .i64 ji74)).trans hx146_1; replace hx146_2 := (cell_far (p := ⟨gb144, 0, none⟩) (by first | (rw [add_block]; exact hn146_0) | (show (Addr.add _ _).block ≠ _; rw [add_block]; exact hn146_0) | exact hn146_0) (.int .i64 ji74)).trans hx146_2; replace hx146_3 := (cell_far (p := ⟨gb144, 0, none⟩) (by first | (rw [add_block]; exact hn146_0) | (show (Addr.add _ _).block ≠ _; rw [add_block]; exact hn146_0) | exact hn146_0) (.int .i64 ji74)).trans hx146_3; replace hx146_4 := (cell_far (p := ⟨gb144, 0, none⟩) (by first | (rw [add_block]; exact hn146_0) | (show (Addr.add _ _).block ≠ _; rw [add_block]; exact hn146_0) | exact hn146_0) (.int .i64 ji74)).trans hx146_4; replace hx146_0 := (cell_far (p := ⟨gb144, 1, none⟩) (by first | (rw [add_block]; exact hn146_1) | (show (Addr.add _ _).block ≠ _; rw [add_block]; exact hn146_1) | exact hn146_1) (.int .i64 0)).trans hx146_0; replace hx146_1 := (cell_far (p := ⟨gb144, 1, none⟩) (by first | (rw [add_block]; exact hn146_1) | (show (Addr.add _ _).block ≠ _; rw [add_block]; exact hn146_1) | exact hn146_1) (.int .i64 0)).trans hx146_1; replace hx146_2 := (cell_far (p := ⟨gb144, 1, none⟩) (by first | (rw [add_block]; exact hn146_1) | (show (Addr.add _ _).block ≠ _; rw [add_block]; exact hn146_1) | exact hn146_1) (.int .i64 0)).trans hx146_2; replace hx146_3 := (cell_far (p := ⟨gb144, 1, none⟩) (by first | (rw [add_block]; exact hn146_1) | (show (Addr.add _ _).block ≠ _; rw [add_block]; exact hn146_1) | exact hn146_1) (.int .i64 0)).trans hx146_3; replace hx146_4 := (cell_far (p := ⟨gb144, 1, none⟩) (by first | (rw [add_block]; exact hn146_1) | (show (Addr.add _ _).block ≠ _; rw [add_block]; exact hn146_1) | exact hn146_1) (.int .i64 0)).trans hx146_4; replace hx146_0 := (cell_far (p := ⟨gb144, 2, none⟩) (by first | (rw [add_block]; exact hn146_2) | (show (Addr.add _ _).block ≠ _; rw [add_block]; exact hn146_2) | exact hn146_2) (.int .i64 0)).trans hx146_0; replace hx146_1 := (cell_far (p := ⟨gb144, 2, none⟩) (by first | (rw [add_block]; exact hn146_2) | (show (Addr.add _ _).block ≠ _; rw [add_block]; exact hn146_2) | exact hn146_2) (.int .i64 0)).trans hx146_1; replace hx146_2 := (cell_far (p := ⟨gb144, 2, none⟩) (by first | (rw [add_block]; exact hn146_2) | (show (Addr.add _ _).block ≠ _; rw [add_block]; exact hn146_2) | exact hn146_2) (.int .i64 0)).trans hx146_2; replace hx146_3 := (cell_far (p := ⟨gb144, 2, none⟩) (by first | (rw [add_block]; exact hn146_2) | (show (Addr.add _ _).block ≠ _; rw [add_block]; exact hn146_2) | exact hn146_2) (.int .i64 0)).trans hx146_3; replace hx146_4 := (cell_far (p := ⟨gb144, 2, none⟩) (by first | (rw [add_block]; exact hn146_2) | (show (Addr.add _ _).block ≠ _; rw [add_block]; exact hn146_2) | exact hn146_2) (.int .i64 0)).trans hx146_4; (try have hy146_0 := fun (n_ : Nat) => (show (((((w80.drewN n_).setCell ⟨gb144, 0, none⟩ (.int .i64 ji74)).setCell ⟨gb144, 1, none⟩ (.int .i64 0)).setCell ⟨gb144, 2, none⟩ (.int .i64 0))).cell? _ = some _ from hx146_0)); (try have hy146_1 := fun (n_ : Nat) => (show (((((w80.drewN n_).setCell ⟨gb144, 0, none⟩ (.int .i64 ji74)).setCell ⟨gb144, 1, none⟩ (.int .i64 0)).setCell ⟨gb144, 2, none⟩ (.int .i64 0))).cell? _ = some _ from hx146_1)); (try have hy146_2 := fun (n_ : Nat) => (show (((((w80.drewN n_).setCell ⟨gb144, 0, none⟩ (.int .i64 ji74)).setCell ⟨gb144, 1, none⟩ (.int .i64 0)).setCell ⟨gb144, 2, none⟩ (.int .i64 0))).cell? _ = some _ from hx146_2)); (try have hy146_3 := fun (n_ : Nat) => (show (((((w80.drewN n_).setCell ⟨gb144, 0, none⟩ (.int .i64 ji74)).setCell ⟨gb144, 1, none⟩ (.int .i64 0)).setCell ⟨gb144, 2, none⟩ (.int .i64 0))).cell? _ = some _ from hx146_3)); (try have hy146_4 := fun (n_ : Nat) => (show (((((w80.drewN n_).setCell ⟨gb144, 0, none⟩ (.int .i64 ji74)).setCell ⟨gb144, 1, none⟩ (.int .i64 0)).setCell ⟨gb144, 2, none⟩ (.int .i64 0))).cell? _ = some _ from hx146_4)); clear hn146_0; clear hn146_1; clear hn146_2; replace p146 := eq_true p146; replace q146 := eq_true q146))
         repeat (go_quiet (first | (go_at_call 62; (with_reducible refine (r_byte.calls (Ab := Ab) (cb := cb) g s0_0 x1001_4 t140 t141 t142 t143 w0 _ ?side1 ?side2 A68.out).mono ?_); (case side1 => exact s9); (case side2 => exact b9); rintro e w79 ⟨ho, hi, hb, hk⟩; rcases ho with ⟨hm_, rfl⟩ | ⟨hm_, rfl⟩; (all_goals (first | exact absurd hm_ (mk0 (by assumption)) | exact absurd hm_ (mk1 (by assumption)) | skip)); have n0_ := am (Kd.R_mono (Kd.R_keep (IsS95.apart (show IsS95 Ab cb w0 _ g s0_0 x1001_4 from s9) (by (with_reducible repeat (first | apply Kd.R_alloc | apply Kd.R_drewN | apply Kd.R_drew)); exact HO_112000.out) (by decide)) hk (fun _ h => h.2)) (fun _ h => h.1)); have n1_ := am (Kd.R_mono (Kd.R_keep (IsS95.apart (show IsS95 Ab cb w0 _ g s0_0 x1001_4 from s9) (by (with_reducible repeat (first | apply Kd.R_alloc | apply Kd.R_drewN | apply Kd.R_drew)); exact HO_112001.out) (by decide)) hk (fun _ h => h.2)) (fun _ h => h.1)); have n2_ := am (Kd.R_mono (Kd.R_keep (IsS95.apart (show IsS95 Ab cb w0 _ g s0_0 x1001_4 from s9) (by (with_reducible repeat (first | apply Kd.R_alloc | apply Kd.R_drewN | apply Kd.R_drew)); exact HO_112002.out) (by decide)) hk (fun _ h => h.2)) (fun _ h => h.1)); have n3_ := am (KeepBut.blk hk (g' := gb106) (o := .cells #[.slice none 0 0, .slice none 0 0, .slice none 0 0] 26 (0, 0)) (bu BK106.out) NB106_0.out (by simp)); have n4_ := am (KeepBut.blk hk (g' := gb111) (o := .cells #[u112000, u112001, u112002] 26 (0, 0)) (bu BK111.out) NB111_0.out (by simp)); have n5_ := am (KeepBut.blk hk (g' := gb135) (o := .cells tabC 73 (0, 0)) (bu BK135.out) NB135_0.out (by simp)); have n6_ := am (KeepBut.trans k9 hk (.inl rfl)); have n7_ := am (hb); have n8_ := am (hi); clear HO_112000; clear HO_112001; clear HO_112002; clear BK106; clear BK111; clear BK135; clear HK; clear HB; clear HI0; have HO_112000 := n0_; have HO_112001 := n1_; have HO_112002 := n2_; have BK106 := n3_; have BK111 := n4_; have BK135 := n5_; have HK := n6_; have HB := n7_; have HI0 := n8_; clear n0_ n1_ n2_ n3_ n4_ n5_ n6_ n7_ n8_; (try clear hb); (try clear hb2); (try clear hk); (try clear hi)) | ((with_reducible refine gate_dst (N := 10) rfl ?_); refine box_event ?hg (N := 10) ?hd (cs := #[.int .i64 0, .int .i64 0, .int .i64 0]) (t := 41) ?hr ?_; (case hd => rfl); (case hg => rfl); (case hr => first | (go_simp; done) | (go_simp; rfl)); intro gb144 hg w80 hbox hb; have n0_ := am (Kd.R_below (Kd.R_elderB (by (with_reducible repeat (first | apply Kd.R_alloc | apply Kd.R_drewN | apply Kd.R_drew)); exact HO_112000.out) gb144 (Nat.le_of_eq hg.symm)) hb); have n1_ := am (Kd.R_below (by (with_reducible repeat (first | apply Kd.R_alloc | apply Kd.R_drewN | apply Kd.R_drew)); exact HO_112001.out) hb); have n2_ := am (Kd.R_below (by (with_reducible repeat (first | apply Kd.R_alloc | apply Kd.R_drewN | apply Kd.R_drew)); exact HO_112002.out) hb); have n3_ := am (blk_below (bu BK106.out) hb); have n4_ := am (blk_below (bu BK111.out) hb); have n5_ := am (blk_below (bu BK135.out) hb); have n6_ := am (IsS95.below s9 hb); have n7_ := am (KeepBut.trans k9 (KeepBut.of_below hb g none) (.inl rfl)); have n8_ := am (below_step b9 hb); have n9_ := am (hbox); have n10_ := am ((by rw [hg]; exact (keep_size (w := w) (g := g) (row := none) k9) : w.heap.size ≤ gb144)); have n11_ := am ((Nat.le_trans HW0.out (by rw [hg]; exact (keep_size (w := w) (g := g) (row := none) k9) : w.heap.size ≤ gb144) : w0.heap.size ≤ gb144)); have n12_ := am ((by rw [hg]; exact Nat.ne_of_lt (blk_lt (bu BK106.out)) : gb106 ≠ gb144)); have n13_ := am ((by rw [hg]; exact Nat.ne_of_gt (blk_lt (bu BK106.out)) : gb144 ≠ gb106)); have n14_ := am ((by rw [hg]; exact Nat.ne_of_lt (blk_lt (bu BK111.out)) : gb111 ≠ gb144)); have n15_ := am ((by rw [hg]; exact Nat.ne_of_gt (blk_lt (bu BK111.out)) : gb144 ≠ gb111)); have n16_ := am ((by rw [hg]; exact Nat.ne_of_lt (blk_lt (bu BK135.out)) : gb135 ≠ gb144)); have n17_ := am ((by rw [hg]; exact Nat.ne_of_gt (blk_lt (bu BK135.out)) : gb144 ≠ gb135)); have n18_ := am ((by rw [hg]; exact Nat.ne_of_lt (IsS95.lt (show IsS95 Ab cb w0 _ g s0_0 t143 from s9)) : g ≠ gb144)); have n19_ := am ((by rw [hg]; exact Nat.ne_of_gt (IsS95.lt (show IsS95 Ab cb w0 _ g s0_0 t143 from s9)) : gb144 ≠ g)); clear HO_112000; clear HO_112001; clear HO_112002; clear BK106; clear BK111; clear BK135; clear HI0; clear HK; clear HB; have HO_112000 := n0_; have HO_112001 := n1_; have HO_112002 := n2_; have BK106 := n3_; have BK111 := n4_; have BK135 := n5_; have HI0 := n6_; have HK := n7_; have HB := n8_; have BK144 := n9_; have GW144 := n10_; have GE144 := n11_; have NB106_144 := n12_; have NB144_106 := n13_; have NB111_144 := n14_; have NB144_111 := n15_; have NB135_144 := n16_; have NB144_135 := n17_; have NB0_144 := n18_; have NB144_0 := n19_; clear n0_ n1_ n2_ n3_ n4_ n5_ n6_ n7_ n8_ n9_ n10_ n11_ n12_ n13_ n14_ n15_ n16_ n17_ n18_ n19_; clear hb hbox hg; have hnb81 := NB144_106.out; have hnc81 := NB106_144.out; have hnb82 := NB144_111.out; have hnc82 := NB111_144.out; have hnb83 := NB144_135.out; have hnc83 := NB135_144.out; have hnb84 := NB144_0.out; have hnc84 := NB0_144.out; obtain ⟨⟨hcz85_0, hcz85_1, hcz85_2⟩, hfz85_0, hfz85_1, hfz85_2⟩ := blkAll3 BK144) | (go_at_call 47; (with_reducible refine (c_within.calls ji74 1 33 true _ A72.out).mono ?_); rintro e w' ⟨rfl, ⟨nd, rfl⟩⟩; (try first | exact ⟨rfl, _, World.drewN_drewN _ _ _⟩ | exact ⟨rfl, _, Eq.trans (World.drewN_drewN _ _ _) (congrArg (World.drewN _) (Nat.add_assoc _ _ _))⟩); have p146 : 0 ≤ ((ji74) : Int) := of_decide_eq_true od; have q146 : (ji74) < (tabL.length : Int) := of_decide_eq_true od; have q146n : ((ji74) < 34) = True := eq_true (by have h_ := q146; rw [tabL_len] at h_; exact h_); obtain ⟨adq_, e146, hx146_0, hx146_1, hx146_2, hx146_3, hx146_4⟩ := at_T72 (tab_rowsA hadT_.out BK135.out) (ji74) p146 q146; obtain rfl := Option.some.inj e146; have hn146_0 : adT_.block ≠ gb144 := (by rw [hadT_.out]; exact NB135_144.out); have hn146_1 : adT_.block ≠ gb144 := (by rw [hadT_.out]; exact NB135_144.out); have hn146_2 : adT_.block ≠ gb144 := (by rw [hadT_.out]; exact NB135_144.out); replace hx146_0 := (cell_far (p := ⟨gb144, 0, none⟩) (by first | (rw [add_block]; exact hn146_0) | (show (Addr.add _ _).block ≠ _; rw [add_block]; exact hn146_0) | exact hn146_0) (.int .i64 ji74)).trans hx146_0; replace hx146_1 := (cell_far (p := ⟨gb144, 0, none⟩) (by first | (rw [add_block]; exact hn146_0) | (show (Addr.add _ _).block ≠ _; rw [add_block]; exact hn146_0) | exact hn146_0) (.int .i64 ji74)).trans hx146_1; replace hx146_2 := (cell_far (p := ⟨gb144, 0, none⟩) (by first | (rw [add_block]; exact hn146_0) | (show (Addr.add _ _).block ≠ _; rw [add_block]; exact hn146_0) | exact hn146_0) (.int .i64 ji74)).trans hx146_2; replace hx146_3 := (cell_far (p := ⟨gb144, 0, none⟩) (by first | (rw [add_block]; exact hn146_0) | (show (Addr.add _ _).block ≠ _; rw [add_block]; exact hn146_0) | exact hn146_0) (.int .i64 ji74)).trans hx146_3; replace hx146_4 := (cell_far (p := ⟨gb144, 0, none⟩) (by first | (rw [add_block]; exact hn146_0) | (show (Addr.add _ _).block ≠ _; rw [add_block]; exact hn146_0) | exact hn146_0) (.int .i64 ji74)).trans hx146_4; replace hx146_0 := (cell_far (p := ⟨gb144, 1, none⟩) (by first | (rw [add_block]; exact hn146_1) | (show (Addr.add _ _).block ≠ _; rw [add_block]; exact hn146_1) | exact hn146_1) (.int .i64 0)).trans hx146_0; replace hx146_1 := (cell_far (p := ⟨gb144, 1, none⟩) (by first | (rw [add_block]; exact hn146_1) | (show (Addr.add _ _).block ≠ _; rw [add_block]; exact hn146_1) | exact hn146_1) (.int .i64 0)).trans hx146_1; replace hx146_2 := (cell_far (p := ⟨gb144, 1, none⟩) (by first | (rw [add_block]; exact hn146_1) | (show (Addr.add _ _).block ≠ _; rw [add_block]; exact hn146_1) | exact hn146_1) (.int .i64 0)).trans hx146_2; replace hx146_3 := (cell_far (p := ⟨gb144, 1, none⟩) (by first | (rw [add_block]; exact hn146_1) | (show (Addr.add _ _).block ≠ _; rw [add_block]; exact hn146_1) | exact hn146_1) (.int .i64 0)).trans hx146_3; replace hx146_4 := (cell_far (p := ⟨gb144, 1, none⟩) (by first | (rw [add_block]; exact hn146_1) | (show (Addr.add _ _).block ≠ _; rw [add_block]; exact hn146_1) | exact hn146_1) (.int .i64 0)).trans hx146_4; replace hx146_0 := (cell_far (p := ⟨gb144, 2, none⟩) (by first | (rw [add_block]; exact hn146_2) | (show (Addr.add _ _).block ≠ _; rw [add_block]; exact hn146_2) | exact hn146_2) (.int .i64 0)).trans hx146_0; replace hx146_1 := (cell_far (p := ⟨gb144, 2, none⟩) (by first | (rw [add_block]; exact hn146_2) | (show (Addr.add _ _).block ≠ _; rw [add_block]; exact hn146_2) | exact hn146_2) (.int .i64 0)).trans hx146_1; replace hx146_2 := (cell_far (p := ⟨gb144, 2, none⟩) (by first | (rw [add_block]; exact hn146_2) | (show (Addr.add _ _).block ≠ _; rw [add_block]; exact hn146_2) | exact hn146_2) (.int .i64 0)).trans hx146_2; replace hx146_3 := (cell_far (p := ⟨gb144, 2, none⟩) (by first | (rw [add_block]; exact hn146_2) | (show (Addr.add _ _).block ≠ _; rw [add_block]; exact hn146_2) | exact hn146_2) (.int .i64 0)).trans hx146_3; replace hx146_4 := (cell_far (p := ⟨gb144, 2, none⟩) (by first | (rw [add_block]; exact hn146_2) | (show (Addr.add _ _).block ≠ _; rw [add_block]; exact hn146_2) | exact hn146_2) (.int .i64 0)).trans hx146_4; (try have hy146_0 := fun (n_ : Nat) => (show (((((w80.drewN n_).setCell ⟨gb144, 0, none⟩ (.int .i64 ji74)).setCell ⟨gb144, 1, none⟩ (.int .i64 0)).setCell ⟨gb144, 2, none⟩ (.int .i64 0))).cell? _ = some _ from hx146_0)); (try have hy146_1 := fun (n_ : Nat) => (show (((((w80.drewN n_).setCell ⟨gb144, 0, none⟩ (.int .i64 ji74)).setCell ⟨gb144, 1, none⟩ (.int .i64 0)).setCell ⟨gb144, 2, none⟩ (.int .i64 0))).cell? _ = some _ from hx146_1)); (try have hy146_2 := fun (n_ : Nat) => (show (((((w80.drewN n_).setCell ⟨gb144, 0, none⟩ (.int .i64 ji74)).setCell ⟨gb144, 1, none⟩ (.int .i64 0)).setCell ⟨gb144, 2, none⟩ (.int .i64 0))).cell? _ = some _ from hx146_2)); (try have hy146_3 := fun (n_ : Nat) => (show (((((w80.drewN n_).setCell ⟨gb144, 0, none⟩ (.int .i64 ji74)).setCell ⟨gb144, 1, none⟩ (.int .i64 0)).setCell ⟨gb144, 2, none⟩ (.int .i64 0))).cell? _ = some _ from hx146_3)); (try have hy146_4 := fun (n_ : Nat) => (show (((((w80.drewN n_).setCell ⟨gb144, 0, none⟩ (.int .i64 ji74)).setCell ⟨gb144, 1, none⟩ (.int .i64 0)).setCell ⟨gb144, 2, none⟩ (.int .i64 0))).cell? _ = some _ from hx146_4)); clear hn146_0; clear hn146_1; clear hn146_2; replace p146 := eq_true p146; replace q146 := eq_true q146)); go_upto_if 123 with (first | (go_at_call 62; (with_reducible refine (r_byte.calls (Ab := Ab) (cb := cb) g s0_0 x1001_4 t140 t141 t142 t143 w0 _ ?side1 ?side2 A68.out).mono ?_); (case side1 => exact s9); (case side2 => exact b9); rintro e w79 ⟨ho, hi, hb, hk⟩; rcases ho with ⟨hm_, rfl⟩ | ⟨hm_, rfl⟩; (all_goals (first | exact absurd hm_ (mk0 (by assumption)) | exact absurd hm_ (mk1 (by assumption)) | skip)); have n0_ := am (Kd.R_mono (Kd.R_keep (IsS95.apart (show IsS95 Ab cb w0 _ g s0_0 x1001_4 from s9) (by (with_reducible repeat (first | apply Kd.R_alloc | apply Kd.R_drewN | apply Kd.R_drew)); exact HO_112000.out) (by decide)) hk (fun _ h => h.2)) (fun _ h => h.1)); have n1_ := am (Kd.R_mono (Kd.R_keep (IsS95.apart (show IsS95 Ab cb w0 _ g s0_0 x1001_4 from s9) (by (with_reducible repeat (first | apply Kd.R_alloc | apply Kd.R_drewN | apply Kd.R_drew)); exact HO_112001.out) (by decide)) hk (fun _ h => h.2)) (fun _ h => h.1)); have n2_ := am (Kd.R_mono (Kd.R_keep (IsS95.apart (show IsS95 Ab cb w0 _ g s0_0 x1001_4 from s9) (by (with_reducible repeat (first | apply Kd.R_alloc | apply Kd.R_drewN | apply Kd.R_drew)); exact HO_112002.out) (by decide)) hk (fun _ h => h.2)) (fun _ h => h.1)); have n3_ := am (KeepBut.blk hk (g' := gb106) (o := .cells #[.slice none 0 0, .slice none 0 0, .slice none 0 0] 26 (0, 0)) (bu BK106.out) NB106_0.out (by simp)); have n4_ := am (KeepBut.blk hk (g' := gb111) (o := .cells #[u112000, u112001, u112002] 26 (0, 0)) (bu BK111.out) NB111_0.out (by simp)); have n5_ := am (KeepBut.blk hk (g' := gb135) (o := .cells tabC 73 (0, 0)) (bu BK135.out) NB135_0.out (by simp)); have n6_ := am (KeepBut.trans k9 hk (.inl rfl)); have n7_ := am (hb); have n8_ := am (hi); clear HO_112000; clear HO_112001; clear HO_112002; clear BK106; clear BK111; clear BK135; clear HK; clear HB; clear HI0; have HO_112000 := n0_; have HO_112001 := n1_; have HO_112002 := n2_; have BK106 := n3_; have BK111 := n4_; have BK135 := n5_; have HK := n6_; have HB := n7_; have HI0 := n8_; clear n0_ n1_ n2_ n3_ n4_ n5_ n6_ n7_ n8_; (try clear hb); (try clear hb2); (try clear hk); (try clear hi)) | ((with_reducible refine gate_dst (N := 10) rfl ?_); refine box_event ?hg (N := 10) ?hd (cs := #[.int .i64 0, .int .i64 0, .int .i64 0]) (t := 41) ?hr ?_; (case hd => rfl); (case hg => rfl); (case hr => first | (go_simp; done) | (go_simp; rfl)); intro gb144 hg w80 hbox hb; have n0_ := am (Kd.R_below (Kd.R_elderB (by (with_reducible repeat (first | apply Kd.R_alloc | apply Kd.R_drewN | apply Kd.R_drew)); exact HO_112000.out) gb144 (Nat.le_of_eq hg.symm)) hb); have n1_ := am (Kd.R_below (by (with_reducible repeat (first | apply Kd.R_alloc | apply Kd.R_drewN | apply Kd.R_drew)); exact HO_112001.out) hb); have n2_ := am (Kd.R_below (by (with_reducible repeat (first | apply Kd.R_alloc | apply Kd.R_drewN | apply Kd.R_drew)); exact HO_112002.out) hb); have n3_ := am (blk_below (bu BK106.out) hb); have n4_ := am (blk_below (bu BK111.out) hb); have n5_ := am (blk_below (bu BK135.out) hb); have n6_ := am (IsS95.below s9 hb); have n7_ := am (KeepBut.trans k9 (KeepBut.of_below hb g none) (.inl rfl)); have n8_ := am (below_step b9 hb); have n9_ := am (hbox); have n10_ := am ((by rw [hg]; exact (keep_size (w := w) (g := g) (row := none) k9) : w.heap.size ≤ gb144)); have n11_ := am ((Nat.le_trans HW0.out (by rw [hg]; exact (keep_size (w := w) (g := g) (row := none) k9) : w.heap.size ≤ gb144) : w0.heap.size ≤ gb144)); have n12_ := am ((by rw [hg]; exact Nat.ne_of_lt (blk_lt (bu BK106.out)) : gb106 ≠ gb144)); have n13_ := am ((by rw [hg]; exact Nat.ne_of_gt (blk_lt (bu BK106.out)) : gb144 ≠ gb106)); have n14_ := am ((by rw [hg]; exact Nat.ne_of_lt (blk_lt (bu BK111.out)) : gb111 ≠ gb144)); have n15_ := am ((by rw [hg]; exact Nat.ne_of_gt (blk_lt (bu BK111.out)) : gb144 ≠ gb111)); have n16_ := am ((by rw [hg]; exact Nat.ne_of_lt (blk_lt (bu BK135.out)) : gb135 ≠ gb144)); have n17_ := am ((by rw [hg]; exact Nat.ne_of_gt (blk_lt (bu BK135.out)) : gb144 ≠ gb135)); have n18_ := am ((by rw [hg]; exact Nat.ne_of_lt (IsS95.lt (show IsS95 Ab cb w0 _ g s0_0 t143 from s9)) : g ≠ gb144)); have n19_ := am ((by rw [hg]; exact Nat.ne_of_gt (IsS95.lt (show IsS95 Ab cb w0 _ g s0_0 t143 from s9)) : gb144 ≠ g)); clear HO_112000; clear HO_112001; clear HO_112002; clear BK106; clear BK111; clear BK135; clear HI0; clear HK; clear HB; have HO_112000 := n0_; have HO_112001 := n1_; have HO_112002 := n2_; have BK106 := n3_; have BK111 := n4_; have BK135 := n5_; have HI0 := n6_; have HK := n7_; have HB := n8_; have BK144 := n9_; have GW144 := n10_; have GE144 := n11_; have NB106_144 := n12_; have NB144_106 := n13_; have NB111_144 := n14_; have NB144_111 := n15_; have NB135_144 := n16_; have NB144_135 := n17_; have NB0_144 := n18_; have NB144_0 := n19_; clear n0_ n1_ n2_ n3_ n4_ n5_ n6_ n7_ n8_ n9_ n10_ n11_ n12_ n13_ n14_ n15_ n16_ n17_ n18_ n19_; clear hb hbox hg; have hnb81 := NB144_106.out; have hnc81 := NB106_144.out; have hnb82 := NB144_111.out; have hnc82 := NB111_144.out; have hnb83 := NB144_135.out; have hnc83 := NB135_144.out; have hnb84 := NB144_0.out; have hnc84 := NB0_144.out; obtain ⟨⟨hcz85_0, hcz85_1, hcz85_2⟩, hfz85_0, hfz85_1, hfz85_2⟩ := blkAll3 BK144) | (go_at_call 47; (with_reducible refine (c_within.calls ji74 1 33 true _ A72.out).mono ?_); rintro e w' ⟨rfl, ⟨nd, rfl⟩⟩; (try first | exact ⟨rfl, _, World.drewN_drewN _ _ _⟩ | exact ⟨rfl, _, Eq.trans (World.drewN_drewN _ _ _) (congrArg (World.drewN _) (Nat.add_assoc _ _ _))⟩); have p146 : 0 ≤ ((ji74) : Int) := of_decide_eq_true od; have q146 : (ji74) < (tabL.length : Int) := of_decide_eq_true od; have q146n : ((ji74) < 34) = True := eq_true (by have h_ := q146; rw [tabL_len] at h_; exact h_); obtain ⟨adq_, e146, hx146_0, hx146_1, hx146_2, hx146_3, hx146_4⟩ := at_T72 (tab_rowsA hadT_.out BK135.out) (ji74) p146 q146; obtain rfl := Option.some.inj e146; have hn146_0 : adT_.block ≠ gb144 := (by rw [hadT_.out]; exact NB135_144.out); have hn146_1 : adT_.block ≠ gb144 := (by rw [hadT_.out]; exact NB135_144.out); have hn146_2 : adT_.block ≠ gb144 := (by rw [hadT_.out]; exact NB135_144.out); replace hx146_0 := (cell_far (p := ⟨gb144, 0, none⟩) (by first | (rw [add_block]; exact hn146_0) | (show (Addr.add _ _).block ≠ _; rw [add_block]; exact hn146_0) | exact hn146_0) (.int .i64 ji74)).trans hx146_0; replace hx146_1 := (cell_far (p := ⟨gb144, 0, none⟩) (by first | (rw [add_block]; exact hn146_0) | (show (Addr.add _ _).block ≠ _; rw [add_block]; exact hn146_0) | exact hn146_0) (.int .i64 ji74)).trans hx146_1; replace hx146_2 := (cell_far (p := ⟨gb144, 0, none⟩) (by first | (rw [add_block]; exact hn146_0) | (show (Addr.add _ _).block ≠ _; rw [add_block]; exact hn146_0) | exact hn146_0) (.int .i64 ji74)).trans hx146_2; replace hx146_3 := (cell_far (p := ⟨gb144, 0, none⟩) (by first | (rw [add_block]; exact hn146_0) | (show (Addr.add _ _).block ≠ _; rw [add_block]; exact hn146_0) | exact hn146_0) (.int .i64 ji74)).trans hx146_3; replace hx146_4 := (cell_far (p := ⟨gb144, 0, none⟩) (by first | (rw [add_block]; exact hn146_0) | (show (Addr.add _ _).block ≠ _; rw [add_block]; exact hn146_0) | exact hn146_0) (.int .i64 ji74)).trans hx146_4; replace hx146_0 := (cell_far (p := ⟨gb144, 1, none⟩) (by first | (rw [add_block]; exact hn146_1) | (show (Addr.add _ _).block ≠ _; rw [add_block]; exact hn146_1) | exact hn146_1) (.int .i64 0)).trans hx146_0; replace hx146_1 := (cell_far (p := ⟨gb144, 1, none⟩) (by first | (rw [add_block]; exact hn146_1) | (show (Addr.add _ _).block ≠ _; rw [add_block]; exact hn146_1) | exact hn146_1) (.int .i64 0)).trans hx146_1; replace hx146_2 := (cell_far (p := ⟨gb144, 1, none⟩) (by first | (rw [add_block]; exact hn146_1) | (show (Addr.add _ _).block ≠ _; rw [add_block]; exact hn146_1) | exact hn146_1) (.int .i64 0)).trans hx146_2; replace hx146_3 := (cell_far (p := ⟨gb144, 1, none⟩) (by first | (rw [add_block]; exact hn146_1) | (show (Addr.add _ _).block ≠ _; rw [add_block]; exact hn146_1) | exact hn146_1) (.int .i64 0)).trans hx146_3; replace hx146_4 := (cell_far (p := ⟨gb144, 1, none⟩) (by first | (rw [add_block]; exact hn146_1) | (show (Addr.add _ _).block ≠ _; rw [add_block]; exact hn146_1) | exact hn146_1) (.int .i64 0)).trans hx146_4; replace hx146_0 := (cell_far (p := ⟨gb144, 2, none⟩) (by first | (rw [add_block]; exact hn146_2) | (show (Addr.add _ _).block ≠ _; rw [add_block]; exact hn146_2) | exact hn146_2) (.int .i64 0)).trans hx146_0; replace hx146_1 := (cell_far (p := ⟨gb144, 2, none⟩) (by first | (rw [add_block]; exact hn146_2) | (show (Addr.add _ _).block ≠ _; rw [add_block]; exact hn146_2) | exact hn146_2) (.int .i64 0)).trans hx146_1; replace hx146_2 := (cell_far (p := ⟨gb144, 2, none⟩) (by first | (rw [add_block]; exact hn146_2) | (show (Addr.add _ _).block ≠ _; rw [add_block]; exact hn146_2) | exact hn146_2) (.int .i64 0)).trans hx146_2; replace hx146_3 := (cell_far (p := ⟨gb144, 2, none⟩) (by first | (rw [add_block]; exact hn146_2) | (show (Addr.add _ _).block ≠ _; rw [add_block]; exact hn146_2) | exact hn146_2) (.int .i64 0)).trans hx146_3; replace hx146_4 := (cell_far (p := ⟨gb144, 2, none⟩) (by first | (rw [add_block]; exact hn146_2) | (show (Addr.add _ _).block ≠ _; rw [add_block]; exact hn146_2) | exact hn146_2) (.int .i64 0)).trans hx146_4; (try have hy146_0 := fun (n_ : Nat) => (show (((((w80.drewN n_).setCell ⟨gb144, 0, none⟩ (.int .i64 ji74)).setCell ⟨gb144, 1, none⟩ (.int .i64 0)).setCell ⟨gb144, 2, none⟩ (.int .i64 0))).cell? _ = some _ from hx146_0)); (try have hy146_1 := fun (n_ : Nat) => (show (((((w80.drewN n_).setCell ⟨gb144, 0, none⟩ (.int .i64 ji74)).setCell ⟨gb144, 1, none⟩ (.int .i64 0)).setCell ⟨gb144, 2, none⟩ (.int .i64 0))).cell? _ = some _ from hx146_1)); (try have hy146_2 := fun (n_ : Nat) => (show (((((w80.drewN n_).setCell ⟨gb144, 0, none⟩ (.int .i64 ji74)).setCell ⟨gb144, 1, none⟩ (.int .i64 0)).setCell ⟨gb144, 2, none⟩ (.int .i64 0))).cell? _ = some _ from hx146_2)); (try have hy146_3 := fun (n_ : Nat) => (show (((((w80.drewN n_).setCell ⟨gb144, 0, none⟩ (.int .i64 ji74)).setCell ⟨gb144, 1, none⟩ (.int .i64 0)).setCell ⟨gb144, 2, none⟩ (.int .i64 0))).cell? _ = some _ from hx146_3)); (try have hy146_4 := fun (n_ : Nat) => (show (((((w80.drewN n_).setCell ⟨gb144, 0, none⟩ (.int .i64 ji74)).setCell ⟨gb144, 1, none⟩ (.int .i64 0)).setCell ⟨gb144, 2, none⟩ (.int .i64 0))).cell? _ = some _ from hx146_4)); clear hn146_0; clear hn146_1; clear hn146_2; replace p146 := eq_true p146; replace q146 := eq_true q146)))
         (try simp only [Act.put, List.setIfInBounds_toArray, List.set_cons_zero, List.set_cons_succ])
         go_cut [] (fun wc => ∃ (kq : Nat) (x1001_76 : Int) (x145001_76 : Int), Aside0 (r_code.j5 kq tabL t136 x102_4 s0_0 x1001_76 x112000_4 x112001_2 x112002_3 ji74 x145001_76 0 = some (r1, r2, r3, r4, r5, r6)) ∧ Aside0 (kq ≤ k4) ∧ Aside0 (Kd.R k41 41 wc w.heap.size (fun k_ => k_ ≠ gb144) u112000 x112000_4) ∧ Aside0 (Kd.R (Kd.int .u64) 66 wc w.heap.size (fun _ => True) u112001 x112001_2) ∧ Aside0 (Kd.R Kd.string 9 wc w.heap.size (fun _ => True) u112002 x112002_3) ∧ Aside0 (wc.heap[gb106]? = some (.cells #[(.slice none 0 0), (.slice none 0 0), (.slice none 0 0)] 26 (0, 0))) ∧ Aside0 (wc.heap[gb111]? = some (.cells #[u112000, u112001, u112002] 26 (0, 0))) ∧ Aside0 (wc.heap[gb135]? = some (.cells tabC 73 (0, 0))) ∧ Aside0 (wc.heap[gb144]? = some (.cells #[.int .i64 ji74, .int .i64 x145001_76, .int .i64 0] 41 (0, 0))) ∧ Aside0 (IsS95 Ab cb w0 wc g s0_0 x1001_76) ∧ Aside0 (KeepBut w wc g none) ∧ Aside0 (Below w0.heap.size w0 wc))
         case first =>
          have H := HC77.out
          clear HC77
          by_cases c86 : ((rd_T72 tabL (ji74)).f1) = 0
          ·rw [if_pos c86] at H
           have c86b0 : (((rd_T72 tabL (ji74)).f1) == 0) = true := beq_iff_eq.mpr c86
           have c86b1 : (((rd_T72 tabL (ji74)).f1) != 0) = false := bne_eq_false_iff_eq.mpr c86
           clear c86
           (first | rw [c86b0] | (simp only [i64_w, i32_w]; rw [c86b0]) | skip)
           have H' := am H
           clear H
           go_wp2
           repeat (go_quiet (fail); try go_wp2)
           go_meet
           case rel => exact ⟨_, (t143), (0), H', ⟨by have := HK1.out; have := HK2.out; have := HK3.out; have := HK4.out; first | omega | exact Nat.le_refl _⟩, ⟨by (with_reducible repeat (first | apply Kd.R_alloc | apply Kd.R_drewN | apply Kd.R_drew)); exact Kd.R_mono (Kd.R_far (p := ⟨gb144, 2, none⟩) (Kd.R_far (p := ⟨gb144, 1, none⟩) (Kd.R_far (p := ⟨gb144, 0, none⟩) (Kd.R_mono HO_112000.out (fun k_ hk => (⟨hk, hk.2⟩ : _ ∧ k_ ≠ gb144))) (fun _ hk => hk.2) (.int .i64 ji74)) (fun _ hk => hk.2) (.int .i64 0)) (fun _ hk => hk.2) (.int .i64 0)) (fun _ hk => hk.1.2)⟩, ⟨by (with_reducible repeat (first | apply Kd.R_alloc | apply Kd.R_drewN | apply Kd.R_drew)); exact Kd.R_mono (Kd.R_far (p := ⟨gb144, 2, none⟩) (Kd.R_far (p := ⟨gb144, 1, none⟩) (Kd.R_far (p := ⟨gb144, 0, none⟩) (Kd.R_types HO_112001.out BK144.out (by decide)) (fun _ hk => hk.2) (.int .i64 ji74)) (fun _ hk => hk.2) (.int .i64 0)) (fun _ hk => hk.2) (.int .i64 0)) (fun _ hk => trivial)⟩, ⟨by (with_reducible repeat (first | apply Kd.R_alloc | apply Kd.R_drewN | apply Kd.R_drew)); exact Kd.R_mono (Kd.R_far (p := ⟨gb144, 2, none⟩) (Kd.R_far (p := ⟨gb144, 1, none⟩) (Kd.R_far (p := ⟨gb144, 0, none⟩) (Kd.R_types HO_112002.out BK144.out (by decide)) (fun _ hk => hk.2) (.int .i64 ji74)) (fun _ hk => hk.2) (.int .i64 0)) (fun _ hk => hk.2) (.int .i64 0)) (fun _ hk => trivial)⟩, ⟨by refine bu ?_; refine blk_far ?_ NB106_144.out _; refine bu ?_; refine blk_far ?_ NB106_144.out _; refine bu ?_; refine blk_far ?_ NB106_144.out _; refine bu ?_; exact BK106.out⟩, ⟨by refine bu ?_; refine blk_far ?_ NB111_144.out _; refine bu ?_; refine blk_far ?_ NB111_144.out _; refine bu ?_; refine blk_far ?_ NB111_144.out _; refine bu ?_; exact BK111.out⟩, ⟨by refine bu ?_; refine blk_far ?_ NB135_144.out _; refine bu ?_; refine blk_far ?_ NB135_144.out _; refine bu ?_; refine blk_far ?_ NB135_144.out _; refine bu ?_; exact BK135.out⟩, ⟨by refine bu ?_; refine blk_put (cs := #[.int .i64 ji74, .int .i64 0, .int .i64 0]) ?_ 2 _ rfl; refine bu ?_; refine blk_put (cs := #[.int .i64 ji74, .int .i64 0, .int .i64 0]) ?_ 1 _ rfl; refine bu ?_; refine blk_put (cs := #[.int .i64 0, .int .i64 0, .int .i64 0]) ?_ 0 _ rfl; refine bu ?_; exact BK144.out⟩, ⟨s9⟩, ⟨k9⟩, ⟨b9⟩⟩
          rw [if_neg c86] at H
          have c86b0 : (((rd_T72 tabL (ji74)).f1) == 0) = false := beq_eq_false_iff_ne.mpr c86
          have c86b1 : (((rd_T72 tabL (ji74)).f1) != 0) = true := bne_iff_ne.mpr c86
          (first | rw [c86b0] | (simp only [i64_w, i32_w]; rw [c86b0]) | skip)
          replace H := Option.bind_eq_some_iff.mp H
          obtain ⟨⟨t147, t148, t149, t150⟩, A870, H⟩ := H
          replace H : (if t148 = 1 then (some (([] : List (S41)), ([] : List Int), ([] : List ByteArray), 1, t149, t150)) else (r_code.j5 k4 tabL t136 x102_4 s0_0 t150 x112000_4 x112001_2 x112002_3 ji74 t147 0)) = some (r1, r2, r3, r4, r5, r6) := H
          have A87 := am A870
          clear A870
          by_cases c88 : t148 = 1
          ·rw [if_pos c88] at H
           have c88b0 : (t148 == 1) = true := beq_iff_eq.mpr c88
           have c88b1 : (t148 != 1) = false := bne_eq_false_iff_eq.mpr c88
           clear c88
           simp only [Option.some.injEq, Prod.mk.injEq] at H
           obtain ⟨rfl, rfl, rfl, rfl, rfl, rfl⟩ := H
           go_wp2_with (first | (go_at_call 63; (with_reducible refine (r_number.calls (Ab := Ab) (cb := cb) k4 g s0_0 t143 t147 t148 t149 t150 w0 _ ?side1 ?side2 A87.out).mono ?_); (case side1 => exact s9); (case side2 => exact b9); rintro e w89 ⟨ho, hi, hb, hk⟩; rcases ho with ⟨hm_, rfl⟩ | ⟨hm_, rfl⟩; (all_goals (first | exact absurd hm_ (mk0 (by assumption)) | exact absurd hm_ (mk1 (by assumption)) | skip)); have n0_ := am (Kd.R_mono (Kd.R_keep (IsS95.apart (show IsS95 Ab cb w0 _ g s0_0 t143 from s9) (by (with_reducible repeat (first | apply Kd.R_alloc | apply Kd.R_drewN | apply Kd.R_drew)); exact (Kd.R_mono (Kd.R_far (p := ⟨gb144, 2, none⟩) (Kd.R_far (p := ⟨gb144, 1, none⟩) (Kd.R_far (p := ⟨gb144, 0, none⟩) (Kd.R_mono HO_112000.out (fun k_ hk => (⟨hk, hk.2⟩ : _ ∧ k_ ≠ gb144))) (fun _ hk => hk.2) (.int .i64 ji74)) (fun _ hk => hk.2) (.int .i64 0)) (fun _ hk => hk.2) (.int .i64 0)) (fun _ h_ => h_.1))) (by decide)) hk (fun _ h => h.2)) (fun _ h => h.1)); have n1_ := am (Kd.R_mono (Kd.R_keep (IsS95.apart (show IsS95 Ab cb w0 _ g s0_0 t143 from s9) (by (with_reducible repeat (first | apply Kd.R_alloc | apply Kd.R_drewN | apply Kd.R_drew)); exact (Kd.R_mono (Kd.R_far (p := ⟨gb144, 2, none⟩) (Kd.R_far (p := ⟨gb144, 1, none⟩) (Kd.R_far (p := ⟨gb144, 0, none⟩) (Kd.R_types HO_112001.out BK144.out (by decide)) (fun _ hk => hk.2) (.int .i64 ji74)) (fun _ hk => hk.2) (.int .i64 0)) (fun _ hk => hk.2) (.int .i64 0)) (fun _ h_ => h_.1))) (by decide)) hk (fun _ h => h.2)) (fun _ h => h.1)); have n2_ := am (Kd.R_mono (Kd.R_keep (IsS95.apart (show IsS95 Ab cb w0 _ g s0_0 t143 from s9) (by (with_reducible repeat (first | apply Kd.R_alloc | apply Kd.R_drewN | apply Kd.R_drew)); exact (Kd.R_mono (Kd.R_far (p := ⟨gb144, 2, none⟩) (Kd.R_far (p := ⟨gb144, 1, none⟩) (Kd.R_far (p := ⟨gb144, 0, none⟩) (Kd.R_types HO_112002.out BK144.out (by decide)) (fun _ hk => hk.2) (.int .i64 ji74)) (fun _ hk => hk.2) (.int .i64 0)) (fun _ hk => hk.2) (.int .i64 0)) (fun _ h_ => h_.1))) (by decide)) hk (fun _ h => h.2)) (fun _ h => h.1)); have n3_ := am (KeepBut.blk hk (g' := gb106) (o := .cells #[.slice none 0 0, .slice none 0 0, .slice none 0 0] 26 (0, 0)) (by refine bu ?_; refine blk_far ?_ NB106_144.out _; refine bu ?_; refine blk_far ?_ NB106_144.out _; refine bu ?_; refine blk_far ?_ NB106_144.out _; refine bu ?_; exact BK106.out) NB106_0.out (by simp)); have n4_ := am (KeepBut.blk hk (g' := gb111) (o := .cells #[u112000, u112001, u112002] 26 (0, 0)) (by refine bu ?_; refine blk_far ?_ NB111_144.out _; refine bu ?_; refine blk_far ?_ NB111_144.out _; refine bu ?_; refine blk_far ?_ NB111_144.out _; refine bu ?_; exact BK111.out) NB111_0.out (by simp)); have n5_ := am (KeepBut.blk hk (g' := gb135) (o := .cells tabC 73 (0, 0)) (by refine bu ?_; refine blk_far ?_ NB135_144.out _; refine bu ?_; refine blk_far ?_ NB135_144.out _; refine bu ?_; refine blk_far ?_ NB135_144.out _; refine bu ?_; exact BK135.out) NB135_0.out (by simp)); have n6_ := am (KeepBut.blk hk (g' := gb144) (o := .cells #[.int .i64 ji74, .int .i64 0, .int .i64 0] 41 (0, 0)) (by refine bu ?_; refine blk_put (cs := #[.int .i64 ji74, .int .i64 0, .int .i64 0]) ?_ 2 _ rfl; refine bu ?_; refine blk_put (cs := #[.int .i64 ji74, .int .i64 0, .int .i64 0]) ?_ 1 _ rfl; refine bu ?_; refine blk_put (cs := #[.int .i64 0, .int .i64 0, .int .i64 0]) ?_ 0 _ rfl; refine bu ?_; exact BK144.out) NB144_0.out (by simp)); have n7_ := am (KeepBut.trans k9 hk (.inl rfl)); have n8_ := am (hb); have n9_ := am (hi); clear HO_112000; clear HO_112001; clear HO_112002; clear BK106; clear BK111; clear BK135; clear BK144; clear HK; clear HB; clear HI0; have HO_112000 := n0_; have HO_112001 := n1_; have HO_112002 := n2_; have BK106 := n3_; have BK111 := n4_; have BK135 := n5_; have BK144 := n6_; have HK := n7_; have HB := n8_; have HI0 := n9_; clear n0_ n1_ n2_ n3_ n4_ n5_ n6_ n7_ n8_ n9_; (try clear hb); (try clear hb2); (try clear hk); (try clear hi)))
           repeat (go_quiet (fail); try go_wp2)
           refine ⟨rfl, ?_⟩
           exact ⟨_, _, _, .inr ⟨rfl, rfl⟩, nil9, nil9, nil9, s9, b9, k9⟩
          rw [if_neg c88] at H
          have c88b0 : (t148 == 1) = false := beq_eq_false_iff_ne.mpr c88
          have c88b1 : (t148 != 1) = true := bne_iff_ne.mpr c88
          have H' := am H
          clear H
          go_wp2_with (first | (go_at_call 63; (with_reducible refine (r_number.calls (Ab := Ab) (cb := cb) k4 g s0_0 t143 t147 t148 t149 t150 w0 _ ?side1 ?side2 A87.out).mono ?_); (case side1 => exact s9); (case side2 => exact b9); rintro e w90 ⟨ho, hi, hb, hk⟩; rcases ho with ⟨hm_, rfl⟩ | ⟨hm_, rfl⟩; (all_goals (first | exact absurd hm_ (mk0 (by assumption)) | exact absurd hm_ (mk1 (by assumption)) | skip)); have n0_ := am (Kd.R_mono (Kd.R_keep (IsS95.apart (show IsS95 Ab cb w0 _ g s0_0 t143 from s9) (by (with_reducible repeat (first | apply Kd.R_alloc | apply Kd.R_drewN | apply Kd.R_drew)); exact (Kd.R_mono (Kd.R_far (p := ⟨gb144, 2, none⟩) (Kd.R_far (p := ⟨gb144, 1, none⟩) (Kd.R_far (p := ⟨gb144, 0, none⟩) (Kd.R_mono HO_112000.out (fun k_ hk => (⟨hk, hk.2⟩ : _ ∧ k_ ≠ gb144))) (fun _ hk => hk.2) (.int .i64 ji74)) (fun _ hk => hk.2) (.int .i64 0)) (fun _ hk => hk.2) (.int .i64 0)) (fun _ h_ => h_.1))) (by decide)) hk (fun _ h => h.2)) (fun _ h => h.1)); have n1_ := am (Kd.R_mono (Kd.R_keep (IsS95.apart (show IsS95 Ab cb w0 _ g s0_0 t143 from s9) (by (with_reducible repeat (first | apply Kd.R_alloc | apply Kd.R_drewN | apply Kd.R_drew)); exact (Kd.R_mono (Kd.R_far (p := ⟨gb144, 2, none⟩) (Kd.R_far (p := ⟨gb144, 1, none⟩) (Kd.R_far (p := ⟨gb144, 0, none⟩) (Kd.R_types HO_112001.out BK144.out (by decide)) (fun _ hk => hk.2) (.int .i64 ji74)) (fun _ hk => hk.2) (.int .i64 0)) (fun _ hk => hk.2) (.int .i64 0)) (fun _ h_ => h_.1))) (by decide)) hk (fun _ h => h.2)) (fun _ h => h.1)); have n2_ := am (Kd.R_mono (Kd.R_keep (IsS95.apart (show IsS95 Ab cb w0 _ g s0_0 t143 from s9) (by (with_reducible repeat (first | apply Kd.R_alloc | apply Kd.R_drewN | apply Kd.R_drew)); exact (Kd.R_mono (Kd.R_far (p := ⟨gb144, 2, none⟩) (Kd.R_far (p := ⟨gb144, 1, none⟩) (Kd.R_far (p := ⟨gb144, 0, none⟩) (Kd.R_types HO_112002.out BK144.out (by decide)) (fun _ hk => hk.2) (.int .i64 ji74)) (fun _ hk => hk.2) (.int .i64 0)) (fun _ hk => hk.2) (.int .i64 0)) (fun _ h_ => h_.1))) (by decide)) hk (fun _ h => h.2)) (fun _ h => h.1)); have n3_ := am (KeepBut.blk hk (g' := gb106) (o := .cells #[.slice none 0 0, .slice none 0 0, .slice none 0 0] 26 (0, 0)) (by refine bu ?_; refine blk_far ?_ NB106_144.out _; refine bu ?_; refine blk_far ?_ NB106_144.out _; refine bu ?_; refine blk_far ?_ NB106_144.out _; refine bu ?_; exact BK106.out) NB106_0.out (by simp)); have n4_ := am (KeepBut.blk hk (g' := gb111) (o := .cells #[u112000, u112001, u112002] 26 (0, 0)) (by refine bu ?_; refine blk_far ?_ NB111_144.out _; refine bu ?_; refine blk_far ?_ NB111_144.out _; refine bu ?_; refine blk_far ?_ NB111_144.out _; refine bu ?_; exact BK111.out) NB111_0.out (by simp)); have n5_ := am (KeepBut.blk hk (g' := gb135) (o := .cells tabC 73 (0, 0)) (by refine bu ?_; refine blk_far ?_ NB135_144.out _; refine bu ?_; refine blk_far ?_ NB135_144.out _; refine bu ?_; refine blk_far ?_ NB135_144.out _; refine bu ?_; exact BK135.out) NB135_0.out (by simp)); have n6_ := am (KeepBut.blk hk (g' := gb144) (o := .cells #[.int .i64 ji74, .int .i64 0, .int .i64 0] 41 (0, 0)) (by refine bu ?_; refine blk_put (cs := #[.int .i64 ji74, .int .i64 0, .int .i64 0]) ?_ 2 _ rfl; refine bu ?_; refine blk_put (cs := #[.int .i64 ji74, .int .i64 0, .int .i64 0]) ?_ 1 _ rfl; refine bu ?_; refine blk_put (cs := #[.int .i64 0, .int .i64 0, .int .i64 0]) ?_ 0 _ rfl; refine bu ?_; exact BK144.out) NB144_0.out (by simp)); have n7_ := am (KeepBut.trans k9 hk (.inl rfl)); have n8_ := am (hb); have n9_ := am (hi); clear HO_112000; clear HO_112001; clear HO_112002; clear BK106; clear BK111; clear BK135; clear BK144; clear HK; clear HB; clear HI0; have HO_112000 := n0_; have HO_112001 := n1_; have HO_112002 := n2_; have BK106 := n3_; have BK111 := n4_; have BK135 := n5_; have BK144 := n6_; have HK := n7_; have HB := n8_; have HI0 := n9_; clear n0_ n1_ n2_ n3_ n4_ n5_ n6_ n7_ n8_ n9_; (try clear hb); (try clear hb2); (try clear hk); (try clear hi); have hnb91 := NB144_106.out; have hnc91 := NB106_144.out; have hnb92 := NB144_111.out; have hnc92 := NB111_144.out; have hnb93 := NB144_135.out; have hnc93 := NB135_144.out; have hnb94 := NB144_0.out; have hnc94 := NB0_144.out; obtain ⟨⟨hcz95_0, hcz95_1, hcz95_2⟩, hfz95_0, hfz95_1, hfz95_2⟩ := blkAll3 BK144))
          repeat (go_quiet (fail); try go_wp2)
          go_meet
          case rel => exact ⟨_, (t150), (t147), H', ⟨by have := HK1.out; have := HK2.out; have := HK3.out; have := HK4.out; first | omega | exact Nat.le_refl _⟩, ⟨by (with_reducible repeat (first | apply Kd.R_alloc | apply Kd.R_drewN | apply Kd.R_drew)); exact Kd.R_mono (Kd.R_far (p := ⟨gb144, 1, none⟩) (Kd.R_mono HO_112000.out (fun k_ hk => (⟨hk, hk.2⟩ : _ ∧ k_ ≠ gb144))) (fun _ hk => hk.2) (.int .i64 t147)) (fun _ hk => hk.1.2)⟩, ⟨by (with_reducible repeat (first | apply Kd.R_alloc | apply Kd.R_drewN | apply Kd.R_drew)); exact Kd.R_mono (Kd.R_far (p := ⟨gb144, 1, none⟩) (Kd.R_types HO_112001.out BK144.out (by decide)) (fun _ hk => hk.2) (.int .i64 t147)) (fun _ hk => trivial)⟩, ⟨by (with_reducible repeat (first | apply Kd.R_alloc | apply Kd.R_drewN | apply Kd.R_drew)); exact Kd.R_mono (Kd.R_far (p := ⟨gb144, 1, none⟩) (Kd.R_types HO_112002.out BK144.out (by decide)) (fun _ hk => hk.2) (.int .i64 t147)) (fun _ hk => trivial)⟩, ⟨by refine bu ?_; refine blk_far ?_ NB106_144.out _; refine bu ?_; exact BK106.out⟩, ⟨by refine bu ?_; refine blk_far ?_ NB111_144.out _; refine bu ?_; exact BK111.out⟩, ⟨by refine bu ?_; refine blk_far ?_ NB135_144.out _; refine bu ?_; exact BK135.out⟩, ⟨by refine bu ?_; refine blk_put (cs := #[.int .i64 ji74, .int .i64 0, .int .i64 0]) ?_ 1 _ rfl; refine bu ?_; exact BK144.out⟩, ⟨s9⟩, ⟨k9⟩, ⟨b9⟩⟩
         case rest =>
          clear HC77
          try clear c1
          try clear p1
          try clear q1
          try clear hx1
          try clear c2
          try clear p2
          try clear c3
          try clear c4
          try clear c4b0
          try clear c5
          try clear hcv5
          try clear c6
          try clear c6b0
          try clear c6b1
          try clear p6
          try clear c7
          try clear c8
          try clear c8b0
          try clear c9
          try clear p9
          try clear q9
          try clear hx9
          try clear c10
          try clear c10b0
          try clear c10b1
          try clear hf13
          try clear c14
          try clear c14b0
          try clear c14b1
          try clear p14
          try clear q14
          try clear hx14
          try clear c19
          try clear c19b0
          try clear c20
          try clear c20b0
          try clear c22
          try clear c22b0
          try clear c22b1
          try clear c25
          try clear c25b0
          try clear c25b1
          try clear c28
          try clear c29
          try clear c30
          try clear c36
          try clear c36b0
          try clear c36b1
          try clear c39
          try clear c39b0
          try clear c41
          try clear c41b0
          try clear c41b1
          try clear c42
          try clear c43
          try clear c43b0
          try clear c46
          try clear c46b0
          try clear c46b1
          try clear c47
          try clear c47b0
          try clear c47b1
          try clear c48
          try clear c48b0
          try clear c48b1
          try clear c49
          try clear c52
          try clear c53
          try clear hcv56
          try clear c62
          try clear c62b0
          try clear c62b1
          try clear p64
          try clear c67
          try clear c67b0
          try clear c69
          try clear c69b0
          try clear c69b1
          try clear c73
          try clear c75
          try clear c75b0
          try clear c76
          try clear c76b0
          try clear c81
          try clear c82
          try clear c83
          try clear c84
          try clear c86
          try clear c86b0
          try clear c86b1
          try clear c88
          try clear c88b0
          try clear c88b1
          try clear c91
          try clear c92
          try clear c93
          try clear c94
          try clear hcz31_0 hcz31_1 hcz31_2
          try clear hcz34_0 hcz34_1 hcz34_2
          try clear hcz45_0 hcz45_1
          try clear hcz51_0 hcz51_1
          try clear hcz54_0 hcz54_1 hcz54_2
          try clear hcz59_0 hcz59_1 hcz59_2
          try clear hcz60_0 hcz60_1
          try clear hcz70_0 hcz70_1
          try clear hcz78_0 hcz78_1
          try clear hcz85_0 hcz85_1 hcz85_2
          try clear hcz95_0 hcz95_1 hcz95_2
          try clear hfz31_0 hfz31_1 hfz31_2
          try clear hfz34_0 hfz34_1 hfz34_2
          try clear hfz45_1
          try clear hfz51_1
          try clear hfz54_0 hfz54_1 hfz54_2
          try clear hfz59_0 hfz59_1 hfz59_2
          try clear hfz60_1
          try clear hfz70_1
          try clear hfz78_1
          try clear hfz85_0 hfz85_1 hfz85_2
          try clear hfz95_0 hfz95_1 hfz95_2
          try clear hx146_0
          try clear hx146_1
          try clear hx146_2
          try clear hx146_3
          try clear hx146_4
          try clear p146
          try clear p2
          try clear p6
          try clear p64
          try clear p9
          try clear q146
          try clear q9
          obtain ⟨kq, x1001_76, x145001_76, HA, HJ76, HO_112000, HO_112001, HO_112002, BK106, BK111, BK135, BK144, HI0, HK, HB⟩ := hcut
          cases kq with
          | zero => exact absurd HA.out (by simp [r_code.j5])
          | succ kj76 =>
           have H := HA.out
           clear HA
           simp only [r_code.j5] at H
           by_cases c96 : 0 ≤ ji74
           rotate_left
           ·rw [if_neg c96] at H
            exact absurd H (by simp)
           rw [if_pos c96] at H
           have c96b0 := decide_eq_true c96
           clear c96
           by_cases c97 : ji74 < (tabL.length : Int)
           rotate_left
           ·rw [if_neg c97] at H
            exact absurd H (by simp)
           rw [if_pos c97] at H
           have c97b0 := decide_eq_true c97
           clear c97
           by_cases c98 : ((rd_T72 tabL ji74).f2) = 0
           ·rw [if_pos c98] at H
            have c98b0 : (((rd_T72 tabL ji74).f2) == 0) = true := beq_iff_eq.mpr c98
            have c98b1 : (((rd_T72 tabL ji74).f2) != 0) = false := bne_eq_false_iff_eq.mpr c98
            clear c98
            by_cases c99 : x112000_4.length < 5864062014805
            rotate_left
            ·rw [if_neg c99] at H
             exact absurd H (by simp)
            rw [if_pos c99] at H
            have LMc99 := am c99
            clear c99
            obtain ⟨y152, hy152⟩ : ∃ y_ : List (S41), y_ = (x112000_4 ++ [(⟨ji74, x145001_76, 0⟩ : S41)]) := ⟨_, rfl⟩
            replace H : (r_code.l4 kj76 t136 (wrap64 (x102_4 + 1)) s0_0 x1001_76 y152 x112001_2 x112002_3) = some (r1, r2, r3, r4, r5, r6) := by first | (rw [hy152]; with_reducible exact H) | (have H2_ := (Option.bind_some _ _).symm.trans H; rw [hy152]; with_reducible exact H2_) | (have H2_ := (Option.bind_some _ _).symm.trans H; with_reducible exact H2_) | with_reducible exact H | (rw [hy152]; exact H) | exact H
            have Ny152 := am hy152
            clear hy152
            have H' := am H
            clear H
            have hnb100 := NB144_106.out
            have hnc100 := NB106_144.out
            have hnb101 := NB144_111.out
            have hnc101 := NB111_144.out
            have hnb102 := NB144_135.out
            have hnc102 := NB135_144.out
            have hnb103 := NB144_0.out
            have hnc103 := NB0_144.out
            obtain ⟨⟨hcz104_0, hcz104_1, hcz104_2⟩, hfz104_0, hfz104_1, hfz104_2⟩ := blkAll3 BK144
            have p151 : 0 ≤ (ji74 : Int) := of_decide_eq_true od
            have q151 : ji74 < (tabL.length : Int) := of_decide_eq_true od
            have q151n : (ji74 < 34) = True := eq_true (by have h_ := q151; rw [tabL_len] at h_; exact h_)
            obtain ⟨adq_, e151, hx151_0, hx151_1, hx151_2, hx151_3, hx151_4⟩ := at_T72 (tab_rowsA hadT_.out BK135.out) ji74 p151 q151
            obtain rfl := Option.some.inj e151
            replace p151 := eq_true p151
            replace q151 := eq_true q151
            have hnb105 := NB111_106.out
            have hnc105 := NB106_111.out
            have hnb106 := NB111_135.out
            have hnc106 := NB135_111.out
            have hnb107 := NB111_0.out
            have hnc107 := NB0_111.out
            obtain ⟨⟨hcz108_0, hcz108_1, hcz108_2⟩, hfz108_0, hfz108_1, hfz108_2⟩ := blkAll3 BK111
            go_wp2_with (first | ((with_reducible refine gate_builtin (b := .append) (xs := #[.tmp 137, .tmp 139]) rfl ?_); at_builtin; refine Kd.R_append k41 w.heap.size rfl (.tmp 137) (.tmp 139) 22 41 (.agg #[(.int .i64 0), (.int .i64 0), (.int .i64 0)]) 24 rfl Tryd.underlying22 info41 rfl (by decide) (by omega) u112000 x112000_4 (⟨ji74, x145001_76, 0⟩ : S41) [.int .i64 ji74, .int .i64 x145001_76, .int .i64 0] (fun k_ => k_ ≠ gb144) (fun _ => False) rfl rfl ?aP (fun _ hk => hk.elim) ?aF ?aO (Below.refl _ _) ?aS ?aL ?_; (case aP => exact k41_mkM _ _ _ (⟨ji74, x145001_76, 0⟩ : S41)); (case aF => exact (fun k_ hk => Kd.freshB (g := gb144) (o := .cells #[.int .i64 ji74, .int .i64 x145001_76, .int .i64 0] 41 (0, 0)) (bu BK144.out) k_ hk)); (case aO => exact (by (with_reducible repeat (first | apply Kd.R_alloc | apply Kd.R_drewN | apply Kd.R_drew)); exact HO_112000.out)); (case aS => exact (keep_size (w := w) (g := g) (row := none) k9)); (case aL => have := LMc99.out; omega); intro v153 w109 ho hb hg hat; rw [← Ny152.out] at ho; have n1_ := am (Kd.R_over' (by (with_reducible repeat (first | apply Kd.R_alloc | apply Kd.R_drewN | apply Kd.R_drew)); exact HO_112001.out) (Kd.R_typed (by (with_reducible repeat (first | apply Kd.R_alloc | apply Kd.R_drewN | apply Kd.R_drew)); exact HO_112000.out)) (by decide) hg); have n2_ := am (Kd.R_over' (by (with_reducible repeat (first | apply Kd.R_alloc | apply Kd.R_drewN | apply Kd.R_drew)); exact HO_112002.out) (Kd.R_typed (by (with_reducible repeat (first | apply Kd.R_alloc | apply Kd.R_drewN | apply Kd.R_drew)); exact HO_112000.out)) (by decide) hg); have n3_ := am (blk_grown (g := gb106) (o := .cells #[.slice none 0 0, .slice none 0 0, .slice none 0 0] 26 (0, 0)) (bu BK106.out) hg (Kd.R_ne HO_112000.out BK106.out (by decide))); have n4_ := am (blk_grown (g := gb111) (o := .cells #[u112000, u112001, u112002] 26 (0, 0)) (bu BK111.out) hg (Kd.R_ne HO_112000.out BK111.out (by decide))); have n5_ := am (blk_grown (g := gb135) (o := .cells tabC 73 (0, 0)) (bu BK135.out) hg (Kd.R_ne HO_112000.out BK135.out (by decide))); have n6_ := am (blk_grown (g := gb144) (o := .cells #[.int .i64 ji74, .int .i64 x145001_76, .int .i64 0] 41 (0, 0)) (bu BK144.out) hg (Kd.R_away HO_112000.out (fun _ hk => hk))); have n7_ := am (IsS95.grown s9 hg (IsS95.own_ne HI0.out HO_112000.out (by decide))); have n8_ := am (below_weaken b9 HL.out hb); have n9_ := am (KeepBut.trans k9 (KeepBut.of_grown hg g) (Kd.R_base2 HO_112000.out)); have n10_ := am (ho); clear HO_112001; clear HO_112002; clear BK106; clear BK111; clear BK135; clear BK144; clear HI0; clear HB; clear HK; clear HO_112000; have HO_112001 := n1_; have HO_112002 := n2_; have BK106 := n3_; have BK111 := n4_; have BK135 := n5_; have BK144 := n6_; have HI0 := n7_; have HB := n8_; have HK := n9_; have HO154 := n10_; clear n1_ n2_ n3_ n4_ n5_ n6_ n7_ n8_ n9_ n10_; clear ho hb hg hat; obtain ⟨Ao110, co110, eo110⟩ := Kd.R_slice HO154.out; subst eo110; obtain ⟨⟨hcz111_0, hcz111_1, hcz111_2⟩, hfz111_0, hfz111_1, hfz111_2⟩ := blkAll3 BK111))
            repeat (go_quiet (fail); try go_wp2)
            go_roundg kj76
            case measure => have := HK1.out; have := HK2.out; have := HK3.out; have := HK4.out; have := HJ76.out; omega
            case rel => exact ⟨(wrap64 (x102_4 + 1)), (x1001_76), (y152), (.slice Ao110 y152.length co110), tv, H', ⟨by have := HK1.out; have := HK2.out; have := HK3.out; have := HK4.out; have := HJ76.out; omega⟩, ⟨by (with_reducible repeat (first | apply Kd.R_alloc | apply Kd.R_drewN | apply Kd.R_drew)); exact Kd.R_mono (Kd.R_far (p := ⟨gb111, 0, none⟩) (Kd.R_types HO154.out BK111.out (by decide)) (fun _ hk => hk.2) (.slice Ao110 y152.length co110)) (fun _ hk => trivial)⟩, ⟨by (with_reducible repeat (first | apply Kd.R_alloc | apply Kd.R_drewN | apply Kd.R_drew)); exact Kd.R_mono (Kd.R_far (p := ⟨gb111, 0, none⟩) (Kd.R_types HO_112001.out BK111.out (by decide)) (fun _ hk => hk.2) (.slice Ao110 y152.length co110)) (fun _ hk => trivial)⟩, ⟨by (with_reducible repeat (first | apply Kd.R_alloc | apply Kd.R_drewN | apply Kd.R_drew)); exact Kd.R_mono (Kd.R_far (p := ⟨gb111, 0, none⟩) (Kd.R_types HO_112002.out BK111.out (by decide)) (fun _ hk => hk.2) (.slice Ao110 y152.length co110)) (fun _ hk => trivial)⟩, ⟨by refine bu ?_; refine blk_far ?_ NB106_111.out _; refine bu ?_; exact BK106.out⟩, ⟨by refine bu ?_; refine blk_put (cs := #[u112000, u112001, u112002]) ?_ 0 _ rfl; refine bu ?_; exact BK111.out⟩, ⟨by refine bu ?_; refine blk_far ?_ NB135_111.out _; refine bu ?_; exact BK135.out⟩, ⟨s9⟩, ⟨k9⟩, ⟨b9⟩⟩
           rw [if_neg c98] at H
           have c98b0 : (((rd_T72 tabL ji74).f2) == 0) = false := beq_eq_false_iff_ne.mpr c98
           have c98b1 : (((rd_T72 tabL ji74).f2) != 0) = true := bne_iff_ne.mpr c98
           replace H := Option.bind_eq_some_iff.mp H
           obtain ⟨⟨t155, t156, t157, t158⟩, A1120, H⟩ := H
           replace H : (if t156 = 1 then (some (([] : List (S41)), ([] : List Int), ([] : List ByteArray), 1, t157, t158)) else (if x112000_4.length < 5864062014805 then (r_code.l4 kj76 t136 (wrap64 (x102_4 + 1)) s0_0 t158 (x112000_4 ++ [(⟨ji74, x145001_76, t155⟩ : S41)]) x112001_2 x112002_3) else (none))) = some (r1, r2, r3, r4, r5, r6) := H
           have A112 := am A1120
           clear A1120
           by_cases c113 : t156 = 1
           ·rw [if_pos c113] at H
            have c113b0 : (t156 == 1) = true := beq_iff_eq.mpr c113
            have c113b1 : (t156 != 1) = false := bne_eq_false_iff_eq.mpr c113
            clear c113
            simp only [Option.some.injEq, Prod.mk.injEq] at H
            obtain ⟨rfl, rfl, rfl, rfl, rfl, rfl⟩ := H
            have hnb114 := NB144_106.out
            have hnc114 := NB106_144.out
            have hnb115 := NB144_111.out
            have hnc115 := NB111_144.out
            have hnb116 := NB144_135.out
            have hnc116 := NB135_144.out
            have hnb117 := NB144_0.out
            have hnc117 := NB0_144.out
            obtain ⟨⟨hcz118_0, hcz118_1, hcz118_2⟩, hfz118_0, hfz118_1, hfz118_2⟩ := blkAll3 BK144
            have p151 : 0 ≤ (ji74 : Int) := of_decide_eq_true od
            have q151 : ji74 < (tabL.length : Int) := of_decide_eq_true od
            have q151n : (ji74 < 34) = True := eq_true (by have h_ := q151; rw [tabL_len] at h_; exact h_)
            obtain ⟨adq_, e151, hx151_0, hx151_1, hx151_2, hx151_3, hx151_4⟩ := at_T72 (tab_rowsA hadT_.out BK135.out) ji74 p151 q151
            obtain rfl := Option.some.inj e151
            replace p151 := eq_true p151
            replace q151 := eq_true q151
            go_wp2_with (first | (go_at_call 63; (with_reducible refine (r_number.calls (Ab := Ab) (cb := cb) kj76 g s0_0 x1001_76 t155 t156 t157 t158 w0 _ ?side1 ?side2 A112.out).mono ?_); (case side1 => exact s9); (case side2 => exact b9); rintro e w119 ⟨ho, hi, hb, hk⟩; rcases ho with ⟨hm_, rfl⟩ | ⟨hm_, rfl⟩; (all_goals (first | exact absurd hm_ (mk0 (by assumption)) | exact absurd hm_ (mk1 (by assumption)) | skip)); have n1_ := am (Kd.R_mono (Kd.R_keep (IsS95.apart (show IsS95 Ab cb w0 _ g s0_0 x1001_76 from s9) (by (with_reducible repeat (first | apply Kd.R_alloc | apply Kd.R_drewN | apply Kd.R_drew)); exact HO_112000.out) (by decide)) hk (fun _ h => h.2)) (fun _ h => h.1)); have n2_ := am (Kd.R_mono (Kd.R_keep (IsS95.apart (show IsS95 Ab cb w0 _ g s0_0 x1001_76 from s9) (by (with_reducible repeat (first | apply Kd.R_alloc | apply Kd.R_drewN | apply Kd.R_drew)); exact HO_112001.out) (by decide)) hk (fun _ h => h.2)) (fun _ h => h.1)); have n3_ := am (Kd.R_mono (Kd.R_keep (IsS95.apart (show IsS95 Ab cb w0 _ g s0_0 x1001_76 from s9) (by (with_reducible repeat (first | apply Kd.R_alloc | apply Kd.R_drewN | apply Kd.R_drew)); exact HO_112002.out) (by decide)) hk (fun _ h => h.2)) (fun _ h => h.1)); have n4_ := am (KeepBut.blk hk (g' := gb106) (o := .cells #[.slice none 0 0, .slice none 0 0, .slice none 0 0] 26 (0, 0)) (bu BK106.out) NB106_0.out (by simp)); have n5_ := am (KeepBut.blk hk (g' := gb111) (o := .cells #[u112000, u112001, u112002] 26 (0, 0)) (bu BK111.out) NB111_0.out (by simp)); have n6_ := am (KeepBut.blk hk (g' := gb135) (o := .cells tabC 73 (0, 0)) (bu BK135.out) NB135_0.out (by simp)); have n7_ := am (KeepBut.blk hk (g' := gb144) (o := .cells #[.int .i64 ji74, .int .i64 x145001_76, .int .i64 0] 41 (0, 0)) (bu BK144.out) NB144_0.out (by simp)); have n8_ := am (KeepBut.trans k9 hk (.inl rfl)); have n9_ := am (hb); have n10_ := am (hi); clear HO_112000; clear HO_112001; clear HO_112002; clear BK106; clear BK111; clear BK135; clear BK144; clear HK; clear HB; clear HI0; have HO_112000 := n1_; have HO_112001 := n2_; have HO_112002 := n3_; have BK106 := n4_; have BK111 := n5_; have BK135 := n6_; have BK144 := n7_; have HK := n8_; have HB := n9_; have HI0 := n10_; clear n1_ n2_ n3_ n4_ n5_ n6_ n7_ n8_ n9_ n10_; (try clear hb); (try clear hb2); (try clear hk); (try clear hi)))
            repeat (go_quiet (fail); try go_wp2)
            refine ⟨rfl, ?_⟩
            exact ⟨_, _, _, .inr ⟨rfl, rfl⟩, nil9, nil9, nil9, s9, b9, k9⟩
           rw [if_neg c113] at H
           have c113b0 : (t156 == 1) = false := beq_eq_false_iff_ne.mpr c113
           have c113b1 : (t156 != 1) = true := bne_iff_ne.mpr c113
           by_cases c120 : x112000_4.length < 5864062014805
           rotate_left
           ·rw [if_neg c120] at H
            exact absurd H (by simp)
           rw [if_pos c120] at H
           have LMc120 := am c120
           clear c120
           obtain ⟨y159, hy159⟩ : ∃ y_ : List (S41), y_ = (x112000_4 ++ [(⟨ji74, x145001_76, t155⟩ : S41)]) := ⟨_, rfl⟩
           replace H : (r_code.l4 kj76 t136 (wrap64 (x102_4 + 1)) s0_0 t158 y159 x112001_2 x112002_3) = some (r1, r2, r3, r4, r5, r6) := by first | (rw [hy159]; with_reducible exact H) | (have H2_ := (Option.bind_some _ _).symm.trans H; rw [hy159]; with_reducible exact H2_) | (have H2_ := (Option.bind_some _ _).symm.trans H; with_reducible exact H2_) | with_reducible exact H | (rw [hy159]; exact H) | exact H
           have Ny159 := am hy159
           clear hy159
           have H' := am H
           clear H
           have hnb121 := NB144_106.out
           have hnc121 := NB106_144.out
           have hnb122 := NB144_111.out
           have hnc122 := NB111_144.out
           have hnb123 := NB144_135.out
           have hnc123 := NB135_144.out
           have hnb124 := NB144_0.out
           have hnc124 := NB0_144.out
           obtain ⟨⟨hcz125_0, hcz125_1, hcz125_2⟩, hfz125_0, hfz125_1, hfz125_2⟩ := blkAll3 BK144
           have p151 : 0 ≤ (ji74 : Int) := of_decide_eq_true od
           have q151 : ji74 < (tabL.length : Int) := of_decide_eq_true od
           have q151n : (ji74 < 34) = True := eq_true (by have h_ := q151; rw [tabL_len] at h_; exact h_)
           obtain ⟨adq_, e151, hx151_0, hx151_1, hx151_2, hx151_3, hx151_4⟩ := at_T72 (tab_rowsA hadT_.out BK135.out) ji74 p151 q151
           obtain rfl := Option.some.inj e151
           replace p151 := eq_true p151
           replace q151 := eq_true q151
           go_wp2_with (first | (go_at_call 63; (with_reducible refine (r_number.calls (Ab := Ab) (cb := cb) kj76 g s0_0 x1001_76 t155 t156 t157 t158 w0 _ ?side1 ?side2 A112.out).mono ?_); (case side1 => exact s9); (case side2 => exact b9); rintro e w126 ⟨ho, hi, hb, hk⟩; rcases ho with ⟨hm_, rfl⟩ | ⟨hm_, rfl⟩; (all_goals (first | exact absurd hm_ (mk0 (by assumption)) | exact absurd hm_ (mk1 (by assumption)) | skip)); have n1_ := am (Kd.R_mono (Kd.R_keep (IsS95.apart (show IsS95 Ab cb w0 _ g s0_0 x1001_76 from s9) (by (with_reducible repeat (first | apply Kd.R_alloc | apply Kd.R_drewN | apply Kd.R_drew)); exact HO_112000.out) (by decide)) hk (fun _ h => h.2)) (fun _ h => h.1)); have n2_ := am (Kd.R_mono (Kd.R_keep (IsS95.apart (show IsS95 Ab cb w0 _ g s0_0 x1001_76 from s9) (by (with_reducible repeat (first | apply Kd.R_alloc | apply Kd.R_drewN | apply Kd.R_drew)); exact HO_112001.out) (by decide)) hk (fun _ h => h.2)) (fun _ h => h.1)); have n3_ := am (Kd.R_mono (Kd.R_keep (IsS95.apart (show IsS95 Ab cb w0 _ g s0_0 x1001_76 from s9) (by (with_reducible repeat (first | apply Kd.R_alloc | apply Kd.R_drewN | apply Kd.R_drew)); exact HO_112002.out) (by decide)) hk (fun _ h => h.2)) (fun _ h => h.1)); have n4_ := am (KeepBut.blk hk (g' := gb106) (o := .cells #[.slice none 0 0, .slice none 0 0, .slice none 0 0] 26 (0, 0)) (bu BK106.out) NB106_0.out (by simp)); have n5_ := am (KeepBut.blk hk (g' := gb111) (o := .cells #[u112000, u112001, u112002] 26 (0, 0)) (bu BK111.out) NB111_0.out (by simp)); have n6_ := am (KeepBut.blk hk (g' := gb135) (o := .cells tabC 73 (0, 0)) (bu BK135.out) NB135_0.out (by simp)); have n7_ := am (KeepBut.blk hk (g' := gb144) (o := .cells #[.int .i64 ji74, .int .i64 x145001_76, .int .i64 0] 41 (0, 0)) (bu BK144.out) NB144_0.out (by simp)); have n8_ := am (KeepBut.trans k9 hk (.inl rfl)); have n9_ := am (hb); have n10_ := am (hi); clear HO_112000; clear HO_112001; clear HO_112002; clear BK106; clear BK111; clear BK135; clear BK144; clear HK; clear HB; clear HI0; have HO_112000 := n1_; have HO_112001 := n2_; have HO_112002 := n3_; have BK106 := n4_; have BK111 := n5_; have BK135 := n6_; have BK144 := n7_; have HK := n8_; have HB := n9_; have HI0 := n10_; clear n1_ n2_ n3_ n4_ n5_ n6_ n7_ n8_ n9_ n10_; (try clear hb); (try clear hb2); (try clear hk); (try clear hi); obtain ⟨⟨hcz127_0, hcz127_1, hcz127_2⟩, hfz127_0, hfz127_1, hfz127_2⟩ := blkAll3 BK144; have hnb128 := NB111_106.out; have hnc128 := NB106_111.out; have hnb129 := NB111_135.out; have hnc129 := NB135_111.out; have hnb130 := NB111_0.out; have hnc130 := NB0_111.out; obtain ⟨⟨hcz131_0, hcz131_1, hcz131_2⟩, hfz131_0, hfz131_1, hfz131_2⟩ := blkAll3 BK111) | ((with_reducible refine gate_builtin (b := .append) (xs := #[.tmp 137, .tmp 139]) rfl ?_); at_builtin; refine Kd.R_append k41 w.heap.size rfl (.tmp 137) (.tmp 139) 22 41 (.agg #[(.int .i64 0), (.int .i64 0), (.int .i64 0)]) 24 rfl Tryd.underlying22 info41 rfl (by decide) (by omega) u112000 x112000_4 (⟨ji74, x145001_76, t155⟩ : S41) [.int .i64 ji74, .int .i64 x145001_76, .int .i64 t155] (fun k_ => k_ ≠ gb144) (fun _ => False) rfl (by first | (go_simp; done) | (go_simp; rfl)) ?aP (fun _ hk => hk.elim) ?aF ?aO (Below.refl _ _) ?aS ?aL ?_; (case aP => exact k41_mkM _ _ _ (⟨ji74, x145001_76, t155⟩ : S41)); (case aF => exact (fun k_ hk => Kd.freshB (g := gb144) (o := .cells #[.int .i64 ji74, .int .i64 x145001_76, .int .i64 t155] 41 (0, 0)) (by refine bu ?_; refine blk_put (cs := #[.int .i64 ji74, .int .i64 x145001_76, .int .i64 0]) ?_ 2 _ rfl; refine bu ?_; exact BK144.out) k_ hk)); (case aO => exact (by (with_reducible repeat (first | apply Kd.R_alloc | apply Kd.R_drewN | apply Kd.R_drew)); exact Kd.R_mono (Kd.R_far (p := ⟨gb144, 2, none⟩) (Kd.R_mono HO_112000.out (fun k_ hk => (⟨hk, hk⟩ : _ ∧ k_ ≠ gb144))) (fun _ hk => hk.2) (.int .i64 t155)) (fun _ hk => hk.1))); (case aS => exact (keep_size (w := w) (g := g) (row := none) k9)); (case aL => have := LMc120.out; omega); intro v160 w132 ho hb hg hat; rw [← Ny159.out] at ho; have n1_ := am (Kd.R_over' (by (with_reducible repeat (first | apply Kd.R_alloc | apply Kd.R_drewN | apply Kd.R_drew)); exact (Kd.R_mono (Kd.R_far (p := ⟨gb144, 2, none⟩) (Kd.R_types HO_112001.out BK144.out (by decide)) (fun _ hk => hk.2) (.int .i64 t155)) (fun _ h_ => h_.1))) (Kd.R_typed (by (with_reducible repeat (first | apply Kd.R_alloc | apply Kd.R_drewN | apply Kd.R_drew)); exact (Kd.R_mono (Kd.R_far (p := ⟨gb144, 2, none⟩) (Kd.R_mono HO_112000.out (fun k_ hk => (⟨hk, hk⟩ : _ ∧ k_ ≠ gb144))) (fun _ hk => hk.2) (.int .i64 t155)) (fun _ h_ => h_.1)))) (by decide) hg); have n2_ := am (Kd.R_over' (by (with_reducible repeat (first | apply Kd.R_alloc | apply Kd.R_drewN | apply Kd.R_drew)); exact (Kd.R_mono (Kd.R_far (p := ⟨gb144, 2, none⟩) (Kd.R_types HO_112002.out BK144.out (by decide)) (fun _ hk => hk.2) (.int .i64 t155)) (fun _ h_ => h_.1))) (Kd.R_typed (by (with_reducible repeat (first | apply Kd.R_alloc | apply Kd.R_drewN | apply Kd.R_drew)); exact (Kd.R_mono (Kd.R_far (p := ⟨gb144, 2, none⟩) (Kd.R_mono HO_112000.out (fun k_ hk => (⟨hk, hk⟩ : _ ∧ k_ ≠ gb144))) (fun _ hk => hk.2) (.int .i64 t155)) (fun _ h_ => h_.1)))) (by decide) hg); have n3_ := am (blk_grown (g := gb106) (o := .cells #[.slice none 0 0, .slice none 0 0, .slice none 0 0] 26 (0, 0)) (by refine bu ?_; refine blk_far ?_ NB106_144.out _; refine bu ?_; exact BK106.out) hg (Kd.R_ne HO_112000.out BK106.out (by decide))); have n4_ := am (blk_grown (g := gb111) (o := .cells #[u112000, u112001, u112002] 26 (0, 0)) (by refine bu ?_; refine blk_far ?_ NB111_144.out _; refine bu ?_; exact BK111.out) hg (Kd.R_ne HO_112000.out BK111.out (by decide))); have n5_ := am (blk_grown (g := gb135) (o := .cells tabC 73 (0, 0)) (by refine bu ?_; refine blk_far ?_ NB135_144.out _; refine bu ?_; exact BK135.out) hg (Kd.R_ne HO_112000.out BK135.out (by decide))); have n6_ := am (blk_grown (g := gb144) (o := .cells #[.int .i64 ji74, .int .i64 x145001_76, .int .i64 t155] 41 (0, 0)) (by refine bu ?_; refine blk_put (cs := #[.int .i64 ji74, .int .i64 x145001_76, .int .i64 0]) ?_ 2 _ rfl; refine bu ?_; exact BK144.out) hg (Kd.R_away HO_112000.out (fun _ hk => hk))); have n7_ := am (IsS95.grown (IsS95.far HI0.out NB0_144.out (p := ⟨gb144, 2, none⟩) (.int .i64 t155)) hg (IsS95.own_ne HI0.out HO_112000.out (by decide))); have n8_ := am (below_weaken b9 HL.out hb); have n9_ := am (KeepBut.trans k9 (KeepBut.of_grown hg g) (Kd.R_base2 HO_112000.out)); have n10_ := am (ho); clear HO_112001; clear HO_112002; clear BK106; clear BK111; clear BK135; clear BK144; clear HI0; clear HB; clear HK; clear HO_112000; have HO_112001 := n1_; have HO_112002 := n2_; have BK106 := n3_; have BK111 := n4_; have BK135 := n5_; have BK144 := n6_; have HI0 := n7_; have HB := n8_; have HK := n9_; have HO161 := n10_; clear n1_ n2_ n3_ n4_ n5_ n6_ n7_ n8_ n9_ n10_; clear ho hb hg hat; obtain ⟨Ao133, co133, eo133⟩ := Kd.R_slice HO161.out; subst eo133; obtain ⟨⟨hcz134_0, hcz134_1, hcz134_2⟩, hfz134_0, hfz134_1, hfz134_2⟩ := blkAll3 BK111))
           repeat (go_quiet (fail); try go_wp2)
           go_roundg kj76
           case measure => have := HK1.out; have := HK2.out; have := HK3.out; have := HK4.out; have := HJ76.out; omega
           case rel => exact ⟨(wrap64 (x102_4 + 1)), (t158), (y159), (.slice Ao133 y159.length co133), tv, H', ⟨by have := HK1.out; have := HK2.out; have := HK3.out; have := HK4.out; have := HJ76.out; omega⟩, ⟨by (with_reducible repeat (first | apply Kd.R_alloc | apply Kd.R_drewN | apply Kd.R_drew)); exact Kd.R_mono (Kd.R_far (p := ⟨gb111, 0, none⟩) (Kd.R_types HO161.out BK111.out (by decide)) (fun _ hk => hk.2) (.slice Ao133 y159.length co133)) (fun _ hk => trivial)⟩, ⟨by (with_reducible repeat (first | apply Kd.R_alloc | apply Kd.R_drewN | apply Kd.R_drew)); exact Kd.R_mono (Kd.R_far (p := ⟨gb111, 0, none⟩) (Kd.R_types HO_112001.out BK111.out (by decide)) (fun _ hk => hk.2) (.slice Ao133 y159.length co133)) (fun _ hk => trivial)⟩, ⟨by (with_reducible repeat (first | apply Kd.R_alloc | apply Kd.R_drewN | apply Kd.R_drew)); exact Kd.R_mono (Kd.R_far (p := ⟨gb111, 0, none⟩) (Kd.R_types HO_112002.out BK111.out (by decide)) (fun _ hk => hk.2) (.slice Ao133 y159.length co133)) (fun _ hk => trivial)⟩, ⟨by refine bu ?_; refine blk_far ?_ NB106_111.out _; refine bu ?_; exact BK106.out⟩, ⟨by refine bu ?_; refine blk_put (cs := #[u112000, u112001, u112002]) ?_ 0 _ rfl; refine bu ?_; exact BK111.out⟩, ⟨by refine bu ?_; refine blk_far ?_ NB135_111.out _; refine bu ?_; exact BK135.out⟩, ⟨s9⟩, ⟨k9⟩, ⟨b9⟩⟩
end Go.Proofs.YtdkejcadoepnnaaDoor.ECc
