/-
 A text of this session's own.
-/
import Derived.Test.YtdkejcadoepnnaaDoorLiA0
import Derived.Test.YtdkejcadoepnnaaDoorLiECcx0
import Derived.Test.YtdkejcadoepnnaaDoorLiECcx1
import Derived.Test.YtdkejcadoepnnaaDoorLiECcx11
import Derived.Test.YtdkejcadoepnnaaDoorLiECcx15
import Derived.Test.YtdkejcadoepnnaaDoorLiECcx16
import Derived.Test.YtdkejcadoepnnaaDoorLiECcx22
import Derived.Test.YtdkejcadoepnnaaDoorLiX
namespace Go.Proofs.YtdkejcadoepnnaaDoor.ECc
open Go.RowKit Go.Proofs.YtdkejcadoepnnaaDoorW.PrintWords Go.Proofs.YtdkejcadoepnnaaDoorW.PrintLast Go.Proofs.YtdkejcadoepnnaaDoorW.PrintMore
attribute [local go_sem] max2_int min2_int max_two min_two max_three min_three max_four min_four   -- for this text's walks alone
set_option linter.unusedVariables false
set_option linter.unusedSimpArgs false
open Go.Proofs.YtdkejcadoepnnaaDoor.X
attribute [local go_sem high] eqA41
mutual
def abacuslaw26_CodeListed.l0 : Nat → ByteArray → Int → Int → Int → List (S41) → List Int → List ByteArray → List (S41) → List Int → List ByteArray → Option (Bool)
 | 0, _, _, _, _, _, _, _, _, _, _ => none
 | k + 1, x5, x10, x11, x12, x338000, x338001, x338002, x339000, x339001, x339002 => if x12 < (x5.size : Int) then (if 0 ≤ x12 then (if (bt x5 x12) = 10 then ((abacuslaw26_number.f k x10).bind fun t345 => (if t345.size + 2 ≤ 9223372036854775807 then (if 0 ≤ x11 then (if x11 ≤ x12 then (if x12 ≤ (x5.size : Int) then (if ((x5.extract (x11 : Int).toNat (x12 : Int).toNat).size : Int) < ((t345 ++ (⟨#[58, 32]⟩ : ByteArray)).size : Int) then (some false) else (if x11 ≤ (wrap64 (x11 + ((t345 ++ (⟨#[58, 32]⟩ : ByteArray)).size : Int))) then (if (wrap64 (x11 + ((t345 ++ (⟨#[58, 32]⟩ : ByteArray)).size : Int))) ≤ (x5.size : Int) then (if (x5.extract (x11 : Int).toNat ((wrap64 (x11 + ((t345 ++ (⟨#[58, 32]⟩ : ByteArray)).size : Int))) : Int).toNat).toList = (t345 ++ (⟨#[58, 32]⟩ : ByteArray)).toList then (abacuslaw26_CodeListed.l0 k x5 (wrap64 (x10 + 1)) (wrap64 (x12 + 1)) (wrap64 (x12 + 1)) x338000 x338001 x338002 x339000 x339001 x339002) else (some false)) else (none)) else (none))) else (none)) else (none)) else (none)) else (none))) else (if (bt x5 x12) < 32 then (some false) else (if (bt x5 x12) > 126 then (some false) else (abacuslaw26_CodeListed.l0 k x5 x10 x11 (wrap64 (x12 + 1)) x338000 x338001 x338002 x339000 x339001 x339002)))) else (none)) else (if x10 = (x338000.length : Int) then (abacuslaw26_CodeListed.j1 k x5 (x11 != (x5.size : Int)) x338000 x338001 x338002 x339000 x339001 x339002) else (abacuslaw26_CodeListed.j1 k x5 true x338000 x338001 x338002 x339000 x339001 x339002))
def abacuslaw26_CodeListed.j1 : Nat → ByteArray → Bool → List (S41) → List Int → List ByteArray → List (S41) → List Int → List ByteArray → Option (Bool)
 | 0, _, _, _, _, _, _, _, _ => none
 | k + 1, x5, x106, x338000, x338001, x338002, x339000, x339001, x339002 => if x106 = true then (some false) else ((code_List.f k x339000 x339001 x339002).bind fun bt346 => (if bt346.2 = 0 then (abacuslaw26_CodeListed.j2 k (bt346.1.toList != x5.toList) x338000 x338001 x338002 x339000 x339001 x339002) else (abacuslaw26_CodeListed.j2 k true x338000 x338001 x338002 x339000 x339001 x339002)))
def abacuslaw26_CodeListed.j2 : Nat → Bool → List (S41) → List Int → List ByteArray → List (S41) → List Int → List ByteArray → Option (Bool)
 | 0, _, _, _, _, _, _, _ => none
 | k + 1, x118, x338000, x338001, x338002, x339000, x339001, x339002 => if x118 = true then (some true) else (if (x338000.length : Int) = (x339000.length : Int) then (abacuslaw26_CodeListed.l1 k 0 x338000 x338001 x338002 x339000 x339001 x339002) else (some false))
def abacuslaw26_CodeListed.l1 : Nat → Int → List (S41) → List Int → List ByteArray → List (S41) → List Int → List ByteArray → Option (Bool)
 | 0, _, _, _, _, _, _, _ => none
 | k + 1, x16, x338000, x338001, x338002, x339000, x339001, x339002 => if x16 < (x338000.length : Int) then (if 0 ≤ x16 then (if x16 < (x339000.length : Int) then (if (!(((rd_T41 x338000 x16).f0) == ((rd_T41 x339000 x16).f0)) || (!(((rd_T41 x338000 x16).f1) == ((rd_T41 x339000 x16).f1)) || (!(((rd_T41 x338000 x16).f2) == ((rd_T41 x339000 x16).f2))))) = true then (some false) else (abacuslaw26_CodeListed.l1 k (wrap64 (x16 + 1)) x338000 x338001 x338002 x339000 x339001 x339002)) else (none)) else (none)) else (some true)
end
def abacuslaw26_CodeListed.f (k : Nat) (l0_0 : List (S41)) (l0_1 : List Int) (l0_2 : List ByteArray) (l1_0 : List (S41)) (l1_1 : List Int) (l1_2 : List ByteArray) : Option (Bool) := (abacuslaw26_awake.f k).bind fun t339 => (if t339 = true then ((code_List.f k l0_0 l0_1 l0_2).bind fun bt340 => (if bt340.2 = 0 then (abacuslaw26_CodeListed.l0 k bt340.1 0 0 0 l0_0 l0_1 l0_2 l1_0 l1_1 l1_2) else ((code_Check.f k l0_0 l0_1 l0_2).bind fun bt342 => (if bt340.1.toList = ([] : List UInt8) then (if bt340.2 = 260 then (if bt342.2.2 = 260 then (some true) else (if bt340.2 = 3 then (some (bt342.2.2 == 0)) else (some false))) else (if bt340.2 = 3 then (some (bt342.2.2 == 0)) else (some false))) else (some false))))) else (some false))
set_option maxHeartbeats 8000000 in
set_option maxRecDepth 100000 in
theorem abacuslaw26_CodeListed.calls (k : Nat) (A0_0 : Option Addr) (c0_0 : Nat) (l0_0 : List (S41)) (A0_1 : Option Addr) (c0_1 : Nat) (l0_1 : List Int) (A0_2 : Option Addr) (c0_2 : Nat) (l0_2 : List ByteArray) (A1_0 : Option Addr) (c1_0 : Nat) (l1_0 : List (S41)) (A1_1 : Option Addr) (c1_1 : Nat) (l1_1 : List Int) (A1_2 : Option Addr) (c1_2 : Nat) (l1_2 : List ByteArray) (r : Bool) (w : World) (hr0_0 : Kd.C k41 w A0_0 l0_0.length l0_0) (hc0_0 : l0_0.length ≤ c0_0) (hr0_1 : Kd.C (Kd.int .u64) w A0_1 l0_1.length l0_1) (hc0_1 : l0_1.length ≤ c0_1) (hr0_2 : Kd.C Kd.string w A0_2 l0_2.length l0_2) (hc0_2 : l0_2.length ≤ c0_2) (hr1_0 : Kd.C k41 w A1_0 l1_0.length l1_0) (hc1_0 : l1_0.length ≤ c1_0) (hr1_1 : Kd.C (Kd.int .u64) w A1_1 l1_1.length l1_1) (hc1_1 : l1_1.length ≤ c1_1) (hr1_2 : Kd.C Kd.string w A1_2 l1_2.length l1_2) (hc1_2 : l1_2.length ≤ c1_2) (hG : GW w) (h : abacuslaw26_CodeListed.f k l0_0 l0_1 l0_2 l1_0 l1_1 l1_2 = some r) :
  Calls Tryd.prog 6 #[.agg #[.slice A0_0 l0_0.length c0_0, .slice A0_1 l0_1.length c0_1, .slice A0_2 l0_2.length c0_2], .agg #[.slice A1_0 l1_0.length c1_0, .slice A1_1 l1_1.length c1_1, .slice A1_2 l1_2.length c1_2]] w fun e w' => e = .returned (.bool r) ∧ Below w.heap.size w w' := by
 have hu26 := Tryd.underlying26
 have hu41 := Tryd.underlying41
 have HR0_0 := Aside0.mk hr0_0
 have HC0_0 := Aside0.mk hc0_0
 clear hr0_0 hc0_0
 have HR0_1 := Aside0.mk hr0_1
 have HC0_1 := Aside0.mk hc0_1
 clear hr0_1 hc0_1
 have HR0_2 := Aside0.mk hr0_2
 have HC0_2 := Aside0.mk hc0_2
 clear hr0_2 hc0_2
 have HR1_0 := Aside0.mk hr1_0
 have HC1_0 := Aside0.mk hc1_0
 clear hr1_0 hc1_0
 have HR1_1 := Aside0.mk hr1_1
 have HC1_1 := Aside0.mk hc1_1
 clear hr1_1 hc1_1
 have HR1_2 := Aside0.mk hr1_2
 have HC1_2 := Aside0.mk hc1_2
 clear hr1_2 hc1_2
 have HB := Aside0.mk (Below.refl w.heap.size w)
 have HG := Aside0.mk hG
 clear hG
 have H : ((abacuslaw26_awake.f k).bind fun t339 => (if t339 = true then ((code_List.f k l0_0 l0_1 l0_2).bind fun bt340 => (if bt340.2 = 0 then (abacuslaw26_CodeListed.l0 k bt340.1 0 0 0 l0_0 l0_1 l0_2 l1_0 l1_1 l1_2) else ((code_Check.f k l0_0 l0_1 l0_2).bind fun bt342 => (if bt340.1.toList = ([] : List UInt8) then (if bt340.2 = 260 then (if bt342.2.2 = 260 then (some true) else (if bt340.2 = 3 then (some (bt342.2.2 == 0)) else (some false))) else (if bt340.2 = 3 then (some (bt342.2.2 == 0)) else (some false))) else (some false))))) else (some false))) = some r := h
 clear h
 replace H := Option.bind_eq_some_iff.mp H
 obtain ⟨t339, A30, H⟩ := H
 replace H : (if t339 = true then ((code_List.f k l0_0 l0_1 l0_2).bind fun bt340 => (if bt340.2 = 0 then (abacuslaw26_CodeListed.l0 k bt340.1 0 0 0 l0_0 l0_1 l0_2 l1_0 l1_1 l1_2) else ((code_Check.f k l0_0 l0_1 l0_2).bind fun bt342 => (if bt340.1.toList = ([] : List UInt8) then (if bt340.2 = 260 then (if bt342.2.2 = 260 then (some true) else (if bt340.2 = 3 then (some (bt342.2.2 == 0)) else (some false))) else (if bt340.2 = 3 then (some (bt342.2.2 == 0)) else (some false))) else (some false))))) else (some false)) = some r := H
 have A3 := Aside0.mk A30
 clear A30
 by_cases c4 : t339 = true
 rotate_left
 ·replace c4 := Bool.eq_false_iff.mpr c4
  subst c4
  have H1 : (some false) = some r := by rw [if_neg (show ¬ (false = true) by decide)] at H; exact H
  clear H
  have H := H1
  clear H1
  obtain rfl := Option.some.inj H
  go_enter Tryd.func6, Tryd.ntmps6
  go_wp2_with (first | ((with_reducible refine gate_dst (N := 2) rfl ?_); (try (refine gate_guard (by rfl) ?_; dsimp only)); refine box_event ?hg (N := 2) ?hd (cs := #[.slice A0_0 l0_0.length c0_0, .slice A0_1 l0_1.length c0_1, .slice A0_2 l0_2.length c0_2]) (t := 26) ?hr ?_; (case hd => rfl); (case hg => rfl); (case hr => first | (go_simp; done) | (go_simp; rfl)); intro gb337 hg w121 hbox hb; have n0_ := Aside0.mk (below_step bl hb); have n1_ := Aside0.mk (hbox); have n2_ := Aside0.mk ((by rw [hg]; exact (below_size bl) : w.heap.size ≤ gb337)); have n3_ := Aside0.mk ((by rw [hg]; exact (below_size bl) : w.heap.size ≤ gb337)); clear HB; have HB := n0_; have BK337 := n1_; have GW337 := n2_; have GE337 := n3_; clear n0_ n1_ n2_ n3_; clear hb hbox hg) | ((with_reducible refine gate_dst (N := 3) rfl ?_); (try (refine gate_guard (by rfl) ?_; dsimp only)); refine box_event ?hg (N := 3) ?hd (cs := #[.slice A1_0 l1_0.length c1_0, .slice A1_1 l1_1.length c1_1, .slice A1_2 l1_2.length c1_2]) (t := 26) ?hr ?_; (case hd => rfl); (case hg => rfl); (case hr => first | (go_simp; done) | (go_simp; rfl)); intro gb338 hg w122 hbox hb; have n0_ := Aside0.mk (blk_below (bu BK337.out) hb); have n1_ := Aside0.mk (below_step bs hb); have n2_ := Aside0.mk (hbox); have n3_ := Aside0.mk ((by rw [hg]; exact (below_size bs) : w.heap.size ≤ gb338)); have n4_ := Aside0.mk ((by rw [hg]; exact (below_size bs) : w.heap.size ≤ gb338)); have n5_ := Aside0.mk ((by rw [hg]; exact Nat.ne_of_lt (blk_lt (bu BK337.out)) : gb337 ≠ gb338)); have n6_ := Aside0.mk ((by rw [hg]; exact Nat.ne_of_gt (blk_lt (bu BK337.out)) : gb338 ≠ gb337)); clear BK337; clear HB; have BK337 := n0_; have HB := n1_; have BK338 := n2_; have GW338 := n3_; have GE338 := n4_; have NB337_338 := n5_; have NB338_337 := n6_; clear n0_ n1_ n2_ n3_ n4_ n5_ n6_; clear hb hbox hg) | (go_at_call 11; (with_reducible refine (abacuslaw26_awake.calls k  false _ ?side1 A3.out).mono ?_); (case side1 => exact GW.below HG.out bs); rintro e w123 ⟨rfl, hb⟩; have n0_ := Aside0.mk (blk_below (bu BK337.out) hb); have n1_ := Aside0.mk (blk_below (bu BK338.out) hb); have n2_ := Aside0.mk (below_step bs hb); clear BK337; clear BK338; clear HB; have BK337 := n0_; have BK338 := n1_; have HB := n2_; clear n0_ n1_ n2_; (try clear hb); (try clear hb2); (try clear hk); (try clear hi)))
  repeat (go_quiet (first | ((with_reducible refine gate_dst (N := 2) rfl ?_); (try (refine gate_guard (by rfl) ?_; dsimp only)); refine box_event ?hg (N := 2) ?hd (cs := #[.slice A0_0 l0_0.length c0_0, .slice A0_1 l0_1.length c0_1, .slice A0_2 l0_2.length c0_2]) (t := 26) ?hr ?_; (case hd => rfl); (case hg => rfl); (case hr => first | (go_simp; done) | (go_simp; rfl)); intro gb337 hg w121 hbox hb; have n0_ := Aside0.mk (below_step bl hb); have n1_ := Aside0.mk (hbox); have n2_ := Aside0.mk ((by rw [hg]; exact (below_size bl) : w.heap.size ≤ gb337)); have n3_ := Aside0.mk ((by rw [hg]; exact (below_size bl) : w.heap.size ≤ gb337)); clear HB; have HB := n0_; have BK337 := n1_; have GW337 := n2_; have GE337 := n3_; clear n0_ n1_ n2_ n3_; clear hb hbox hg) | ((with_reducible refine gate_dst (N := 3) rfl ?_); (try (refine gate_guard (by rfl) ?_; dsimp only)); refine box_event ?hg (N := 3) ?hd (cs := #[.slice A1_0 l1_0.length c1_0, .slice A1_1 l1_1.length c1_1, .slice A1_2 l1_2.length c1_2]) (t := 26) ?hr ?_; (case hd => rfl); (case hg => rfl); (case hr => first | (go_simp; done) | (go_simp; rfl)); intro gb338 hg w122 hbox hb; have n0_ := Aside0.mk (blk_below (bu BK337.out) hb); have n1_ := Aside0.mk (below_step bs hb); have n2_ := Aside0.mk (hbox); have n3_ := Aside0.mk ((by rw [hg]; exact (below_size bs) : w.heap.size ≤ gb338)); have n4_ := Aside0.mk ((by rw [hg]; exact (below_size bs) : w.heap.size ≤ gb338)); have n5_ := Aside0.mk ((by rw [hg]; exact Nat.ne_of_lt (blk_lt (bu BK337.out)) : gb337 ≠ gb338)); have n6_ := Aside0.mk ((by rw [hg]; exact Nat.ne_of_gt (blk_lt (bu BK337.out)) : gb338 ≠ gb337)); clear BK337; clear HB; have BK337 := n0_; have HB := n1_; have BK338 := n2_; have GW338 := n3_; have GE338 := n4_; have NB337_338 := n5_; have NB338_337 := n6_; clear n0_ n1_ n2_ n3_ n4_ n5_ n6_; clear hb hbox hg) | (go_at_call 11; (with_reducible refine (abacuslaw26_awake.calls k  false _ ?side1 A3.out).mono ?_); (case side1 => exact GW.below HG.out bs); rintro e w123 ⟨rfl, hb⟩; have n0_ := Aside0.mk (blk_below (bu BK337.out) hb); have n1_ := Aside0.mk (blk_below (bu BK338.out) hb); have n2_ := Aside0.mk (below_step bs hb); clear BK337; clear BK338; clear HB; have BK337 := n0_; have BK338 := n1_; have HB := n2_; clear n0_ n1_ n2_; (try clear hb); (try clear hb2); (try clear hk); (try clear hi))); try go_wp2_with (first | ((with_reducible refine gate_dst (N := 2) rfl ?_); (try (refine gate_guard (by rfl) ?_; dsimp only)); refine box_event ?hg (N := 2) ?hd (cs := #[.slice A0_0 l0_0.length c0_0, .slice A0_1 l0_1.length c0_1, .slice A0_2 l0_2.length c0_2]) (t := 26) ?hr ?_; (case hd => rfl); (case hg => rfl); (case hr => first | (go_simp; done) | (go_simp; rfl)); intro gb337 hg w121 hbox hb; have n0_ := Aside0.mk (below_step bl hb); have n1_ := Aside0.mk (hbox); have n2_ := Aside0.mk ((by rw [hg]; exact (below_size bl) : w.heap.size ≤ gb337)); have n3_ := Aside0.mk ((by rw [hg]; exact (below_size bl) : w.heap.size ≤ gb337)); clear HB; have HB := n0_; have BK337 := n1_; have GW337 := n2_; have GE337 := n3_; clear n0_ n1_ n2_ n3_; clear hb hbox hg) | ((with_reducible refine gate_dst (N := 3) rfl ?_); (try (refine gate_guard (by rfl) ?_; dsimp only)); refine box_event ?hg (N := 3) ?hd (cs := #[.slice A1_0 l1_0.length c1_0, .slice A1_1 l1_1.length c1_1, .slice A1_2 l1_2.length c1_2]) (t := 26) ?hr ?_; (case hd => rfl); (case hg => rfl); (case hr => first | (go_simp; done) | (go_simp; rfl)); intro gb338 hg w122 hbox hb; have n0_ := Aside0.mk (blk_below (bu BK337.out) hb); have n1_ := Aside0.mk (below_step bs hb); have n2_ := Aside0.mk (hbox); have n3_ := Aside0.mk ((by rw [hg]; exact (below_size bs) : w.heap.size ≤ gb338)); have n4_ := Aside0.mk ((by rw [hg]; exact (below_size bs) : w.heap.size ≤ gb338)); have n5_ := Aside0.mk ((by rw [hg]; exact Nat.ne_of_lt (blk_lt (bu BK337.out)) : gb337 ≠ gb338)); have n6_ := Aside0.mk ((by rw [hg]; exact Nat.ne_of_gt (blk_lt (bu BK337.out)) : gb338 ≠ gb337)); clear BK337; clear HB; have BK337 := n0_; have HB := n1_; have BK338 := n2_; have GW338 := n3_; have GE338 := n4_; have NB337_338 := n5_; have NB338_337 := n6_; clear n0_ n1_ n2_ n3_ n4_ n5_ n6_; clear hb hbox hg) | (go_at_call 11; (with_reducible refine (abacuslaw26_awake.calls k  false _ ?side1 A3.out).mono ?_); (case side1 => exact GW.below HG.out bs); rintro e w123 ⟨rfl, hb⟩; have n0_ := Aside0.mk (blk_below (bu BK337.out) hb); have n1_ := Aside0.mk (blk_below (bu BK338.out) hb); have n2_ := Aside0.mk (below_step bs hb); clear BK337; clear BK338; clear HB; have BK337 := n0_; have BK338 := n1_; have HB := n2_; clear n0_ n1_ n2_; (try clear hb); (try clear hb2); (try clear hk); (try clear hi))))
  go_ret
  exact ⟨er, bs⟩
 subst c4
 have H1 : ((code_List.f k l0_0 l0_1 l0_2).bind fun bt340 => (if bt340.2 = 0 then (abacuslaw26_CodeListed.l0 k bt340.1 0 0 0 l0_0 l0_1 l0_2 l1_0 l1_1 l1_2) else ((code_Check.f k l0_0 l0_1 l0_2).bind fun bt342 => (if bt340.1.toList = ([] : List UInt8) then (if bt340.2 = 260 then (if bt342.2.2 = 260 then (some true) else (if bt340.2 = 3 then (some (bt342.2.2 == 0)) else (some false))) else (if bt340.2 = 3 then (some (bt342.2.2 == 0)) else (some false))) else (some false))))) = some r := by rw [if_pos rfl] at H; exact H
 clear H
 have H := H1
 clear H1
 replace H := Option.bind_eq_some_iff.mp H
 obtain ⟨⟨t340, t341⟩, A50, H⟩ := H
 replace H : (if t341 = 0 then (abacuslaw26_CodeListed.l0 k t340 0 0 0 l0_0 l0_1 l0_2 l1_0 l1_1 l1_2) else ((code_Check.f k l0_0 l0_1 l0_2).bind fun bt342 => (if t340.toList = ([] : List UInt8) then (if t341 = 260 then (if bt342.2.2 = 260 then (some true) else (if t341 = 3 then (some (bt342.2.2 == 0)) else (some false))) else (if t341 = 3 then (some (bt342.2.2 == 0)) else (some false))) else (some false)))) = some r := H
 have A5 := Aside0.mk A50
 clear A50
 by_cases c6 : t341 = 0
 ·rw [if_pos c6] at H
  have c6b0 : (t341 == 0) = true := beq_iff_eq.mpr c6
  have c6b1 : (t341 != 0) = false := bne_eq_false_iff_eq.mpr c6
  clear c6
  have H' := Aside0.mk H
  clear H
  go_enter Tryd.func6, Tryd.ntmps6
  go_wp2_with (first | ((with_reducible refine gate_dst (N := 2) rfl ?_); (try (refine gate_guard (by rfl) ?_; dsimp only)); refine box_event ?hg (N := 2) ?hd (cs := #[.slice A0_0 l0_0.length c0_0, .slice A0_1 l0_1.length c0_1, .slice A0_2 l0_2.length c0_2]) (t := 26) ?hr ?_; (case hd => rfl); (case hg => rfl); (case hr => first | (go_simp; done) | (go_simp; rfl)); intro gb337 hg w7 hbox hb; have n0_ := Aside0.mk (below_step bl hb); have n1_ := Aside0.mk (hbox); have n2_ := Aside0.mk ((by rw [hg]; exact (below_size bl) : w.heap.size ≤ gb337)); have n3_ := Aside0.mk ((by rw [hg]; exact (below_size bl) : w.heap.size ≤ gb337)); clear HB; have HB := n0_; have BK337 := n1_; have GW337 := n2_; have GE337 := n3_; clear n0_ n1_ n2_ n3_; clear hb hbox hg) | ((with_reducible refine gate_dst (N := 3) rfl ?_); (try (refine gate_guard (by rfl) ?_; dsimp only)); refine box_event ?hg (N := 3) ?hd (cs := #[.slice A1_0 l1_0.length c1_0, .slice A1_1 l1_1.length c1_1, .slice A1_2 l1_2.length c1_2]) (t := 26) ?hr ?_; (case hd => rfl); (case hg => rfl); (case hr => first | (go_simp; done) | (go_simp; rfl)); intro gb338 hg w8 hbox hb; have n0_ := Aside0.mk (blk_below (bu BK337.out) hb); have n1_ := Aside0.mk (below_step bs hb); have n2_ := Aside0.mk (hbox); have n3_ := Aside0.mk ((by rw [hg]; exact (below_size bs) : w.heap.size ≤ gb338)); have n4_ := Aside0.mk ((by rw [hg]; exact (below_size bs) : w.heap.size ≤ gb338)); have n5_ := Aside0.mk ((by rw [hg]; exact Nat.ne_of_lt (blk_lt (bu BK337.out)) : gb337 ≠ gb338)); have n6_ := Aside0.mk ((by rw [hg]; exact Nat.ne_of_gt (blk_lt (bu BK337.out)) : gb338 ≠ gb337)); clear BK337; clear HB; have BK337 := n0_; have HB := n1_; have BK338 := n2_; have GW338 := n3_; have GE338 := n4_; have NB337_338 := n5_; have NB338_337 := n6_; clear n0_ n1_ n2_ n3_ n4_ n5_ n6_; clear hb hbox hg) | (go_at_call 11; (with_reducible refine (abacuslaw26_awake.calls k  true _ ?side1 A3.out).mono ?_); (case side1 => exact GW.below HG.out bs); rintro e w9 ⟨rfl, hb⟩; have n0_ := Aside0.mk (blk_below (bu BK337.out) hb); have n1_ := Aside0.mk (blk_below (bu BK338.out) hb); have n2_ := Aside0.mk (below_step bs hb); clear BK337; clear BK338; clear HB; have BK337 := n0_; have BK338 := n1_; have HB := n2_; clear n0_ n1_ n2_; (try clear hb); (try clear hb2); (try clear hk); (try clear hi); have hnb10 := NB337_338.out; have hnc10 := NB338_337.out; obtain ⟨⟨hcz11_0, hcz11_1, hcz11_2⟩, hfz11_0, hfz11_1, hfz11_2⟩ := blkAll3 BK337) | (go_at_call 15; (with_reducible refine (code_List.calls k _ _ l0_0 _ _ l0_1 _ _ l0_2 t340 t341 _ ?side1 ?side2 ?side3 ?side4 ?side5 ?side6 ?side7 A5.out).mono ?_); (case side1 => repeat (first | exact (Kd.C_below HR0_0.out HB.out) | (with_reducible refine Kd.C_alloc ?_ _) | (with_reducible refine Kd.C_drewN ?_ _) | (with_reducible refine Kd.C_drew ?_))); (case side2 => exact HC0_0.out); (case side3 => repeat (first | exact (Kd.C_below HR0_1.out HB.out) | (with_reducible refine Kd.C_alloc ?_ _) | (with_reducible refine Kd.C_drewN ?_ _) | (with_reducible refine Kd.C_drew ?_))); (case side4 => exact HC0_1.out); (case side5 => repeat (first | exact (Kd.C_below HR0_2.out HB.out) | (with_reducible refine Kd.C_alloc ?_ _) | (with_reducible refine Kd.C_drewN ?_ _) | (with_reducible refine Kd.C_drew ?_))); (case side6 => exact HC0_2.out); (case side7 => exact GW.below HG.out bs); rintro e w12 ⟨rfl, hb⟩; have n0_ := Aside0.mk (blk_below (bu BK337.out) hb); have n1_ := Aside0.mk (blk_below (bu BK338.out) hb); have n2_ := Aside0.mk (below_step bs hb); clear BK337; clear BK338; clear HB; have BK337 := n0_; have BK338 := n1_; have HB := n2_; clear n0_ n1_ n2_; (try clear hb); (try clear hb2); (try clear hk); (try clear hi)))
  repeat (go_quiet (first | ((with_reducible refine gate_dst (N := 2) rfl ?_); (try (refine gate_guard (by rfl) ?_; dsimp only)); refine box_event ?hg (N := 2) ?hd (cs := #[.slice A0_0 l0_0.length c0_0, .slice A0_1 l0_1.length c0_1, .slice A0_2 l0_2.length c0_2]) (t := 26) ?hr ?_; (case hd => rfl); (case hg => rfl); (case hr => first | (go_simp; done) | (go_simp; rfl)); intro gb337 hg w7 hbox hb; have n0_ := Aside0.mk (below_step bl hb); have n1_ := Aside0.mk (hbox); have n2_ := Aside0.mk ((by rw [hg]; exact (below_size bl) : w.heap.size ≤ gb337)); have n3_ := Aside0.mk ((by rw [hg]; exact (below_size bl) : w.heap.size ≤ gb337)); clear HB; have HB := n0_; have BK337 := n1_; have GW337 := n2_; have GE337 := n3_; clear n0_ n1_ n2_ n3_; clear hb hbox hg) | ((with_reducible refine gate_dst (N := 3) rfl ?_); (try (refine gate_guard (by rfl) ?_; dsimp only)); refine box_event ?hg (N := 3) ?hd (cs := #[.slice A1_0 l1_0.length c1_0, .slice A1_1 l1_1.length c1_1, .slice A1_2 l1_2.length c1_2]) (t := 26) ?hr ?_; (case hd => rfl); (case hg => rfl); (case hr => first | (go_simp; done) | (go_simp; rfl)); intro gb338 hg w8 hbox hb; have n0_ := Aside0.mk (blk_below (bu BK337.out) hb); have n1_ := Aside0.mk (below_step bs hb); have n2_ := Aside0.mk (hbox); have n3_ := Aside0.mk ((by rw [hg]; exact (below_size bs) : w.heap.size ≤ gb338)); have n4_ := Aside0.mk ((by rw [hg]; exact (below_size bs) : w.heap.size ≤ gb338)); have n5_ := Aside0.mk ((by rw [hg]; exact Nat.ne_of_lt (blk_lt (bu BK337.out)) : gb337 ≠ gb338)); have n6_ := Aside0.mk ((by rw [hg]; exact Nat.ne_of_gt (blk_lt (bu BK337.out)) : gb338 ≠ gb337)); clear BK337; clear HB; have BK337 := n0_; have HB := n1_; have BK338 := n2_; have GW338 := n3_; have GE338 := n4_; have NB337_338 := n5_; have NB338_337 := n6_; clear n0_ n1_ n2_ n3_ n4_ n5_ n6_; clear hb hbox hg) | (go_at_call 11; (with_reducible refine (abacuslaw26_awake.calls k  true _ ?side1 A3.out).mono ?_); (case side1 => exact GW.below HG.out bs); rintro e w9 ⟨rfl, hb⟩; have n0_ := Aside0.mk (blk_below (bu BK337.out) hb); have n1_ := Aside0.mk (blk_below (bu BK338.out) hb); have n2_ := Aside0.mk (below_step bs hb); clear BK337; clear BK338; clear HB; have BK337 := n0_; have BK338 := n1_; have HB := n2_; clear n0_ n1_ n2_; (try clear hb); (try clear hb2); (try clear hk); (try clear hi); have hnb10 := NB337_338.out; have hnc10 := NB338_337.out; obtain ⟨⟨hcz11_0, hcz11_1, hcz11_2⟩, hfz11_0, hfz11_1, hfz11_2⟩ := blkAll3 BK337) | (go_at_call 15; (with_reducible refine (code_List.calls k _ _ l0_0 _ _ l0_1 _ _ l0_2 t340 t341 _ ?side1 ?side2 ?side3 ?side4 ?side5 ?side6 ?side7 A5.out).mono ?_); (case side1 => repeat (first | exact (Kd.C_below HR0_0.out HB.out) | (with_reducible refine Kd.C_alloc ?_ _) | (with_reducible refine Kd.C_drewN ?_ _) | (with_reducible refine Kd.C_drew ?_))); (case side2 => exact HC0_0.out); (case side3 => repeat (first | exact (Kd.C_below HR0_1.out HB.out) | (with_reducible refine Kd.C_alloc ?_ _) | (with_reducible refine Kd.C_drewN ?_ _) | (with_reducible refine Kd.C_drew ?_))); (case side4 => exact HC0_1.out); (case side5 => repeat (first | exact (Kd.C_below HR0_2.out HB.out) | (with_reducible refine Kd.C_alloc ?_ _) | (with_reducible refine Kd.C_drewN ?_ _) | (with_reducible refine Kd.C_drew ?_))); (case side6 => exact HC0_2.out); (case side7 => exact GW.below HG.out bs); rintro e w12 ⟨rfl, hb⟩; have n0_ := Aside0.mk (blk_below (bu BK337.out) hb); have n1_ := Aside0.mk (blk_below (bu BK338.out) hb); have n2_ := Aside0.mk (below_step bs hb); clear BK337; clear BK338; clear HB; have BK337 := n0_; have BK338 := n1_; have HB := n2_; clear n0_ n1_ n2_; (try clear hb); (try clear hb2); (try clear hk); (try clear hi))); try go_wp2_with (first | ((with_reducible refine gate_dst (N := 2) rfl ?_); (try (refine gate_guard (by rfl) ?_; dsimp only)); refine box_event ?hg (N := 2) ?hd (cs := #[.slice A0_0 l0_0.length c0_0, .slice A0_1 l0_1.length c0_1, .slice A0_2 l0_2.length c0_2]) (t := 26) ?hr ?_; (case hd => rfl); (case hg => rfl); (case hr => first | (go_simp; done) | (go_simp; rfl)); intro gb337 hg w7 hbox hb; have n0_ := Aside0.mk (below_step bl hb); have n1_ := Aside0.mk (hbox); have n2_ := Aside0.mk ((by rw [hg]; exact (below_size bl) : w.heap.size ≤ gb337)); have n3_ := Aside0.mk ((by rw [hg]; exact (below_size bl) : w.heap.size ≤ gb337)); clear HB; have HB := n0_; have BK337 := n1_; have GW337 := n2_; have GE337 := n3_; clear n0_ n1_ n2_ n3_; clear hb hbox hg) | ((with_reducible refine gate_dst (N := 3) rfl ?_); (try (refine gate_guard (by rfl) ?_; dsimp only)); refine box_event ?hg (N := 3) ?hd (cs := #[.slice A1_0 l1_0.length c1_0, .slice A1_1 l1_1.length c1_1, .slice A1_2 l1_2.length c1_2]) (t := 26) ?hr ?_; (case hd => rfl); (case hg => rfl); (case hr => first | (go_simp; done) | (go_simp; rfl)); intro gb338 hg w8 hbox hb; have n0_ := Aside0.mk (blk_below (bu BK337.out) hb); have n1_ := Aside0.mk (below_step bs hb); have n2_ := Aside0.mk (hbox); have n3_ := Aside0.mk ((by rw [hg]; exact (below_size bs) : w.heap.size ≤ gb338)); have n4_ := Aside0.mk ((by rw [hg]; exact (below_size bs) : w.heap.size ≤ gb338)); have n5_ := Aside0.mk ((by rw [hg]; exact Nat.ne_of_lt (blk_lt (bu BK337.out)) : gb337 ≠ gb338)); have n6_ := Aside0.mk ((by rw [hg]; exact Nat.ne_of_gt (blk_lt (bu BK337.out)) : gb338 ≠ gb337)); clear BK337; clear HB; have BK337 := n0_; have HB := n1_; have BK338 := n2_; have GW338 := n3_; have GE338 := n4_; have NB337_338 := n5_; have NB338_337 := n6_; clear n0_ n1_ n2_ n3_ n4_ n5_ n6_; clear hb hbox hg) | (go_at_call 11; (with_reducible refine (abacuslaw26_awake.calls k  true _ ?side1 A3.out).mono ?_); (case side1 => exact GW.below HG.out bs); rintro e w9 ⟨rfl, hb⟩; have n0_ := Aside0.mk (blk_below (bu BK337.out) hb); have n1_ := Aside0.mk (blk_below (bu BK338.out) hb); have n2_ := Aside0.mk (below_step bs hb); clear BK337; clear BK338; clear HB; have BK337 := n0_; have BK338 := n1_; have HB := n2_; clear n0_ n1_ n2_; (try clear hb); (try clear hb2); (try clear hk); (try clear hi); have hnb10 := NB337_338.out; have hnc10 := NB338_337.out; obtain ⟨⟨hcz11_0, hcz11_1, hcz11_2⟩, hfz11_0, hfz11_1, hfz11_2⟩ := blkAll3 BK337) | (go_at_call 15; (with_reducible refine (code_List.calls k _ _ l0_0 _ _ l0_1 _ _ l0_2 t340 t341 _ ?side1 ?side2 ?side3 ?side4 ?side5 ?side6 ?side7 A5.out).mono ?_); (case side1 => repeat (first | exact (Kd.C_below HR0_0.out HB.out) | (with_reducible refine Kd.C_alloc ?_ _) | (with_reducible refine Kd.C_drewN ?_ _) | (with_reducible refine Kd.C_drew ?_))); (case side2 => exact HC0_0.out); (case side3 => repeat (first | exact (Kd.C_below HR0_1.out HB.out) | (with_reducible refine Kd.C_alloc ?_ _) | (with_reducible refine Kd.C_drewN ?_ _) | (with_reducible refine Kd.C_drew ?_))); (case side4 => exact HC0_1.out); (case side5 => repeat (first | exact (Kd.C_below HR0_2.out HB.out) | (with_reducible refine Kd.C_alloc ?_ _) | (with_reducible refine Kd.C_drewN ?_ _) | (with_reducible refine Kd.C_drew ?_))); (case side6 => exact HC0_2.out); (case side7 => exact GW.below HG.out bs); rintro e w12 ⟨rfl, hb⟩; have n0_ := Aside0.mk (blk_below (bu BK337.out) hb); have n1_ := Aside0.mk (blk_below (bu BK338.out) hb); have n2_ := Aside0.mk (below_step bs hb); clear BK337; clear BK338; clear HB; have BK337 := n0_; have BK338 := n1_; have HB := n2_; clear n0_ n1_ n2_; (try clear hb); (try clear hb2); (try clear hk); (try clear hi))))
  go_loopg [10, 11, 12] k (fun kq v10 v11 v12 w' => ∃ (x10_1 : Int) (x11_1 : Int) (x12_1 : Int), v10 = .int .i64 x10_1 ∧ v11 = .int .i64 x11_1 ∧ v12 = .int .i64 x12_1 ∧ Aside0 (abacuslaw26_CodeListed.l0 kq t340 x10_1 x11_1 x12_1 l0_0 l0_1 l0_2 l1_0 l1_1 l1_2 = some r) ∧ Aside0 (kq ≤ k) ∧ Aside0 (w'.heap[gb337]? = some (.cells #[(.slice A0_0 l0_0.length c0_0), (.slice A0_1 l0_1.length c0_1), (.slice A0_2 l0_2.length c0_2)] 26 (0, 0))) ∧ Aside0 (w'.heap[gb338]? = some (.cells #[(.slice A1_0 l1_0.length c1_0), (.slice A1_1 l1_1.length c1_1), (.slice A1_2 l1_2.length c1_2)] 26 (0, 0))) ∧ Aside0 (Below w.heap.size w w'))
  case atStart => exact ⟨(0), (0), (0), tv, tv, tv, H', ⟨Nat.le_refl _⟩, ⟨by refine bu ?_; exact BK337.out⟩, ⟨by refine bu ?_; exact BK338.out⟩, ⟨bs⟩⟩
  case round =>
   clear H'
   try clear c1
   try clear p2
   try clear c4
   try clear c6
   try clear c6b0
   try clear c6b1
   try clear c10
   try clear hcz11_0 hcz11_1 hcz11_2
   try clear hfz11_0 hfz11_1 hfz11_2
   obtain ⟨x10_1, x11_1, x12_1, rfl, rfl, rfl, HA, HK1, BK337, BK338, HB⟩ := hrel
   cases gk with
   | zero => exact absurd HA.out (by simp [abacuslaw26_CodeListed.l0])
   | succ k1 =>
    have H := HA.out
    clear HA
    simp only [abacuslaw26_CodeListed.l0] at H
    by_cases c13 : x12_1 < (t340.size : Int)
    ·rw [if_pos c13] at H
     have c13b0 : decide (x12_1 < (t340.size : Int)) = true := decide_eq_true c13
     clear c13
     by_cases c14 : 0 ≤ x12_1
     rotate_left
     ·rw [if_neg c14] at H
      exact absurd H (by simp)
     rw [if_pos c14] at H
     have c14b0 : decide (0 ≤ x12_1) = true := decide_eq_true c14
     clear c14
     by_cases c16 : (bt t340 x12_1) = 10
     rotate_left
     ·rw [if_neg c16] at H
      have c16b0 : ((bt t340 x12_1) == 10) = false := beq_eq_false_iff_ne.mpr c16
      have c16b1 : ((bt t340 x12_1) != 10) = true := bne_iff_ne.mpr c16
      by_cases c31 : (bt t340 x12_1) < 32
      ·rw [if_pos c31] at H
       have c31b0 : decide ((bt t340 x12_1) < 32) = true := decide_eq_true c31
       clear c31
       obtain rfl := Option.some.inj H
       have p15 : 0 ≤ (x12_1 : Int) := of_decide_eq_true od
       have q15 : x12_1 < (t340.size : Int) := of_decide_eq_true od
       have hx15 := bt_at t340 x12_1
       replace p15 := eq_true p15
       replace q15 := eq_true q15
       have p30 : 0 ≤ (x12_1 : Int) := of_decide_eq_true od
       have q30 : x12_1 < (t340.size : Int) := of_decide_eq_true od
       have hx30 := bt_at t340 x12_1
       replace p30 := eq_true p30
       replace q30 := eq_true q30
       go_wp2
       repeat (go_quiet (fail); try go_wp2)
       go_ret
       exact ⟨er, bs⟩
      rw [if_neg c31] at H
      have c31b0 : decide ((bt t340 x12_1) < 32) = false := decide_eq_false c31
      clear c31
      by_cases c33 : (bt t340 x12_1) > 126
      ·rw [if_pos c33] at H
       have c33b0 : decide (126 < (bt t340 x12_1)) = true := decide_eq_true c33
       clear c33
       obtain rfl := Option.some.inj H
       have p15 : 0 ≤ (x12_1 : Int) := of_decide_eq_true od
       have q15 : x12_1 < (t340.size : Int) := of_decide_eq_true od
       have hx15 := bt_at t340 x12_1
       replace p15 := eq_true p15
       replace q15 := eq_true q15
       have p30 : 0 ≤ (x12_1 : Int) := of_decide_eq_true od
       have q30 : x12_1 < (t340.size : Int) := of_decide_eq_true od
       have hx30 := bt_at t340 x12_1
       replace p30 := eq_true p30
       replace q30 := eq_true q30
       have p32 : 0 ≤ (x12_1 : Int) := of_decide_eq_true od
       have q32 : x12_1 < (t340.size : Int) := of_decide_eq_true od
       have hx32 := bt_at t340 x12_1
       replace p32 := eq_true p32
       replace q32 := eq_true q32
       go_wp2
       repeat (go_quiet (fail); try go_wp2)
       go_ret
       exact ⟨er, bs⟩
      rw [if_neg c33] at H
      have c33b0 : decide (126 < (bt t340 x12_1)) = false := decide_eq_false c33
      clear c33
      have H' := Aside0.mk H
      clear H
      have p15 : 0 ≤ (x12_1 : Int) := of_decide_eq_true od
      have q15 : x12_1 < (t340.size : Int) := of_decide_eq_true od
      have hx15 := bt_at t340 x12_1
      replace p15 := eq_true p15
      replace q15 := eq_true q15
      have p30 : 0 ≤ (x12_1 : Int) := of_decide_eq_true od
      have q30 : x12_1 < (t340.size : Int) := of_decide_eq_true od
      have hx30 := bt_at t340 x12_1
      replace p30 := eq_true p30
      replace q30 := eq_true q30
      have p32 : 0 ≤ (x12_1 : Int) := of_decide_eq_true od
      have q32 : x12_1 < (t340.size : Int) := of_decide_eq_true od
      have hx32 := bt_at t340 x12_1
      replace p32 := eq_true p32
      replace q32 := eq_true q32
      go_wp2
      repeat (go_quiet (fail); try go_wp2)
      go_roundg k1
      case measure => have := HK1.out; omega
      case rel => exact ⟨(x10_1), (x11_1), (wrap64 (x12_1 + 1)), tv, tv, tv, H', ⟨by have := HK1.out; omega⟩, ⟨by refine bu ?_; exact BK337.out⟩, ⟨by refine bu ?_; exact BK338.out⟩, ⟨bs⟩⟩
     rw [if_pos c16] at H
     have c16b0 : ((bt t340 x12_1) == 10) = true := beq_iff_eq.mpr c16
     have c16b1 : ((bt t340 x12_1) != 10) = false := bne_eq_false_iff_eq.mpr c16
     clear c16
     replace H := Option.bind_eq_some_iff.mp H
     obtain ⟨t345, A170, H⟩ := H
     replace H : (if t345.size + 2 ≤ 9223372036854775807 then (if 0 ≤ x11_1 then (if x11_1 ≤ x12_1 then (if x12_1 ≤ (t340.size : Int) then (if ((t340.extract (x11_1 : Int).toNat (x12_1 : Int).toNat).size : Int) < ((t345 ++ (⟨#[58, 32]⟩ : ByteArray)).size : Int) then (some false) else (if x11_1 ≤ (wrap64 (x11_1 + ((t345 ++ (⟨#[58, 32]⟩ : ByteArray)).size : Int))) then (if (wrap64 (x11_1 + ((t345 ++ (⟨#[58, 32]⟩ : ByteArray)).size : Int))) ≤ (t340.size : Int) then (if (t340.extract (x11_1 : Int).toNat ((wrap64 (x11_1 + ((t345 ++ (⟨#[58, 32]⟩ : ByteArray)).size : Int))) : Int).toNat).toList = (t345 ++ (⟨#[58, 32]⟩ : ByteArray)).toList then (abacuslaw26_CodeListed.l0 k1 t340 (wrap64 (x10_1 + 1)) (wrap64 (x12_1 + 1)) (wrap64 (x12_1 + 1)) l0_0 l0_1 l0_2 l1_0 l1_1 l1_2) else (some false)) else (none)) else (none))) else (none)) else (none)) else (none)) else (none)) = some r := H
     have A17 := Aside0.mk A170
     clear A170
     by_cases c18 : t345.size + 2 ≤ 9223372036854775807
     rotate_left
     ·rw [if_neg c18] at H
      exact absurd H (by simp)
     rw [if_pos c18] at H
     have c18b0 := eq_true c18
     have c18b1 : decide (t345.size + 2 ≤ 9223372036854775807) = true := decide_eq_true c18
     try have c18b2 : (9223372036854775807 < t345.size + 2) = False := eq_false (Nat.not_lt.2 c18)
     by_cases c19 : 0 ≤ x11_1
     rotate_left
     ·rw [if_neg c19] at H
      exact absurd H (by simp)
     rw [if_pos c19] at H
     have c19b0 := eq_true c19
     have c19b1 : decide (0 ≤ x11_1) = true := decide_eq_true c19
     clear c19
     by_cases c20 : x11_1 ≤ x12_1
     rotate_left
     ·rw [if_neg c20] at H
      exact absurd H (by simp)
     rw [if_pos c20] at H
     have c20b0 := eq_true c20
     have c20b1 : decide (x11_1 ≤ x12_1) = true := decide_eq_true c20
     clear c20
     by_cases c21 : x12_1 ≤ (t340.size : Int)
     rotate_left
     ·rw [if_neg c21] at H
      exact absurd H (by simp)
     rw [if_pos c21] at H
     have c21b0 := eq_true c21
     have c21b1 : decide (x12_1 ≤ (t340.size : Int)) = true := decide_eq_true c21
     clear c21
     by_cases c22 : ((t340.extract (x11_1 : Int).toNat (x12_1 : Int).toNat).size : Int) < ((t345 ++ (⟨#[58, 32]⟩ : ByteArray)).size : Int)
     ·rw [if_pos c22] at H
      have c22b0 : decide (((t340.extract (x11_1 : Int).toNat (x12_1 : Int).toNat).size : Int) < ((t345 ++ (⟨#[58, 32]⟩ : ByteArray)).size : Int)) = true := decide_eq_true c22
      have c22b3 : decide (((x12_1.toNat - x11_1.toNat : Nat) : Int) < (t345.size : Int) + 2) = true := by have h_ := c22b0; have h1_ := of_decide_eq_true c21b1; have e1_ : (t340.extract x11_1.toNat x12_1.toNat).size = x12_1.toNat - x11_1.toNat := (by rw [ByteArray.size_extract]; omega); have e2_ : (t345 ++ (⟨#[58, 32]⟩ : ByteArray)).size = t345.size + 2 := ByteArray.size_append; rw [e1_, e2_] at h_; exact h_
      have c22b1 : decide ((t340.extract (x11_1 : Int).toNat (x12_1 : Int).toNat).size < (t345 ++ (⟨#[58, 32]⟩ : ByteArray)).size) = true := decide_eq_true (Int.ofNat_lt.mp c22)
      clear c22
      obtain rfl := Option.some.inj H
      have p15 : 0 ≤ (x12_1 : Int) := of_decide_eq_true od
      have q15 : x12_1 < (t340.size : Int) := of_decide_eq_true od
      have hx15 := bt_at t340 x12_1
      replace p15 := eq_true p15
      replace q15 := eq_true q15
      go_wp2_with (first | (go_at_call 19; (with_reducible refine (abacuslaw26_number.calls k1 x10_1 t345 _ A17.out).mono ?_); rintro e w23 ⟨rfl, hb⟩; have n0_ := Aside0.mk (blk_below (bu BK337.out) hb); have n1_ := Aside0.mk (blk_below (bu BK338.out) hb); have n2_ := Aside0.mk (below_step bs hb); clear BK337; clear BK338; clear HB; have BK337 := n0_; have BK338 := n1_; have HB := n2_; clear n0_ n1_ n2_; (try clear hb); (try clear hb2); (try clear hk); (try clear hi)))
      repeat (go_quiet (first | (go_at_call 19; (with_reducible refine (abacuslaw26_number.calls k1 x10_1 t345 _ A17.out).mono ?_); rintro e w23 ⟨rfl, hb⟩; have n0_ := Aside0.mk (blk_below (bu BK337.out) hb); have n1_ := Aside0.mk (blk_below (bu BK338.out) hb); have n2_ := Aside0.mk (below_step bs hb); clear BK337; clear BK338; clear HB; have BK337 := n0_; have BK338 := n1_; have HB := n2_; clear n0_ n1_ n2_; (try clear hb); (try clear hb2); (try clear hk); (try clear hi))); try go_wp2_with (first | (go_at_call 19; (with_reducible refine (abacuslaw26_number.calls k1 x10_1 t345 _ A17.out).mono ?_); rintro e w23 ⟨rfl, hb⟩; have n0_ := Aside0.mk (blk_below (bu BK337.out) hb); have n1_ := Aside0.mk (blk_below (bu BK338.out) hb); have n2_ := Aside0.mk (below_step bs hb); clear BK337; clear BK338; clear HB; have BK337 := n0_; have BK338 := n1_; have HB := n2_; clear n0_ n1_ n2_; (try clear hb); (try clear hb2); (try clear hk); (try clear hi))))
      go_ret
      exact ⟨er, bs⟩
     rw [if_neg c22] at H
     have c22b0 : decide (((t340.extract (x11_1 : Int).toNat (x12_1 : Int).toNat).size : Int) < ((t345 ++ (⟨#[58, 32]⟩ : ByteArray)).size : Int)) = false := decide_eq_false c22
     have c22b3 : decide (((x12_1.toNat - x11_1.toNat : Nat) : Int) < (t345.size : Int) + 2) = false := by have h_ := c22b0; have h1_ := of_decide_eq_true c21b1; have e1_ : (t340.extract x11_1.toNat x12_1.toNat).size = x12_1.toNat - x11_1.toNat := (by rw [ByteArray.size_extract]; omega); have e2_ : (t345 ++ (⟨#[58, 32]⟩ : ByteArray)).size = t345.size + 2 := ByteArray.size_append; rw [e1_, e2_] at h_; exact h_
     have c22b1 : decide ((t340.extract (x11_1 : Int).toNat (x12_1 : Int).toNat).size < (t345 ++ (⟨#[58, 32]⟩ : ByteArray)).size) = false := decide_eq_false (fun h => c22 (Int.ofNat_lt.mpr h))
     clear c22
     have c24b0 := eq_true (of_decide_eq_true od : 0 ≤ x11_1)
     by_cases c25 : x11_1 ≤ (wrap64 (x11_1 + ((t345 ++ (⟨#[58, 32]⟩ : ByteArray)).size : Int)))
     rotate_left
     ·rw [if_neg c25] at H
      exact absurd H (by simp)
     rw [if_pos c25] at H
     have c25b0 := eq_true c25
     have c25b1 : decide (x11_1 ≤ (wrap64 (x11_1 + ((t345 ++ (⟨#[58, 32]⟩ : ByteArray)).size : Int)))) = true := decide_eq_true c25
     have c25b71 : decide (x11_1 ≤ (wrap64 (x11_1 + ((t345.size : Int) + 2)))) = true := by have h_ := c25b1; have e2_ : (t345 ++ (⟨#[58, 32]⟩ : ByteArray)).size = t345.size + 2 := ByteArray.size_append; rw [e2_] at h_; exact h_
     have c25b81 : (x11_1 ≤ (wrap64 (x11_1 + ((t345.size : Int) + 2)))) = True := eq_true (of_decide_eq_true c25b71)
     by_cases c26 : (wrap64 (x11_1 + ((t345 ++ (⟨#[58, 32]⟩ : ByteArray)).size : Int))) ≤ (t340.size : Int)
     rotate_left
     ·rw [if_neg c26] at H
      exact absurd H (by simp)
     rw [if_pos c26] at H
     have c26b0 := eq_true c26
     have c26b1 : decide ((wrap64 (x11_1 + ((t345 ++ (⟨#[58, 32]⟩ : ByteArray)).size : Int))) ≤ (t340.size : Int)) = true := decide_eq_true c26
     have c26b71 : decide ((wrap64 (x11_1 + ((t345.size : Int) + 2))) ≤ (t340.size : Int)) = true := by have h_ := c26b1; have e2_ : (t345 ++ (⟨#[58, 32]⟩ : ByteArray)).size = t345.size + 2 := ByteArray.size_append; rw [e2_] at h_; exact h_
     have c26b81 : ((wrap64 (x11_1 + ((t345.size : Int) + 2))) ≤ (t340.size : Int)) = True := eq_true (of_decide_eq_true c26b71)
     by_cases c27 : (t340.extract (x11_1 : Int).toNat ((wrap64 (x11_1 + ((t345 ++ (⟨#[58, 32]⟩ : ByteArray)).size : Int))) : Int).toNat).toList = (t345 ++ (⟨#[58, 32]⟩ : ByteArray)).toList
     rotate_left
     ·rw [if_neg c27] at H
      have c27b0 : ((t340.extract (x11_1 : Int).toNat ((wrap64 (x11_1 + ((t345 ++ (⟨#[58, 32]⟩ : ByteArray)).size : Int))) : Int).toNat).toList == (t345 ++ (⟨#[58, 32]⟩ : ByteArray)).toList) = false := beq_eq_false_iff_ne.mpr c27
      have c27b70 : ((t340.extract (x11_1 : Int).toNat ((wrap64 (x11_1 + ((t345.size : Int) + 2))) : Int).toNat).toList == (t345 ++ (⟨#[58, 32]⟩ : ByteArray)).toList) = false := by have h_ := c27b0; have e2_ : (t345 ++ (⟨#[58, 32]⟩ : ByteArray)).size = t345.size + 2 := ByteArray.size_append; rw [e2_] at h_; exact h_
      have c27b1 : ((t340.extract (x11_1 : Int).toNat ((wrap64 (x11_1 + ((t345 ++ (⟨#[58, 32]⟩ : ByteArray)).size : Int))) : Int).toNat).toList != (t345 ++ (⟨#[58, 32]⟩ : ByteArray)).toList) = true := bne_iff_ne.mpr c27
      have c27b71 : ((t340.extract (x11_1 : Int).toNat ((wrap64 (x11_1 + ((t345.size : Int) + 2))) : Int).toNat).toList != (t345 ++ (⟨#[58, 32]⟩ : ByteArray)).toList) = true := by have h_ := c27b1; have e2_ : (t345 ++ (⟨#[58, 32]⟩ : ByteArray)).size = t345.size + 2 := ByteArray.size_append; rw [e2_] at h_; exact h_
      obtain rfl := Option.some.inj H
      have p15 : 0 ≤ (x12_1 : Int) := of_decide_eq_true od
      have q15 : x12_1 < (t340.size : Int) := of_decide_eq_true od
      have hx15 := bt_at t340 x12_1
      replace p15 := eq_true p15
      replace q15 := eq_true q15
      go_wp2_with (first | (go_at_call 19; (with_reducible refine (abacuslaw26_number.calls k1 x10_1 t345 _ A17.out).mono ?_); rintro e w29 ⟨rfl, hb⟩; have n0_ := Aside0.mk (blk_below (bu BK337.out) hb); have n1_ := Aside0.mk (blk_below (bu BK338.out) hb); have n2_ := Aside0.mk (below_step bs hb); clear BK337; clear BK338; clear HB; have BK337 := n0_; have BK338 := n1_; have HB := n2_; clear n0_ n1_ n2_; (try clear hb); (try clear hb2); (try clear hk); (try clear hi)))
      repeat (go_quiet (first | (go_at_call 19; (with_reducible refine (abacuslaw26_number.calls k1 x10_1 t345 _ A17.out).mono ?_); rintro e w29 ⟨rfl, hb⟩; have n0_ := Aside0.mk (blk_below (bu BK337.out) hb); have n1_ := Aside0.mk (blk_below (bu BK338.out) hb); have n2_ := Aside0.mk (below_step bs hb); clear BK337; clear BK338; clear HB; have BK337 := n0_; have BK338 := n1_; have HB := n2_; clear n0_ n1_ n2_; (try clear hb); (try clear hb2); (try clear hk); (try clear hi))); try go_wp2_with (first | (go_at_call 19; (with_reducible refine (abacuslaw26_number.calls k1 x10_1 t345 _ A17.out).mono ?_); rintro e w29 ⟨rfl, hb⟩; have n0_ := Aside0.mk (blk_below (bu BK337.out) hb); have n1_ := Aside0.mk (blk_below (bu BK338.out) hb); have n2_ := Aside0.mk (below_step bs hb); clear BK337; clear BK338; clear HB; have BK337 := n0_; have BK338 := n1_; have HB := n2_; clear n0_ n1_ n2_; (try clear hb); (try clear hb2); (try clear hk); (try clear hi))))
      go_ret
      exact ⟨er, bs⟩
     rw [if_pos c27] at H
     have c27b0 : ((t340.extract (x11_1 : Int).toNat ((wrap64 (x11_1 + ((t345 ++ (⟨#[58, 32]⟩ : ByteArray)).size : Int))) : Int).toNat).toList == (t345 ++ (⟨#[58, 32]⟩ : ByteArray)).toList) = true := beq_iff_eq.mpr c27
     have c27b70 : ((t340.extract (x11_1 : Int).toNat ((wrap64 (x11_1 + ((t345.size : Int) + 2))) : Int).toNat).toList == (t345 ++ (⟨#[58, 32]⟩ : ByteArray)).toList) = true := by have h_ := c27b0; have e2_ : (t345 ++ (⟨#[58, 32]⟩ : ByteArray)).size = t345.size + 2 := ByteArray.size_append; rw [e2_] at h_; exact h_
     have c27b1 : ((t340.extract (x11_1 : Int).toNat ((wrap64 (x11_1 + ((t345 ++ (⟨#[58, 32]⟩ : ByteArray)).size : Int))) : Int).toNat).toList != (t345 ++ (⟨#[58, 32]⟩ : ByteArray)).toList) = false := bne_eq_false_iff_eq.mpr c27
     have c27b71 : ((t340.extract (x11_1 : Int).toNat ((wrap64 (x11_1 + ((t345.size : Int) + 2))) : Int).toNat).toList != (t345 ++ (⟨#[58, 32]⟩ : ByteArray)).toList) = false := by have h_ := c27b1; have e2_ : (t345 ++ (⟨#[58, 32]⟩ : ByteArray)).size = t345.size + 2 := ByteArray.size_append; rw [e2_] at h_; exact h_
     clear c27
     have H' := Aside0.mk H
     clear H
     have p15 : 0 ≤ (x12_1 : Int) := of_decide_eq_true od
     have q15 : x12_1 < (t340.size : Int) := of_decide_eq_true od
     have hx15 := bt_at t340 x12_1
     replace p15 := eq_true p15
     replace q15 := eq_true q15
     go_wp2_with (first | (go_at_call 19; (with_reducible refine (abacuslaw26_number.calls k1 x10_1 t345 _ A17.out).mono ?_); rintro e w28 ⟨rfl, hb⟩; have n0_ := Aside0.mk (blk_below (bu BK337.out) hb); have n1_ := Aside0.mk (blk_below (bu BK338.out) hb); have n2_ := Aside0.mk (below_step bs hb); clear BK337; clear BK338; clear HB; have BK337 := n0_; have BK338 := n1_; have HB := n2_; clear n0_ n1_ n2_; (try clear hb); (try clear hb2); (try clear hk); (try clear hi)))
     repeat (go_quiet (first | (go_at_call 19; (with_reducible refine (abacuslaw26_number.calls k1 x10_1 t345 _ A17.out).mono ?_); rintro e w28 ⟨rfl, hb⟩; have n0_ := Aside0.mk (blk_below (bu BK337.out) hb); have n1_ := Aside0.mk (blk_below (bu BK338.out) hb); have n2_ := Aside0.mk (below_step bs hb); clear BK337; clear BK338; clear HB; have BK337 := n0_; have BK338 := n1_; have HB := n2_; clear n0_ n1_ n2_; (try clear hb); (try clear hb2); (try clear hk); (try clear hi))); try go_wp2_with (first | (go_at_call 19; (with_reducible refine (abacuslaw26_number.calls k1 x10_1 t345 _ A17.out).mono ?_); rintro e w28 ⟨rfl, hb⟩; have n0_ := Aside0.mk (blk_below (bu BK337.out) hb); have n1_ := Aside0.mk (blk_below (bu BK338.out) hb); have n2_ := Aside0.mk (below_step bs hb); clear BK337; clear BK338; clear HB; have BK337 := n0_; have BK338 := n1_; have HB := n2_; clear n0_ n1_ n2_; (try clear hb); (try clear hb2); (try clear hk); (try clear hi))))
     go_roundg k1
     case measure => have := HK1.out; omega
     case rel => exact ⟨(wrap64 (x10_1 + 1)), (wrap64 (x12_1 + 1)), (wrap64 (x12_1 + 1)), tv, tv, tv, H', ⟨by have := HK1.out; omega⟩, ⟨by refine bu ?_; exact BK337.out⟩, ⟨by refine bu ?_; exact BK338.out⟩, ⟨bs⟩⟩
    rw [if_neg c13] at H
    have c13b0 : decide (x12_1 < (t340.size : Int)) = false := decide_eq_false c13
    clear c13
    have HC34 := Aside0.mk H
    clear H
    go_upto_region 20 with (fail)
    repeat (go_quiet (fail); go_upto_region 20 with (fail))
    go_cut [106] (fun v106 wc => ∃ (kq : Nat) (x106_33 : Bool), v106 = .bool x106_33 ∧ Aside0 (abacuslaw26_CodeListed.j1 kq t340 x106_33 l0_0 l0_1 l0_2 l1_0 l1_1 l1_2 = some r) ∧ Aside0 (kq ≤ k1) ∧ Aside0 (wc.heap[gb337]? = some (.cells #[(.slice A0_0 l0_0.length c0_0), (.slice A0_1 l0_1.length c0_1), (.slice A0_2 l0_2.length c0_2)] 26 (0, 0))) ∧ Aside0 (wc.heap[gb338]? = some (.cells #[(.slice A1_0 l1_0.length c1_0), (.slice A1_1 l1_1.length c1_1), (.slice A1_2 l1_2.length c1_2)] 26 (0, 0))) ∧ Aside0 (Below w.heap.size w wc))
    case first =>
     have H := HC34.out
     clear HC34
     by_cases c35 : x10_1 = (l0_0.length : Int)
     rotate_left
     ·rw [if_neg c35] at H
      have c35b0 : (x10_1 == (l0_0.length : Int)) = false := beq_eq_false_iff_ne.mpr c35
      have c35b1 : (x10_1 != (l0_0.length : Int)) = true := bne_iff_ne.mpr c35
      (first | rw [c35b0] | (simp only [i64_w, i32_w]; rw [c35b0]) | skip)
      have H' := Aside0.mk H
      clear H
      have hnb38 := NB337_338.out
      have hnc38 := NB338_337.out
      obtain ⟨⟨hcz39_0, hcz39_1, hcz39_2⟩, hfz39_0, hfz39_1, hfz39_2⟩ := blkAll3 BK337
      go_wp2
      repeat (go_quiet (fail); try go_wp2)
      go_meet
      case rel => exact ⟨_, (true), tv, H', ⟨by have := HK1.out; first | omega | exact Nat.le_refl _⟩, ⟨by refine bu ?_; exact BK337.out⟩, ⟨by refine bu ?_; exact BK338.out⟩, ⟨bs⟩⟩
     rw [if_pos c35] at H
     have c35b0 : (x10_1 == (l0_0.length : Int)) = true := beq_iff_eq.mpr c35
     have c35b1 : (x10_1 != (l0_0.length : Int)) = false := bne_eq_false_iff_eq.mpr c35
     clear c35
     (first | rw [c35b0] | (simp only [i64_w, i32_w]; rw [c35b0]) | skip)
     have H' := Aside0.mk H
     clear H
     have hnb36 := NB337_338.out
     have hnc36 := NB338_337.out
     obtain ⟨⟨hcz37_0, hcz37_1, hcz37_2⟩, hfz37_0, hfz37_1, hfz37_2⟩ := blkAll3 BK337
     go_wp2
     repeat (go_quiet (fail); try go_wp2)
     go_meet
     case rel => exact ⟨_, ((x11_1 != (t340.size : Int))), tv, H', ⟨by have := HK1.out; first | omega | exact Nat.le_refl _⟩, ⟨by refine bu ?_; exact BK337.out⟩, ⟨by refine bu ?_; exact BK338.out⟩, ⟨bs⟩⟩
    case rest =>
     clear HC34
     try clear c1
     try clear p1
     try clear q1
     try clear hx1
     try clear c2
     try clear p2
     try clear c3
     try clear p3
     try clear q3
     try clear hx3
     try clear c4
     try clear c6
     try clear c6b0
     try clear c6b1
     try clear p6
     try clear c10
     try clear c13
     try clear c13b0
     try clear c14
     try clear c14b0
     try clear p15
     try clear q15
     try clear hx15
     try clear c16
     try clear c16b0
     try clear c16b1
     try clear c18
     try clear c18b0
     try clear c18b1
     try clear c18b2
     try clear c19
     try clear c19b0
     try clear c19b1
     try clear c20
     try clear c20b0
     try clear c20b1
     try clear c21
     try clear c21b0
     try clear c21b1
     try clear c22
     try clear c22b0
     try clear c22b1
     try clear c24
     try clear c24b0
     try clear c25
     try clear c25b0
     try clear c25b1
     try clear c26
     try clear c26b0
     try clear c26b1
     try clear c27
     try clear c27b0
     try clear c27b1
     try clear p30
     try clear q30
     try clear hx30
     try clear c31
     try clear c31b0
     try clear p32
     try clear q32
     try clear hx32
     try clear c33
     try clear c33b0
     try clear c35
     try clear c35b0
     try clear c35b1
     try clear c36
     try clear c38
     try clear hcz11_0 hcz11_1 hcz11_2
     try clear hcz37_0 hcz37_1 hcz37_2
     try clear hcz39_0 hcz39_1 hcz39_2
     try clear hfz11_0 hfz11_1 hfz11_2
     try clear hfz37_0 hfz37_1 hfz37_2
     try clear hfz39_0 hfz39_1 hfz39_2
     try clear p15
     try clear p2
     try clear p30
     try clear p32
     try clear q15
     try clear q30
     try clear q32
     obtain ⟨kq, x106_33, rfl, HA, HJ33, BK337, BK338, HB⟩ := hcut
     cases kq with
     | zero => exact absurd HA.out (by simp [abacuslaw26_CodeListed.j1])
     | succ kj33 =>
      have H := HA.out
      clear HA
      simp only [abacuslaw26_CodeListed.j1] at H
      by_cases c40 : x106_33 = true
      ·subst c40
       have H1 : (some false) = some r := by rw [if_pos rfl] at H; exact H
       clear H
       have H := H1
       clear H1
       obtain rfl := Option.some.inj H
       go_wp2
       repeat (go_quiet (fail); try go_wp2)
       go_ret
       exact ⟨er, bs⟩
      replace c40 := Bool.eq_false_iff.mpr c40
      subst c40
      have H1 : ((code_List.f kj33 l1_0 l1_1 l1_2).bind fun bt346 => (if bt346.2 = 0 then (abacuslaw26_CodeListed.j2 kj33 (bt346.1.toList != t340.toList) l0_0 l0_1 l0_2 l1_0 l1_1 l1_2) else (abacuslaw26_CodeListed.j2 kj33 true l0_0 l0_1 l0_2 l1_0 l1_1 l1_2))) = some r := by rw [if_neg (show ¬ (false = true) by decide)] at H; exact H
      clear H
      have H := H1
      clear H1
      replace H := Option.bind_eq_some_iff.mp H
      obtain ⟨⟨t346, t347⟩, A410, H⟩ := H
      replace H : (if t347 = 0 then (abacuslaw26_CodeListed.j2 kj33 (t346.toList != t340.toList) l0_0 l0_1 l0_2 l1_0 l1_1 l1_2) else (abacuslaw26_CodeListed.j2 kj33 true l0_0 l0_1 l0_2 l1_0 l1_1 l1_2)) = some r := H
      have A41 := Aside0.mk A410
      clear A410
      have HC42 := Aside0.mk H
      clear H
      have hnb43 := NB338_337.out
      have hnc43 := NB337_338.out
      obtain ⟨⟨hcz44_0, hcz44_1, hcz44_2⟩, hfz44_0, hfz44_1, hfz44_2⟩ := blkAll3 BK338
      go_upto_region 23 with (first | (go_at_call 15; (with_reducible refine (code_List.calls kj33 _ _ l1_0 _ _ l1_1 _ _ l1_2 t346 t347 _ ?side1 ?side2 ?side3 ?side4 ?side5 ?side6 ?side7 A41.out).mono ?_); (case side1 => repeat (first | exact (Kd.C_below HR1_0.out HB.out) | (with_reducible refine Kd.C_alloc ?_ _) | (with_reducible refine Kd.C_drewN ?_ _) | (with_reducible refine Kd.C_drew ?_))); (case side2 => exact HC1_0.out); (case side3 => repeat (first | exact (Kd.C_below HR1_1.out HB.out) | (with_reducible refine Kd.C_alloc ?_ _) | (with_reducible refine Kd.C_drewN ?_ _) | (with_reducible refine Kd.C_drew ?_))); (case side4 => exact HC1_1.out); (case side5 => repeat (first | exact (Kd.C_below HR1_2.out HB.out) | (with_reducible refine Kd.C_alloc ?_ _) | (with_reducible refine Kd.C_drewN ?_ _) | (with_reducible refine Kd.C_drew ?_))); (case side6 => exact HC1_2.out); (case side7 => exact GW.below HG.out bs); rintro e w45 ⟨rfl, hb⟩; have n0_ := Aside0.mk (blk_below (bu BK337.out) hb); have n1_ := Aside0.mk (blk_below (bu BK338.out) hb); have n2_ := Aside0.mk (below_step bs hb); clear BK337; clear BK338; clear HB; have BK337 := n0_; have BK338 := n1_; have HB := n2_; clear n0_ n1_ n2_; (try clear hb); (try clear hb2); (try clear hk); (try clear hi)))
      repeat (go_quiet (first | (go_at_call 15; (with_reducible refine (code_List.calls kj33 _ _ l1_0 _ _ l1_1 _ _ l1_2 t346 t347 _ ?side1 ?side2 ?side3 ?side4 ?side5 ?side6 ?side7 A41.out).mono ?_); (case side1 => repeat (first | exact (Kd.C_below HR1_0.out HB.out) | (with_reducible refine Kd.C_alloc ?_ _) | (with_reducible refine Kd.C_drewN ?_ _) | (with_reducible refine Kd.C_drew ?_))); (case side2 => exact HC1_0.out); (case side3 => repeat (first | exact (Kd.C_below HR1_1.out HB.out) | (with_reducible refine Kd.C_alloc ?_ _) | (with_reducible refine Kd.C_drewN ?_ _) | (with_reducible refine Kd.C_drew ?_))); (case side4 => exact HC1_1.out); (case side5 => repeat (first | exact (Kd.C_below HR1_2.out HB.out) | (with_reducible refine Kd.C_alloc ?_ _) | (with_reducible refine Kd.C_drewN ?_ _) | (with_reducible refine Kd.C_drew ?_))); (case side6 => exact HC1_2.out); (case side7 => exact GW.below HG.out bs); rintro e w45 ⟨rfl, hb⟩; have n0_ := Aside0.mk (blk_below (bu BK337.out) hb); have n1_ := Aside0.mk (blk_below (bu BK338.out) hb); have n2_ := Aside0.mk (below_step bs hb); clear BK337; clear BK338; clear HB; have BK337 := n0_; have BK338 := n1_; have HB := n2_; clear n0_ n1_ n2_; (try clear hb); (try clear hb2); (try clear hk); (try clear hi))); go_upto_region 23 with (first | (go_at_call 15; (with_reducible refine (code_List.calls kj33 _ _ l1_0 _ _ l1_1 _ _ l1_2 t346 t347 _ ?side1 ?side2 ?side3 ?side4 ?side5 ?side6 ?side7 A41.out).mono ?_); (case side1 => repeat (first | exact (Kd.C_below HR1_0.out HB.out) | (with_reducible refine Kd.C_alloc ?_ _) | (with_reducible refine Kd.C_drewN ?_ _) | (with_reducible refine Kd.C_drew ?_))); (case side2 => exact HC1_0.out); (case side3 => repeat (first | exact (Kd.C_below HR1_1.out HB.out) | (with_reducible refine Kd.C_alloc ?_ _) | (with_reducible refine Kd.C_drewN ?_ _) | (with_reducible refine Kd.C_drew ?_))); (case side4 => exact HC1_1.out); (case side5 => repeat (first | exact (Kd.C_below HR1_2.out HB.out) | (with_reducible refine Kd.C_alloc ?_ _) | (with_reducible refine Kd.C_drewN ?_ _) | (with_reducible refine Kd.C_drew ?_))); (case side6 => exact HC1_2.out); (case side7 => exact GW.below HG.out bs); rintro e w45 ⟨rfl, hb⟩; have n0_ := Aside0.mk (blk_below (bu BK337.out) hb); have n1_ := Aside0.mk (blk_below (bu BK338.out) hb); have n2_ := Aside0.mk (below_step bs hb); clear BK337; clear BK338; clear HB; have BK337 := n0_; have BK338 := n1_; have HB := n2_; clear n0_ n1_ n2_; (try clear hb); (try clear hb2); (try clear hk); (try clear hi))))
      (try simp only [Act.put, List.setIfInBounds_toArray, List.set_cons_zero, List.set_cons_succ])
      go_cut [118] (fun v118 wc => ∃ (kq : Nat) (x118_41 : Bool), v118 = .bool x118_41 ∧ Aside0 (abacuslaw26_CodeListed.j2 kq x118_41 l0_0 l0_1 l0_2 l1_0 l1_1 l1_2 = some r) ∧ Aside0 (kq ≤ kj33) ∧ Aside0 (wc.heap[gb337]? = some (.cells #[(.slice A0_0 l0_0.length c0_0), (.slice A0_1 l0_1.length c0_1), (.slice A0_2 l0_2.length c0_2)] 26 (0, 0))) ∧ Aside0 (wc.heap[gb338]? = some (.cells #[(.slice A1_0 l1_0.length c1_0), (.slice A1_1 l1_1.length c1_1), (.slice A1_2 l1_2.length c1_2)] 26 (0, 0))) ∧ Aside0 (Below w.heap.size w wc))
      case first =>
       have H := HC42.out
       clear HC42
       by_cases c46 : t347 = 0
       rotate_left
       ·rw [if_neg c46] at H
        have c46b0 : (t347 == 0) = false := beq_eq_false_iff_ne.mpr c46
        have c46b1 : (t347 != 0) = true := bne_iff_ne.mpr c46
        (first | rw [c46b0] | (simp only [i64_w, i32_w]; rw [c46b0]) | skip)
        have H' := Aside0.mk H
        clear H
        go_wp2
        repeat (go_quiet (fail); try go_wp2)
        go_meet
        case rel => exact ⟨_, (true), tv, H', ⟨by have := HK1.out; have := HJ33.out; first | omega | exact Nat.le_refl _⟩, ⟨by refine bu ?_; exact BK337.out⟩, ⟨by refine bu ?_; exact BK338.out⟩, ⟨bs⟩⟩
       rw [if_pos c46] at H
       have c46b0 : (t347 == 0) = true := beq_iff_eq.mpr c46
       have c46b1 : (t347 != 0) = false := bne_eq_false_iff_eq.mpr c46
       clear c46
       (first | rw [c46b0] | (simp only [i64_w, i32_w]; rw [c46b0]) | skip)
       have H' := Aside0.mk H
       clear H
       go_wp2
       repeat (go_quiet (fail); try go_wp2)
       go_meet
       case rel => exact ⟨_, ((t346.toList != t340.toList)), tv, H', ⟨by have := HK1.out; have := HJ33.out; first | omega | exact Nat.le_refl _⟩, ⟨by refine bu ?_; exact BK337.out⟩, ⟨by refine bu ?_; exact BK338.out⟩, ⟨bs⟩⟩
      case rest =>
       clear HC42
       try clear c1
       try clear p1
       try clear q1
       try clear hx1
       try clear c2
       try clear p2
       try clear c3
       try clear p3
       try clear q3
       try clear hx3
       try clear c4
       try clear c6
       try clear c6b0
       try clear c6b1
       try clear p6
       try clear c10
       try clear c13
       try clear c13b0
       try clear c14
       try clear c14b0
       try clear p15
       try clear q15
       try clear hx15
       try clear c16
       try clear c16b0
       try clear c16b1
       try clear c18
       try clear c18b0
       try clear c18b1
       try clear c18b2
       try clear c19
       try clear c19b0
       try clear c19b1
       try clear c20
       try clear c20b0
       try clear c20b1
       try clear c21
       try clear c21b0
       try clear c21b1
       try clear c22
       try clear c22b0
       try clear c22b1
       try clear c24
       try clear c24b0
       try clear c25
       try clear c25b0
       try clear c25b1
       try clear c26
       try clear c26b0
       try clear c26b1
       try clear c27
       try clear c27b0
       try clear c27b1
       try clear p30
       try clear q30
       try clear hx30
       try clear c31
       try clear c31b0
       try clear p32
       try clear q32
       try clear hx32
       try clear c33
       try clear c33b0
       try clear c35
       try clear c35b0
       try clear c35b1
       try clear c36
       try clear c38
       try clear c40
       try clear c43
       try clear c46
       try clear c46b0
       try clear c46b1
       try clear hcz11_0 hcz11_1 hcz11_2
       try clear hcz37_0 hcz37_1 hcz37_2
       try clear hcz39_0 hcz39_1 hcz39_2
       try clear hcz44_0 hcz44_1 hcz44_2
       try clear hfz11_0 hfz11_1 hfz11_2
       try clear hfz37_0 hfz37_1 hfz37_2
       try clear hfz39_0 hfz39_1 hfz39_2
       try clear hfz44_0 hfz44_1 hfz44_2
       try clear p1
       try clear p15
       try clear p2
       try clear p3
       try clear p30
       try clear p32
       try clear p6
       try clear q1
       try clear q15
       try clear q3
       try clear q30
       try clear q32
       obtain ⟨kq, x118_41, rfl, HA, HJ41, BK337, BK338, HB⟩ := hcut
       cases kq with
       | zero => exact absurd HA.out (by simp [abacuslaw26_CodeListed.j2])
       | succ kj41 =>
        have H := HA.out
        clear HA
        simp only [abacuslaw26_CodeListed.j2] at H
        by_cases c47 : x118_41 = true
        ·subst c47
         have H1 : (some true) = some r := by rw [if_pos rfl] at H; exact H
         clear H
         have H := H1
         clear H1
         obtain rfl := Option.some.inj H
         go_wp2
         repeat (go_quiet (fail); try go_wp2)
         go_ret
         exact ⟨er, bs⟩
        replace c47 := Bool.eq_false_iff.mpr c47
        subst c47
        have H1 : (if (l0_0.length : Int) = (l1_0.length : Int) then (abacuslaw26_CodeListed.l1 kj41 0 l0_0 l0_1 l0_2 l1_0 l1_1 l1_2) else (some false)) = some r := by rw [if_neg (show ¬ (false = true) by decide)] at H; exact H
        clear H
        have H := H1
        clear H1
        by_cases c48 : (l0_0.length : Int) = (l1_0.length : Int)
        rotate_left
        ·rw [if_neg c48] at H
         have c48b0 : ((l0_0.length : Int) == (l1_0.length : Int)) = false := beq_eq_false_iff_ne.mpr c48
         have c48b1 : ((l0_0.length : Int) != (l1_0.length : Int)) = true := bne_iff_ne.mpr c48
         have c48b2 : (l0_0.length == l1_0.length) = false := by first | simpa using c48 | (simp at c48 ⊢; omega)
         obtain rfl := Option.some.inj H
         have hnb64 := NB337_338.out
         have hnc64 := NB338_337.out
         obtain ⟨⟨hcz65_0, hcz65_1, hcz65_2⟩, hfz65_0, hfz65_1, hfz65_2⟩ := blkAll3 BK337
         obtain ⟨⟨hcz66_0, hcz66_1, hcz66_2⟩, hfz66_0, hfz66_1, hfz66_2⟩ := blkAll3 BK338
         go_wp2
         repeat (go_quiet (fail); try go_wp2)
         go_ret
         exact ⟨er, bs⟩
        rw [if_pos c48] at H
        have c48b0 : ((l0_0.length : Int) == (l1_0.length : Int)) = true := beq_iff_eq.mpr c48
        have c48b1 : ((l0_0.length : Int) != (l1_0.length : Int)) = false := bne_eq_false_iff_eq.mpr c48
        have c48b2 : (l0_0.length == l1_0.length) = true := by first | simpa using c48 | (simp at c48 ⊢; omega)
        clear c48
        have H' := Aside0.mk H
        clear H
        have hnb49 := NB337_338.out
        have hnc49 := NB338_337.out
        obtain ⟨⟨hcz50_0, hcz50_1, hcz50_2⟩, hfz50_0, hfz50_1, hfz50_2⟩ := blkAll3 BK337
        obtain ⟨⟨hcz51_0, hcz51_1, hcz51_2⟩, hfz51_0, hfz51_1, hfz51_2⟩ := blkAll3 BK338
        go_wp2
        repeat (go_quiet (fail); try go_wp2)
        go_loopg [16] kj41 (fun kq v16 w' => ∃ (x16_4 : Int), v16 = .int .i64 x16_4 ∧ Aside0 (abacuslaw26_CodeListed.l1 kq x16_4 l0_0 l0_1 l0_2 l1_0 l1_1 l1_2 = some r) ∧ Aside0 (kq ≤ kj41) ∧ Aside0 (w'.heap[gb337]? = some (.cells #[(.slice A0_0 l0_0.length c0_0), (.slice A0_1 l0_1.length c0_1), (.slice A0_2 l0_2.length c0_2)] 26 (0, 0))) ∧ Aside0 (w'.heap[gb338]? = some (.cells #[(.slice A1_0 l1_0.length c1_0), (.slice A1_1 l1_1.length c1_1), (.slice A1_2 l1_2.length c1_2)] 26 (0, 0))) ∧ Aside0 (Below w.heap.size w w'))
        case atStart => exact ⟨(0), tv, H', ⟨Nat.le_refl _⟩, ⟨by refine bu ?_; exact BK337.out⟩, ⟨by refine bu ?_; exact BK338.out⟩, ⟨bs⟩⟩
        case round =>
         clear H'
         try clear c1
         try clear p1
         try clear q1
         try clear hx1
         try clear c2
         try clear p2
         try clear c3
         try clear p3
         try clear q3
         try clear hx3
         try clear c4
         try clear c6
         try clear c6b0
         try clear c6b1
         try clear p6
         try clear c10
         try clear c13
         try clear c13b0
         try clear c14
         try clear c14b0
         try clear p15
         try clear q15
         try clear hx15
         try clear c16
         try clear c16b0
         try clear c16b1
         try clear c18
         try clear c18b0
         try clear c18b1
         try clear c18b2
         try clear c19
         try clear c19b0
         try clear c19b1
         try clear c20
         try clear c20b0
         try clear c20b1
         try clear c21
         try clear c21b0
         try clear c21b1
         try clear c22
         try clear c22b0
         try clear c22b1
         try clear c24
         try clear c24b0
         try clear c25
         try clear c25b0
         try clear c25b1
         try clear c26
         try clear c26b0
         try clear c26b1
         try clear c27
         try clear c27b0
         try clear c27b1
         try clear p30
         try clear q30
         try clear hx30
         try clear c31
         try clear c31b0
         try clear p32
         try clear q32
         try clear hx32
         try clear c33
         try clear c33b0
         try clear c35
         try clear c35b0
         try clear c35b1
         try clear c36
         try clear c38
         try clear c40
         try clear c43
         try clear c46
         try clear c46b0
         try clear c46b1
         try clear c47
         try clear c48
         try clear c48b0
         try clear c48b1
         try clear c48b2
         try clear c49
         try clear hcz11_0 hcz11_1 hcz11_2
         try clear hcz37_0 hcz37_1 hcz37_2
         try clear hcz39_0 hcz39_1 hcz39_2
         try clear hcz44_0 hcz44_1 hcz44_2
         try clear hcz50_0 hcz50_1 hcz50_2
         try clear hcz51_0 hcz51_1 hcz51_2
         try clear hfz11_0 hfz11_1 hfz11_2
         try clear hfz37_0 hfz37_1 hfz37_2
         try clear hfz39_0 hfz39_1 hfz39_2
         try clear hfz44_0 hfz44_1 hfz44_2
         try clear hfz50_0 hfz50_1 hfz50_2
         try clear hfz51_0 hfz51_1 hfz51_2
         try clear p1
         try clear p15
         try clear p2
         try clear p3
         try clear p30
         try clear p32
         try clear p6
         try clear q1
         try clear q15
         try clear q3
         try clear q30
         try clear q32
         obtain ⟨x16_4, rfl, HA, HK4, BK337, BK338, HB⟩ := hrel
         cases gk with
         | zero => exact absurd HA.out (by simp [abacuslaw26_CodeListed.l1])
         | succ k4 =>
          have H := HA.out
          clear HA
          simp only [abacuslaw26_CodeListed.l1] at H
          by_cases c52 : x16_4 < (l0_0.length : Int)
          rotate_left
          ·rw [if_neg c52] at H
           have c52b0 : decide (x16_4 < (l0_0.length : Int)) = false := decide_eq_false c52
           clear c52
           obtain rfl := Option.some.inj H
           have hnb62 := NB337_338.out
           have hnc62 := NB338_337.out
           obtain ⟨⟨hcz63_0, hcz63_1, hcz63_2⟩, hfz63_0, hfz63_1, hfz63_2⟩ := blkAll3 BK337
           go_wp2
           repeat (go_quiet (fail); try go_wp2)
           go_ret
           exact ⟨er, bs⟩
          rw [if_pos c52] at H
          have c52b0 : decide (x16_4 < (l0_0.length : Int)) = true := decide_eq_true c52
          clear c52
          by_cases c53 : 0 ≤ x16_4
          rotate_left
          ·rw [if_neg c53] at H
           exact absurd H (by simp)
          rw [if_pos c53] at H
          have c53b0 : decide (0 ≤ x16_4) = true := decide_eq_true c53
          clear c53
          by_cases c54 : x16_4 < (l1_0.length : Int)
          rotate_left
          ·rw [if_neg c54] at H
           exact absurd H (by simp)
          rw [if_pos c54] at H
          have c54b0 : decide (x16_4 < (l1_0.length : Int)) = true := decide_eq_true c54
          clear c54
          by_cases c55 : (!(((rd_T41 l0_0 x16_4).f0) == ((rd_T41 l1_0 x16_4).f0)) || (!(((rd_T41 l0_0 x16_4).f1) == ((rd_T41 l1_0 x16_4).f1)) || (!(((rd_T41 l0_0 x16_4).f2) == ((rd_T41 l1_0 x16_4).f2))))) = true
          ·rw [if_pos c55] at H
           have c55b0 : (!(((rd_T41 l0_0 x16_4).f0) == ((rd_T41 l1_0 x16_4).f0)) || (!(((rd_T41 l0_0 x16_4).f1) == ((rd_T41 l1_0 x16_4).f1)) || (!(((rd_T41 l0_0 x16_4).f2) == ((rd_T41 l1_0 x16_4).f2))))) = true := c55
           clear c55
           obtain rfl := Option.some.inj H
           have hnb56 := NB337_338.out
           have hnc56 := NB338_337.out
           obtain ⟨⟨hcz57_0, hcz57_1, hcz57_2⟩, hfz57_0, hfz57_1, hfz57_2⟩ := blkAll3 BK337
           have p348 : 0 ≤ (x16_4 : Int) := of_decide_eq_true od
           have q348 : x16_4 < (l0_0.length : Int) := of_decide_eq_true od
           obtain ⟨ad348, e348, hx348_0, hx348_1, hx348_2⟩ := at_T41 HR0_0.out x16_4 p348 q348
           cases e348
           replace hx348_0 := (HB.out.cell (World.block_lt_of_cell? w _ hx348_0)).trans hx348_0
           replace hx348_1 := (HB.out.cell (World.block_lt_of_cell? w _ hx348_1)).trans hx348_1
           replace hx348_2 := (HB.out.cell (World.block_lt_of_cell? w _ hx348_2)).trans hx348_2
           replace p348 := eq_true p348
           replace q348 := eq_true q348
           obtain ⟨⟨hcz58_0, hcz58_1, hcz58_2⟩, hfz58_0, hfz58_1, hfz58_2⟩ := blkAll3 BK338
           have p349 : 0 ≤ (x16_4 : Int) := of_decide_eq_true od
           have q349 : x16_4 < (l1_0.length : Int) := of_decide_eq_true od
           obtain ⟨ad349, e349, hx349_0, hx349_1, hx349_2⟩ := at_T41 HR1_0.out x16_4 p349 q349
           cases e349
           replace hx349_0 := (HB.out.cell (World.block_lt_of_cell? w _ hx349_0)).trans hx349_0
           replace hx349_1 := (HB.out.cell (World.block_lt_of_cell? w _ hx349_1)).trans hx349_1
           replace hx349_2 := (HB.out.cell (World.block_lt_of_cell? w _ hx349_2)).trans hx349_2
           replace p349 := eq_true p349
           replace q349 := eq_true q349
           go_wp2
           repeat (go_quiet (fail); try go_wp2)
           go_ret
           exact ⟨er, bs⟩
          rw [if_neg c55] at H
          have c55b0 : (!(((rd_T41 l0_0 x16_4).f0) == ((rd_T41 l1_0 x16_4).f0)) || (!(((rd_T41 l0_0 x16_4).f1) == ((rd_T41 l1_0 x16_4).f1)) || (!(((rd_T41 l0_0 x16_4).f2) == ((rd_T41 l1_0 x16_4).f2))))) = false := by simpa using c55
          clear c55
          have H' := Aside0.mk H
          clear H
          have hnb59 := NB337_338.out
          have hnc59 := NB338_337.out
          obtain ⟨⟨hcz60_0, hcz60_1, hcz60_2⟩, hfz60_0, hfz60_1, hfz60_2⟩ := blkAll3 BK337
          have p348 : 0 ≤ (x16_4 : Int) := of_decide_eq_true od
          have q348 : x16_4 < (l0_0.length : Int) := of_decide_eq_true od
          obtain ⟨ad348, e348, hx348_0, hx348_1, hx348_2⟩ := at_T41 HR0_0.out x16_4 p348 q348
          cases e348
          replace hx348_0 := (HB.out.cell (World.block_lt_of_cell? w _ hx348_0)).trans hx348_0
          replace hx348_1 := (HB.out.cell (World.block_lt_of_cell? w _ hx348_1)).trans hx348_1
          replace hx348_2 := (HB.out.cell (World.block_lt_of_cell? w _ hx348_2)).trans hx348_2
          replace p348 := eq_true p348
          replace q348 := eq_true q348
          obtain ⟨⟨hcz61_0, hcz61_1, hcz61_2⟩, hfz61_0, hfz61_1, hfz61_2⟩ := blkAll3 BK338
          have p349 : 0 ≤ (x16_4 : Int) := of_decide_eq_true od
          have q349 : x16_4 < (l1_0.length : Int) := of_decide_eq_true od
          obtain ⟨ad349, e349, hx349_0, hx349_1, hx349_2⟩ := at_T41 HR1_0.out x16_4 p349 q349
          cases e349
          replace hx349_0 := (HB.out.cell (World.block_lt_of_cell? w _ hx349_0)).trans hx349_0
          replace hx349_1 := (HB.out.cell (World.block_lt_of_cell? w _ hx349_1)).trans hx349_1
          replace hx349_2 := (HB.out.cell (World.block_lt_of_cell? w _ hx349_2)).trans hx349_2
          replace p349 := eq_true p349
          replace q349 := eq_true q349
          go_wp2
          repeat (go_quiet (fail); try go_wp2)
          go_roundg k4
          case measure => have := HK1.out; have := HJ33.out; have := HJ41.out; have := HK4.out; omega
          case rel => exact ⟨(wrap64 (x16_4 + 1)), tv, H', ⟨by have := HK1.out; have := HJ33.out; have := HJ41.out; have := HK4.out; omega⟩, ⟨by refine bu ?_; exact BK337.out⟩, ⟨by refine bu ?_; exact BK338.out⟩, ⟨bs⟩⟩
 rw [if_neg c6] at H
 have c6b0 : (t341 == 0) = false := beq_eq_false_iff_ne.mpr c6
 have c6b1 : (t341 != 0) = true := bne_iff_ne.mpr c6
 replace H := Option.bind_eq_some_iff.mp H
 obtain ⟨⟨t342, t343, t344⟩, A670, H⟩ := H
 replace H : (if t340.toList = ([] : List UInt8) then (if t341 = 260 then (if t344 = 260 then (some true) else (if t341 = 3 then (some (t344 == 0)) else (some false))) else (if t341 = 3 then (some (t344 == 0)) else (some false))) else (some false)) = some r := H
 have A67 := Aside0.mk A670
 clear A670
 by_cases c68 : t340.toList = ([] : List UInt8)
 rotate_left
 ·rw [if_neg c68] at H
  have c68b0 : (t340.toList == ([] : List UInt8)) = false := beq_eq_false_iff_ne.mpr c68
  have c68b1 : (t340.toList != ([] : List UInt8)) = true := bne_iff_ne.mpr c68
  obtain rfl := Option.some.inj H
  go_enter Tryd.func6, Tryd.ntmps6
  go_wp2_with (first | ((with_reducible refine gate_dst (N := 2) rfl ?_); (try (refine gate_guard (by rfl) ?_; dsimp only)); refine box_event ?hg (N := 2) ?hd (cs := #[.slice A0_0 l0_0.length c0_0, .slice A0_1 l0_1.length c0_1, .slice A0_2 l0_2.length c0_2]) (t := 26) ?hr ?_; (case hd => rfl); (case hg => rfl); (case hr => first | (go_simp; done) | (go_simp; rfl)); intro gb337 hg w113 hbox hb; have n0_ := Aside0.mk (below_step bl hb); have n1_ := Aside0.mk (hbox); have n2_ := Aside0.mk ((by rw [hg]; exact (below_size bl) : w.heap.size ≤ gb337)); have n3_ := Aside0.mk ((by rw [hg]; exact (below_size bl) : w.heap.size ≤ gb337)); clear HB; have HB := n0_; have BK337 := n1_; have GW337 := n2_; have GE337 := n3_; clear n0_ n1_ n2_ n3_; clear hb hbox hg) | ((with_reducible refine gate_dst (N := 3) rfl ?_); (try (refine gate_guard (by rfl) ?_; dsimp only)); refine box_event ?hg (N := 3) ?hd (cs := #[.slice A1_0 l1_0.length c1_0, .slice A1_1 l1_1.length c1_1, .slice A1_2 l1_2.length c1_2]) (t := 26) ?hr ?_; (case hd => rfl); (case hg => rfl); (case hr => first | (go_simp; done) | (go_simp; rfl)); intro gb338 hg w114 hbox hb; have n0_ := Aside0.mk (blk_below (bu BK337.out) hb); have n1_ := Aside0.mk (below_step bs hb); have n2_ := Aside0.mk (hbox); have n3_ := Aside0.mk ((by rw [hg]; exact (below_size bs) : w.heap.size ≤ gb338)); have n4_ := Aside0.mk ((by rw [hg]; exact (below_size bs) : w.heap.size ≤ gb338)); have n5_ := Aside0.mk ((by rw [hg]; exact Nat.ne_of_lt (blk_lt (bu BK337.out)) : gb337 ≠ gb338)); have n6_ := Aside0.mk ((by rw [hg]; exact Nat.ne_of_gt (blk_lt (bu BK337.out)) : gb338 ≠ gb337)); clear BK337; clear HB; have BK337 := n0_; have HB := n1_; have BK338 := n2_; have GW338 := n3_; have GE338 := n4_; have NB337_338 := n5_; have NB338_337 := n6_; clear n0_ n1_ n2_ n3_ n4_ n5_ n6_; clear hb hbox hg) | (go_at_call 11; (with_reducible refine (abacuslaw26_awake.calls k  true _ ?side1 A3.out).mono ?_); (case side1 => exact GW.below HG.out bs); rintro e w115 ⟨rfl, hb⟩; have n0_ := Aside0.mk (blk_below (bu BK337.out) hb); have n1_ := Aside0.mk (blk_below (bu BK338.out) hb); have n2_ := Aside0.mk (below_step bs hb); clear BK337; clear BK338; clear HB; have BK337 := n0_; have BK338 := n1_; have HB := n2_; clear n0_ n1_ n2_; (try clear hb); (try clear hb2); (try clear hk); (try clear hi); have hnb116 := NB337_338.out; have hnc116 := NB338_337.out; obtain ⟨⟨hcz117_0, hcz117_1, hcz117_2⟩, hfz117_0, hfz117_1, hfz117_2⟩ := blkAll3 BK337) | (go_at_call 15; (with_reducible refine (code_List.calls k _ _ l0_0 _ _ l0_1 _ _ l0_2 t340 t341 _ ?side1 ?side2 ?side3 ?side4 ?side5 ?side6 ?side7 A5.out).mono ?_); (case side1 => repeat (first | exact (Kd.C_below HR0_0.out HB.out) | (with_reducible refine Kd.C_alloc ?_ _) | (with_reducible refine Kd.C_drewN ?_ _) | (with_reducible refine Kd.C_drew ?_))); (case side2 => exact HC0_0.out); (case side3 => repeat (first | exact (Kd.C_below HR0_1.out HB.out) | (with_reducible refine Kd.C_alloc ?_ _) | (with_reducible refine Kd.C_drewN ?_ _) | (with_reducible refine Kd.C_drew ?_))); (case side4 => exact HC0_1.out); (case side5 => repeat (first | exact (Kd.C_below HR0_2.out HB.out) | (with_reducible refine Kd.C_alloc ?_ _) | (with_reducible refine Kd.C_drewN ?_ _) | (with_reducible refine Kd.C_drew ?_))); (case side6 => exact HC0_2.out); (case side7 => exact GW.below HG.out bs); rintro e w118 ⟨rfl, hb⟩; have n0_ := Aside0.mk (blk_below (bu BK337.out) hb); have n1_ := Aside0.mk (blk_below (bu BK338.out) hb); have n2_ := Aside0.mk (below_step bs hb); clear BK337; clear BK338; clear HB; have BK337 := n0_; have BK338 := n1_; have HB := n2_; clear n0_ n1_ n2_; (try clear hb); (try clear hb2); (try clear hk); (try clear hi); obtain ⟨⟨hcz119_0, hcz119_1, hcz119_2⟩, hfz119_0, hfz119_1, hfz119_2⟩ := blkAll3 BK337) | (go_at_call 13; (with_reducible refine (code_Check.calls k _ _ l0_0 _ _ l0_1 _ _ l0_2 t342 t343 t344 _ ?side1 ?side2 ?side3 ?side4 ?side5 ?side6 A67.out).mono ?_); (case side1 => repeat (first | exact (Kd.C_below HR0_0.out HB.out) | (with_reducible refine Kd.C_alloc ?_ _) | (with_reducible refine Kd.C_drewN ?_ _) | (with_reducible refine Kd.C_drew ?_))); (case side2 => exact HC0_0.out); (case side3 => repeat (first | exact (Kd.C_below HR0_1.out HB.out) | (with_reducible refine Kd.C_alloc ?_ _) | (with_reducible refine Kd.C_drewN ?_ _) | (with_reducible refine Kd.C_drew ?_))); (case side4 => exact HC0_1.out); (case side5 => repeat (first | exact (Kd.C_below HR0_2.out HB.out) | (with_reducible refine Kd.C_alloc ?_ _) | (with_reducible refine Kd.C_drewN ?_ _) | (with_reducible refine Kd.C_drew ?_))); (case side6 => exact HC0_2.out); rintro e w120 ⟨rfl, hb⟩; have n0_ := Aside0.mk (blk_below (bu BK337.out) hb); have n1_ := Aside0.mk (blk_below (bu BK338.out) hb); have n2_ := Aside0.mk (below_step bs hb); clear BK337; clear BK338; clear HB; have BK337 := n0_; have BK338 := n1_; have HB := n2_; clear n0_ n1_ n2_; (try clear hb); (try clear hb2); (try clear hk); (try clear hi)))
  repeat (go_quiet (first | ((with_reducible refine gate_dst (N := 2) rfl ?_); (try (refine gate_guard (by rfl) ?_; dsimp only)); refine box_event ?hg (N := 2) ?hd (cs := #[.slice A0_0 l0_0.length c0_0, .slice A0_1 l0_1.length c0_1, .slice A0_2 l0_2.length c0_2]) (t := 26) ?hr ?_; (case hd => rfl); (case hg => rfl); (case hr => first | (go_simp; done) | (go_simp; rfl)); intro gb337 hg w113 hbox hb; have n0_ := Aside0.mk (below_step bl hb); have n1_ := Aside0.mk (hbox); have n2_ := Aside0.mk ((by rw [hg]; exact (below_size bl) : w.heap.size ≤ gb337)); have n3_ := Aside0.mk ((by rw [hg]; exact (below_size bl) : w.heap.size ≤ gb337)); clear HB; have HB := n0_; have BK337 := n1_; have GW337 := n2_; have GE337 := n3_; clear n0_ n1_ n2_ n3_; clear hb hbox hg) | ((with_reducible refine gate_dst (N := 3) rfl ?_); (try (refine gate_guard (by rfl) ?_; dsimp only)); refine box_event ?hg (N := 3) ?hd (cs := #[.slice A1_0 l1_0.length c1_0, .slice A1_1 l1_1.length c1_1, .slice A1_2 l1_2.length c1_2]) (t := 26) ?hr ?_; (case hd => rfl); (case hg => rfl); (case hr => first | (go_simp; done) | (go_simp; rfl)); intro gb338 hg w114 hbox hb; have n0_ := Aside0.mk (blk_below (bu BK337.out) hb); have n1_ := Aside0.mk (below_step bs hb); have n2_ := Aside0.mk (hbox); have n3_ := Aside0.mk ((by rw [hg]; exact (below_size bs) : w.heap.size ≤ gb338)); have n4_ := Aside0.mk ((by rw [hg]; exact (below_size bs) : w.heap.size ≤ gb338)); have n5_ := Aside0.mk ((by rw [hg]; exact Nat.ne_of_lt (blk_lt (bu BK337.out)) : gb337 ≠ gb338)); have n6_ := Aside0.mk ((by rw [hg]; exact Nat.ne_of_gt (blk_lt (bu BK337.out)) : gb338 ≠ gb337)); clear BK337; clear HB; have BK337 := n0_; have HB := n1_; have BK338 := n2_; have GW338 := n3_; have GE338 := n4_; have NB337_338 := n5_; have NB338_337 := n6_; clear n0_ n1_ n2_ n3_ n4_ n5_ n6_; clear hb hbox hg) | (go_at_call 11; (with_reducible refine (abacuslaw26_awake.calls k  true _ ?side1 A3.out).mono ?_); (case side1 => exact GW.below HG.out bs); rintro e w115 ⟨rfl, hb⟩; have n0_ := Aside0.mk (blk_below (bu BK337.out) hb); have n1_ := Aside0.mk (blk_below (bu BK338.out) hb); have n2_ := Aside0.mk (below_step bs hb); clear BK337; clear BK338; clear HB; have BK337 := n0_; have BK338 := n1_; have HB := n2_; clear n0_ n1_ n2_; (try clear hb); (try clear hb2); (try clear hk); (try clear hi); have hnb116 := NB337_338.out; have hnc116 := NB338_337.out; obtain ⟨⟨hcz117_0, hcz117_1, hcz117_2⟩, hfz117_0, hfz117_1, hfz117_2⟩ := blkAll3 BK337) | (go_at_call 15; (with_reducible refine (code_List.calls k _ _ l0_0 _ _ l0_1 _ _ l0_2 t340 t341 _ ?side1 ?side2 ?side3 ?side4 ?side5 ?side6 ?side7 A5.out).mono ?_); (case side1 => repeat (first | exact (Kd.C_below HR0_0.out HB.out) | (with_reducible refine Kd.C_alloc ?_ _) | (with_reducible refine Kd.C_drewN ?_ _) | (with_reducible refine Kd.C_drew ?_))); (case side2 => exact HC0_0.out); (case side3 => repeat (first | exact (Kd.C_below HR0_1.out HB.out) | (with_reducible refine Kd.C_alloc ?_ _) | (with_reducible refine Kd.C_drewN ?_ _) | (with_reducible refine Kd.C_drew ?_))); (case side4 => exact HC0_1.out); (case side5 => repeat (first | exact (Kd.C_below HR0_2.out HB.out) | (with_reducible refine Kd.C_alloc ?_ _) | (with_reducible refine Kd.C_drewN ?_ _) | (with_reducible refine Kd.C_drew ?_))); (case side6 => exact HC0_2.out); (case side7 => exact GW.below HG.out bs); rintro e w118 ⟨rfl, hb⟩; have n0_ := Aside0.mk (blk_below (bu BK337.out) hb); have n1_ := Aside0.mk (blk_below (bu BK338.out) hb); have n2_ := Aside0.mk (below_step bs hb); clear BK337; clear BK338; clear HB; have BK337 := n0_; have BK338 := n1_; have HB := n2_; clear n0_ n1_ n2_; (try clear hb); (try clear hb2); (try clear hk); (try clear hi); obtain ⟨⟨hcz119_0, hcz119_1, hcz119_2⟩, hfz119_0, hfz119_1, hfz119_2⟩ := blkAll3 BK337) | (go_at_call 13; (with_reducible refine (code_Check.calls k _ _ l0_0 _ _ l0_1 _ _ l0_2 t342 t343 t344 _ ?side1 ?side2 ?side3 ?side4 ?side5 ?side6 A67.out).mono ?_); (case side1 => repeat (first | exact (Kd.C_below HR0_0.out HB.out) | (with_reducible refine Kd.C_alloc ?_ _) | (with_reducible refine Kd.C_drewN ?_ _) | (with_reducible refine Kd.C_drew ?_))); (case side2 => exact HC0_0.out); (case side3 => repeat (first | exact (Kd.C_below HR0_1.out HB.out) | (with_reducible refine Kd.C_alloc ?_ _) | (with_reducible refine Kd.C_drewN ?_ _) | (with_reducible refine Kd.C_drew ?_))); (case side4 => exact HC0_1.out); (case side5 => repeat (first | exact (Kd.C_below HR0_2.out HB.out) | (with_reducible refine Kd.C_alloc ?_ _) | (with_reducible refine Kd.C_drewN ?_ _) | (with_reducible refine Kd.C_drew ?_))); (case side6 => exact HC0_2.out); rintro e w120 ⟨rfl, hb⟩; have n0_ := Aside0.mk (blk_below (bu BK337.out) hb); have n1_ := Aside0.mk (blk_below (bu BK338.out) hb); have n2_ := Aside0.mk (below_step bs hb); clear BK337; clear BK338; clear HB; have BK337 := n0_; have BK338 := n1_; have HB := n2_; clear n0_ n1_ n2_; (try clear hb); (try clear hb2); (try clear hk); (try clear hi))); try go_wp2_with (first | ((with_reducible refine gate_dst (N := 2) rfl ?_); (try (refine gate_guard (by rfl) ?_; dsimp only)); refine box_event ?hg (N := 2) ?hd (cs := #[.slice A0_0 l0_0.length c0_0, .slice A0_1 l0_1.length c0_1, .slice A0_2 l0_2.length c0_2]) (t := 26) ?hr ?_; (case hd => rfl); (case hg => rfl); (case hr => first | (go_simp; done) | (go_simp; rfl)); intro gb337 hg w113 hbox hb; have n0_ := Aside0.mk (below_step bl hb); have n1_ := Aside0.mk (hbox); have n2_ := Aside0.mk ((by rw [hg]; exact (below_size bl) : w.heap.size ≤ gb337)); have n3_ := Aside0.mk ((by rw [hg]; exact (below_size bl) : w.heap.size ≤ gb337)); clear HB; have HB := n0_; have BK337 := n1_; have GW337 := n2_; have GE337 := n3_; clear n0_ n1_ n2_ n3_; clear hb hbox hg) | ((with_reducible refine gate_dst (N := 3) rfl ?_); (try (refine gate_guard (by rfl) ?_; dsimp only)); refine box_event ?hg (N := 3) ?hd (cs := #[.slice A1_0 l1_0.length c1_0, .slice A1_1 l1_1.length c1_1, .slice A1_2 l1_2.length c1_2]) (t := 26) ?hr ?_; (case hd => rfl); (case hg => rfl); (case hr => first | (go_simp; done) | (go_simp; rfl)); intro gb338 hg w114 hbox hb; have n0_ := Aside0.mk (blk_below (bu BK337.out) hb); have n1_ := Aside0.mk (below_step bs hb); have n2_ := Aside0.mk (hbox); have n3_ := Aside0.mk ((by rw [hg]; exact (below_size bs) : w.heap.size ≤ gb338)); have n4_ := Aside0.mk ((by rw [hg]; exact (below_size bs) : w.heap.size ≤ gb338)); have n5_ := Aside0.mk ((by rw [hg]; exact Nat.ne_of_lt (blk_lt (bu BK337.out)) : gb337 ≠ gb338)); have n6_ := Aside0.mk ((by rw [hg]; exact Nat.ne_of_gt (blk_lt (bu BK337.out)) : gb338 ≠ gb337)); clear BK337; clear HB; have BK337 := n0_; have HB := n1_; have BK338 := n2_; have GW338 := n3_; have GE338 := n4_; have NB337_338 := n5_; have NB338_337 := n6_; clear n0_ n1_ n2_ n3_ n4_ n5_ n6_; clear hb hbox hg) | (go_at_call 11; (with_reducible refine (abacuslaw26_awake.calls k  true _ ?side1 A3.out).mono ?_); (case side1 => exact GW.below HG.out bs); rintro e w115 ⟨rfl, hb⟩; have n0_ := Aside0.mk (blk_below (bu BK337.out) hb); have n1_ := Aside0.mk (blk_below (bu BK338.out) hb); have n2_ := Aside0.mk (below_step bs hb); clear BK337; clear BK338; clear HB; have BK337 := n0_; have BK338 := n1_; have HB := n2_; clear n0_ n1_ n2_; (try clear hb); (try clear hb2); (try clear hk); (try clear hi); have hnb116 := NB337_338.out; have hnc116 := NB338_337.out; obtain ⟨⟨hcz117_0, hcz117_1, hcz117_2⟩, hfz117_0, hfz117_1, hfz117_2⟩ := blkAll3 BK337) | (go_at_call 15; (with_reducible refine (code_List.calls k _ _ l0_0 _ _ l0_1 _ _ l0_2 t340 t341 _ ?side1 ?side2 ?side3 ?side4 ?side5 ?side6 ?side7 A5.out).mono ?_); (case side1 => repeat (first | exact (Kd.C_below HR0_0.out HB.out) | (with_reducible refine Kd.C_alloc ?_ _) | (with_reducible refine Kd.C_drewN ?_ _) | (with_reducible refine Kd.C_drew ?_))); (case side2 => exact HC0_0.out); (case side3 => repeat (first | exact (Kd.C_below HR0_1.out HB.out) | (with_reducible refine Kd.C_alloc ?_ _) | (with_reducible refine Kd.C_drewN ?_ _) | (with_reducible refine Kd.C_drew ?_))); (case side4 => exact HC0_1.out); (case side5 => repeat (first | exact (Kd.C_below HR0_2.out HB.out) | (with_reducible refine Kd.C_alloc ?_ _) | (with_reducible refine Kd.C_drewN ?_ _) | (with_reducible refine Kd.C_drew ?_))); (case side6 => exact HC0_2.out); (case side7 => exact GW.below HG.out bs); rintro e w118 ⟨rfl, hb⟩; have n0_ := Aside0.mk (blk_below (bu BK337.out) hb); have n1_ := Aside0.mk (blk_below (bu BK338.out) hb); have n2_ := Aside0.mk (below_step bs hb); clear BK337; clear BK338; clear HB; have BK337 := n0_; have BK338 := n1_; have HB := n2_; clear n0_ n1_ n2_; (try clear hb); (try clear hb2); (try clear hk); (try clear hi); obtain ⟨⟨hcz119_0, hcz119_1, hcz119_2⟩, hfz119_0, hfz119_1, hfz119_2⟩ := blkAll3 BK337) | (go_at_call 13; (with_reducible refine (code_Check.calls k _ _ l0_0 _ _ l0_1 _ _ l0_2 t342 t343 t344 _ ?side1 ?side2 ?side3 ?side4 ?side5 ?side6 A67.out).mono ?_); (case side1 => repeat (first | exact (Kd.C_below HR0_0.out HB.out) | (with_reducible refine Kd.C_alloc ?_ _) | (with_reducible refine Kd.C_drewN ?_ _) | (with_reducible refine Kd.C_drew ?_))); (case side2 => exact HC0_0.out); (case side3 => repeat (first | exact (Kd.C_below HR0_1.out HB.out) | (with_reducible refine Kd.C_alloc ?_ _) | (with_reducible refine Kd.C_drewN ?_ _) | (with_reducible refine Kd.C_drew ?_))); (case side4 => exact HC0_1.out); (case side5 => repeat (first | exact (Kd.C_below HR0_2.out HB.out) | (with_reducible refine Kd.C_alloc ?_ _) | (with_reducible refine Kd.C_drewN ?_ _) | (with_reducible refine Kd.C_drew ?_))); (case side6 => exact HC0_2.out); rintro e w120 ⟨rfl, hb⟩; have n0_ := Aside0.mk (blk_below (bu BK337.out) hb); have n1_ := Aside0.mk (blk_below (bu BK338.out) hb); have n2_ := Aside0.mk (below_step bs hb); clear BK337; clear BK338; clear HB; have BK337 := n0_; have BK338 := n1_; have HB := n2_; clear n0_ n1_ n2_; (try clear hb); (try clear hb2); (try clear hk); (try clear hi))))
  go_ret
  exact ⟨er, bs⟩
 rw [if_pos c68] at H
 have c68b0 : (t340.toList == ([] : List UInt8)) = true := beq_iff_eq.mpr c68
 have c68b1 : (t340.toList != ([] : List UInt8)) = false := bne_eq_false_iff_eq.mpr c68
 clear c68
 by_cases c69 : t341 = 260
 rotate_left
 ·rw [if_neg c69] at H
  have c69b0 : (t341 == 260) = false := beq_eq_false_iff_ne.mpr c69
  have c69b1 : (t341 != 260) = true := bne_iff_ne.mpr c69
  by_cases c96 : t341 = 3
  rotate_left
  ·rw [if_neg c96] at H
   have c96b0 : (t341 == 3) = false := beq_eq_false_iff_ne.mpr c96
   have c96b1 : (t341 != 3) = true := bne_iff_ne.mpr c96
   obtain rfl := Option.some.inj H
   go_enter Tryd.func6, Tryd.ntmps6
   go_wp2_with (first | ((with_reducible refine gate_dst (N := 2) rfl ?_); (try (refine gate_guard (by rfl) ?_; dsimp only)); refine box_event ?hg (N := 2) ?hd (cs := #[.slice A0_0 l0_0.length c0_0, .slice A0_1 l0_1.length c0_1, .slice A0_2 l0_2.length c0_2]) (t := 26) ?hr ?_; (case hd => rfl); (case hg => rfl); (case hr => first | (go_simp; done) | (go_simp; rfl)); intro gb337 hg w105 hbox hb; have n0_ := Aside0.mk (below_step bl hb); have n1_ := Aside0.mk (hbox); have n2_ := Aside0.mk ((by rw [hg]; exact (below_size bl) : w.heap.size ≤ gb337)); have n3_ := Aside0.mk ((by rw [hg]; exact (below_size bl) : w.heap.size ≤ gb337)); clear HB; have HB := n0_; have BK337 := n1_; have GW337 := n2_; have GE337 := n3_; clear n0_ n1_ n2_ n3_; clear hb hbox hg) | ((with_reducible refine gate_dst (N := 3) rfl ?_); (try (refine gate_guard (by rfl) ?_; dsimp only)); refine box_event ?hg (N := 3) ?hd (cs := #[.slice A1_0 l1_0.length c1_0, .slice A1_1 l1_1.length c1_1, .slice A1_2 l1_2.length c1_2]) (t := 26) ?hr ?_; (case hd => rfl); (case hg => rfl); (case hr => first | (go_simp; done) | (go_simp; rfl)); intro gb338 hg w106 hbox hb; have n0_ := Aside0.mk (blk_below (bu BK337.out) hb); have n1_ := Aside0.mk (below_step bs hb); have n2_ := Aside0.mk (hbox); have n3_ := Aside0.mk ((by rw [hg]; exact (below_size bs) : w.heap.size ≤ gb338)); have n4_ := Aside0.mk ((by rw [hg]; exact (below_size bs) : w.heap.size ≤ gb338)); have n5_ := Aside0.mk ((by rw [hg]; exact Nat.ne_of_lt (blk_lt (bu BK337.out)) : gb337 ≠ gb338)); have n6_ := Aside0.mk ((by rw [hg]; exact Nat.ne_of_gt (blk_lt (bu BK337.out)) : gb338 ≠ gb337)); clear BK337; clear HB; have BK337 := n0_; have HB := n1_; have BK338 := n2_; have GW338 := n3_; have GE338 := n4_; have NB337_338 := n5_; have NB338_337 := n6_; clear n0_ n1_ n2_ n3_ n4_ n5_ n6_; clear hb hbox hg) | (go_at_call 11; (with_reducible refine (abacuslaw26_awake.calls k  true _ ?side1 A3.out).mono ?_); (case side1 => exact GW.below HG.out bs); rintro e w107 ⟨rfl, hb⟩; have n0_ := Aside0.mk (blk_below (bu BK337.out) hb); have n1_ := Aside0.mk (blk_below (bu BK338.out) hb); have n2_ := Aside0.mk (below_step bs hb); clear BK337; clear BK338; clear HB; have BK337 := n0_; have BK338 := n1_; have HB := n2_; clear n0_ n1_ n2_; (try clear hb); (try clear hb2); (try clear hk); (try clear hi); have hnb108 := NB337_338.out; have hnc108 := NB338_337.out; obtain ⟨⟨hcz109_0, hcz109_1, hcz109_2⟩, hfz109_0, hfz109_1, hfz109_2⟩ := blkAll3 BK337) | (go_at_call 15; (with_reducible refine (code_List.calls k _ _ l0_0 _ _ l0_1 _ _ l0_2 t340 t341 _ ?side1 ?side2 ?side3 ?side4 ?side5 ?side6 ?side7 A5.out).mono ?_); (case side1 => repeat (first | exact (Kd.C_below HR0_0.out HB.out) | (with_reducible refine Kd.C_alloc ?_ _) | (with_reducible refine Kd.C_drewN ?_ _) | (with_reducible refine Kd.C_drew ?_))); (case side2 => exact HC0_0.out); (case side3 => repeat (first | exact (Kd.C_below HR0_1.out HB.out) | (with_reducible refine Kd.C_alloc ?_ _) | (with_reducible refine Kd.C_drewN ?_ _) | (with_reducible refine Kd.C_drew ?_))); (case side4 => exact HC0_1.out); (case side5 => repeat (first | exact (Kd.C_below HR0_2.out HB.out) | (with_reducible refine Kd.C_alloc ?_ _) | (with_reducible refine Kd.C_drewN ?_ _) | (with_reducible refine Kd.C_drew ?_))); (case side6 => exact HC0_2.out); (case side7 => exact GW.below HG.out bs); rintro e w110 ⟨rfl, hb⟩; have n0_ := Aside0.mk (blk_below (bu BK337.out) hb); have n1_ := Aside0.mk (blk_below (bu BK338.out) hb); have n2_ := Aside0.mk (below_step bs hb); clear BK337; clear BK338; clear HB; have BK337 := n0_; have BK338 := n1_; have HB := n2_; clear n0_ n1_ n2_; (try clear hb); (try clear hb2); (try clear hk); (try clear hi); obtain ⟨⟨hcz111_0, hcz111_1, hcz111_2⟩, hfz111_0, hfz111_1, hfz111_2⟩ := blkAll3 BK337) | (go_at_call 13; (with_reducible refine (code_Check.calls k _ _ l0_0 _ _ l0_1 _ _ l0_2 t342 t343 t344 _ ?side1 ?side2 ?side3 ?side4 ?side5 ?side6 A67.out).mono ?_); (case side1 => repeat (first | exact (Kd.C_below HR0_0.out HB.out) | (with_reducible refine Kd.C_alloc ?_ _) | (with_reducible refine Kd.C_drewN ?_ _) | (with_reducible refine Kd.C_drew ?_))); (case side2 => exact HC0_0.out); (case side3 => repeat (first | exact (Kd.C_below HR0_1.out HB.out) | (with_reducible refine Kd.C_alloc ?_ _) | (with_reducible refine Kd.C_drewN ?_ _) | (with_reducible refine Kd.C_drew ?_))); (case side4 => exact HC0_1.out); (case side5 => repeat (first | exact (Kd.C_below HR0_2.out HB.out) | (with_reducible refine Kd.C_alloc ?_ _) | (with_reducible refine Kd.C_drewN ?_ _) | (with_reducible refine Kd.C_drew ?_))); (case side6 => exact HC0_2.out); rintro e w112 ⟨rfl, hb⟩; have n0_ := Aside0.mk (blk_below (bu BK337.out) hb); have n1_ := Aside0.mk (blk_below (bu BK338.out) hb); have n2_ := Aside0.mk (below_step bs hb); clear BK337; clear BK338; clear HB; have BK337 := n0_; have BK338 := n1_; have HB := n2_; clear n0_ n1_ n2_; (try clear hb); (try clear hb2); (try clear hk); (try clear hi)))
   repeat (go_quiet (first | ((with_reducible refine gate_dst (N := 2) rfl ?_); (try (refine gate_guard (by rfl) ?_; dsimp only)); refine box_event ?hg (N := 2) ?hd (cs := #[.slice A0_0 l0_0.length c0_0, .slice A0_1 l0_1.length c0_1, .slice A0_2 l0_2.length c0_2]) (t := 26) ?hr ?_; (case hd => rfl); (case hg => rfl); (case hr => first | (go_simp; done) | (go_simp; rfl)); intro gb337 hg w105 hbox hb; have n0_ := Aside0.mk (below_step bl hb); have n1_ := Aside0.mk (hbox); have n2_ := Aside0.mk ((by rw [hg]; exact (below_size bl) : w.heap.size ≤ gb337)); have n3_ := Aside0.mk ((by rw [hg]; exact (below_size bl) : w.heap.size ≤ gb337)); clear HB; have HB := n0_; have BK337 := n1_; have GW337 := n2_; have GE337 := n3_; clear n0_ n1_ n2_ n3_; clear hb hbox hg) | ((with_reducible refine gate_dst (N := 3) rfl ?_); (try (refine gate_guard (by rfl) ?_; dsimp only)); refine box_event ?hg (N := 3) ?hd (cs := #[.slice A1_0 l1_0.length c1_0, .slice A1_1 l1_1.length c1_1, .slice A1_2 l1_2.length c1_2]) (t := 26) ?hr ?_; (case hd => rfl); (case hg => rfl); (case hr => first | (go_simp; done) | (go_simp; rfl)); intro gb338 hg w106 hbox hb; have n0_ := Aside0.mk (blk_below (bu BK337.out) hb); have n1_ := Aside0.mk (below_step bs hb); have n2_ := Aside0.mk (hbox); have n3_ := Aside0.mk ((by rw [hg]; exact (below_size bs) : w.heap.size ≤ gb338)); have n4_ := Aside0.mk ((by rw [hg]; exact (below_size bs) : w.heap.size ≤ gb338)); have n5_ := Aside0.mk ((by rw [hg]; exact Nat.ne_of_lt (blk_lt (bu BK337.out)) : gb337 ≠ gb338)); have n6_ := Aside0.mk ((by rw [hg]; exact Nat.ne_of_gt (blk_lt (bu BK337.out)) : gb338 ≠ gb337)); clear BK337; clear HB; have BK337 := n0_; have HB := n1_; have BK338 := n2_; have GW338 := n3_; have GE338 := n4_; have NB337_338 := n5_; have NB338_337 := n6_; clear n0_ n1_ n2_ n3_ n4_ n5_ n6_; clear hb hbox hg) | (go_at_call 11; (with_reducible refine (abacuslaw26_awake.calls k  true _ ?side1 A3.out).mono ?_); (case side1 => exact GW.below HG.out bs); rintro e w107 ⟨rfl, hb⟩; have n0_ := Aside0.mk (blk_below (bu BK337.out) hb); have n1_ := Aside0.mk (blk_below (bu BK338.out) hb); have n2_ := Aside0.mk (below_step bs hb); clear BK337; clear BK338; clear HB; have BK337 := n0_; have BK338 := n1_; have HB := n2_; clear n0_ n1_ n2_; (try clear hb); (try clear hb2); (try clear hk); (try clear hi); have hnb108 := NB337_338.out; have hnc108 := NB338_337.out; obtain ⟨⟨hcz109_0, hcz109_1, hcz109_2⟩, hfz109_0, hfz109_1, hfz109_2⟩ := blkAll3 BK337) | (go_at_call 15; (with_reducible refine (code_List.calls k _ _ l0_0 _ _ l0_1 _ _ l0_2 t340 t341 _ ?side1 ?side2 ?side3 ?side4 ?side5 ?side6 ?side7 A5.out).mono ?_); (case side1 => repeat (first | exact (Kd.C_below HR0_0.out HB.out) | (with_reducible refine Kd.C_alloc ?_ _) | (with_reducible refine Kd.C_drewN ?_ _) | (with_reducible refine Kd.C_drew ?_))); (case side2 => exact HC0_0.out); (case side3 => repeat (first | exact (Kd.C_below HR0_1.out HB.out) | (with_reducible refine Kd.C_alloc ?_ _) | (with_reducible refine Kd.C_drewN ?_ _) | (with_reducible refine Kd.C_drew ?_))); (case side4 => exact HC0_1.out); (case side5 => repeat (first | exact (Kd.C_below HR0_2.out HB.out) | (with_reducible refine Kd.C_alloc ?_ _) | (with_reducible refine Kd.C_drewN ?_ _) | (with_reducible refine Kd.C_drew ?_))); (case side6 => exact HC0_2.out); (case side7 => exact GW.below HG.out bs); rintro e w110 ⟨rfl, hb⟩; have n0_ := Aside0.mk (blk_below (bu BK337.out) hb); have n1_ := Aside0.mk (blk_below (bu BK338.out) hb); have n2_ := Aside0.mk (below_step bs hb); clear BK337; clear BK338; clear HB; have BK337 := n0_; have BK338 := n1_; have HB := n2_; clear n0_ n1_ n2_; (try clear hb); (try clear hb2); (try clear hk); (try clear hi); obtain ⟨⟨hcz111_0, hcz111_1, hcz111_2⟩, hfz111_0, hfz111_1, hfz111_2⟩ := blkAll3 BK337) | (go_at_call 13; (with_reducible refine (code_Check.calls k _ _ l0_0 _ _ l0_1 _ _ l0_2 t342 t343 t344 _ ?side1 ?side2 ?side3 ?side4 ?side5 ?side6 A67.out).mono ?_); (case side1 => repeat (first | exact (Kd.C_below HR0_0.out HB.out) | (with_reducible refine Kd.C_alloc ?_ _) | (with_reducible refine Kd.C_drewN ?_ _) | (with_reducible refine Kd.C_drew ?_))); (case side2 => exact HC0_0.out); (case side3 => repeat (first | exact (Kd.C_below HR0_1.out HB.out) | (with_reducible refine Kd.C_alloc ?_ _) | (with_reducible refine Kd.C_drewN ?_ _) | (with_reducible refine Kd.C_drew ?_))); (case side4 => exact HC0_1.out); (case side5 => repeat (first | exact (Kd.C_below HR0_2.out HB.out) | (with_reducible refine Kd.C_alloc ?_ _) | (with_reducible refine Kd.C_drewN ?_ _) | (with_reducible refine Kd.C_drew ?_))); (case side6 => exact HC0_2.out); rintro e w112 ⟨rfl, hb⟩; have n0_ := Aside0.mk (blk_below (bu BK337.out) hb); have n1_ := Aside0.mk (blk_below (bu BK338.out) hb); have n2_ := Aside0.mk (below_step bs hb); clear BK337; clear BK338; clear HB; have BK337 := n0_; have BK338 := n1_; have HB := n2_; clear n0_ n1_ n2_; (try clear hb); (try clear hb2); (try clear hk); (try clear hi))); try go_wp2_with (first | ((with_reducible refine gate_dst (N := 2) rfl ?_); (try (refine gate_guard (by rfl) ?_; dsimp only)); refine box_event ?hg (N := 2) ?hd (cs := #[.slice A0_0 l0_0.length c0_0, .slice A0_1 l0_1.length c0_1, .slice A0_2 l0_2.length c0_2]) (t := 26) ?hr ?_; (case hd => rfl); (case hg => rfl); (case hr => first | (go_simp; done) | (go_simp; rfl)); intro gb337 hg w105 hbox hb; have n0_ := Aside0.mk (below_step bl hb); have n1_ := Aside0.mk (hbox); have n2_ := Aside0.mk ((by rw [hg]; exact (below_size bl) : w.heap.size ≤ gb337)); have n3_ := Aside0.mk ((by rw [hg]; exact (below_size bl) : w.heap.size ≤ gb337)); clear HB; have HB := n0_; have BK337 := n1_; have GW337 := n2_; have GE337 := n3_; clear n0_ n1_ n2_ n3_; clear hb hbox hg) | ((with_reducible refine gate_dst (N := 3) rfl ?_); (try (refine gate_guard (by rfl) ?_; dsimp only)); refine box_event ?hg (N := 3) ?hd (cs := #[.slice A1_0 l1_0.length c1_0, .slice A1_1 l1_1.length c1_1, .slice A1_2 l1_2.length c1_2]) (t := 26) ?hr ?_; (case hd => rfl); (case hg => rfl); (case hr => first | (go_simp; done) | (go_simp; rfl)); intro gb338 hg w106 hbox hb; have n0_ := Aside0.mk (blk_below (bu BK337.out) hb); have n1_ := Aside0.mk (below_step bs hb); have n2_ := Aside0.mk (hbox); have n3_ := Aside0.mk ((by rw [hg]; exact (below_size bs) : w.heap.size ≤ gb338)); have n4_ := Aside0.mk ((by rw [hg]; exact (below_size bs) : w.heap.size ≤ gb338)); have n5_ := Aside0.mk ((by rw [hg]; exact Nat.ne_of_lt (blk_lt (bu BK337.out)) : gb337 ≠ gb338)); have n6_ := Aside0.mk ((by rw [hg]; exact Nat.ne_of_gt (blk_lt (bu BK337.out)) : gb338 ≠ gb337)); clear BK337; clear HB; have BK337 := n0_; have HB := n1_; have BK338 := n2_; have GW338 := n3_; have GE338 := n4_; have NB337_338 := n5_; have NB338_337 := n6_; clear n0_ n1_ n2_ n3_ n4_ n5_ n6_; clear hb hbox hg) | (go_at_call 11; (with_reducible refine (abacuslaw26_awake.calls k  true _ ?side1 A3.out).mono ?_); (case side1 => exact GW.below HG.out bs); rintro e w107 ⟨rfl, hb⟩; have n0_ := Aside0.mk (blk_below (bu BK337.out) hb); have n1_ := Aside0.mk (blk_below (bu BK338.out) hb); have n2_ := Aside0.mk (below_step bs hb); clear BK337; clear BK338; clear HB; have BK337 := n0_; have BK338 := n1_; have HB := n2_; clear n0_ n1_ n2_; (try clear hb); (try clear hb2); (try clear hk); (try clear hi); have hnb108 := NB337_338.out; have hnc108 := NB338_337.out; obtain ⟨⟨hcz109_0, hcz109_1, hcz109_2⟩, hfz109_0, hfz109_1, hfz109_2⟩ := blkAll3 BK337) | (go_at_call 15; (with_reducible refine (code_List.calls k _ _ l0_0 _ _ l0_1 _ _ l0_2 t340 t341 _ ?side1 ?side2 ?side3 ?side4 ?side5 ?side6 ?side7 A5.out).mono ?_); (case side1 => repeat (first | exact (Kd.C_below HR0_0.out HB.out) | (with_reducible refine Kd.C_alloc ?_ _) | (with_reducible refine Kd.C_drewN ?_ _) | (with_reducible refine Kd.C_drew ?_))); (case side2 => exact HC0_0.out); (case side3 => repeat (first | exact (Kd.C_below HR0_1.out HB.out) | (with_reducible refine Kd.C_alloc ?_ _) | (with_reducible refine Kd.C_drewN ?_ _) | (with_reducible refine Kd.C_drew ?_))); (case side4 => exact HC0_1.out); (case side5 => repeat (first | exact (Kd.C_below HR0_2.out HB.out) | (with_reducible refine Kd.C_alloc ?_ _) | (with_reducible refine Kd.C_drewN ?_ _) | (with_reducible refine Kd.C_drew ?_))); (case side6 => exact HC0_2.out); (case side7 => exact GW.below HG.out bs); rintro e w110 ⟨rfl, hb⟩; have n0_ := Aside0.mk (blk_below (bu BK337.out) hb); have n1_ := Aside0.mk (blk_below (bu BK338.out) hb); have n2_ := Aside0.mk (below_step bs hb); clear BK337; clear BK338; clear HB; have BK337 := n0_; have BK338 := n1_; have HB := n2_; clear n0_ n1_ n2_; (try clear hb); (try clear hb2); (try clear hk); (try clear hi); obtain ⟨⟨hcz111_0, hcz111_1, hcz111_2⟩, hfz111_0, hfz111_1, hfz111_2⟩ := blkAll3 BK337) | (go_at_call 13; (with_reducible refine (code_Check.calls k _ _ l0_0 _ _ l0_1 _ _ l0_2 t342 t343 t344 _ ?side1 ?side2 ?side3 ?side4 ?side5 ?side6 A67.out).mono ?_); (case side1 => repeat (first | exact (Kd.C_below HR0_0.out HB.out) | (with_reducible refine Kd.C_alloc ?_ _) | (with_reducible refine Kd.C_drewN ?_ _) | (with_reducible refine Kd.C_drew ?_))); (case side2 => exact HC0_0.out); (case side3 => repeat (first | exact (Kd.C_below HR0_1.out HB.out) | (with_reducible refine Kd.C_alloc ?_ _) | (with_reducible refine Kd.C_drewN ?_ _) | (with_reducible refine Kd.C_drew ?_))); (case side4 => exact HC0_1.out); (case side5 => repeat (first | exact (Kd.C_below HR0_2.out HB.out) | (with_reducible refine Kd.C_alloc ?_ _) | (with_reducible refine Kd.C_drewN ?_ _) | (with_reducible refine Kd.C_drew ?_))); (case side6 => exact HC0_2.out); rintro e w112 ⟨rfl, hb⟩; have n0_ := Aside0.mk (blk_below (bu BK337.out) hb); have n1_ := Aside0.mk (blk_below (bu BK338.out) hb); have n2_ := Aside0.mk (below_step bs hb); clear BK337; clear BK338; clear HB; have BK337 := n0_; have BK338 := n1_; have HB := n2_; clear n0_ n1_ n2_; (try clear hb); (try clear hb2); (try clear hk); (try clear hi))))
   go_ret
   exact ⟨er, bs⟩
  rw [if_pos c96] at H
  have c96b0 : (t341 == 3) = true := beq_iff_eq.mpr c96
  have c96b1 : (t341 != 3) = false := bne_eq_false_iff_eq.mpr c96
  clear c96
  obtain rfl := Option.some.inj H
  go_enter Tryd.func6, Tryd.ntmps6
  go_wp2_with (first | ((with_reducible refine gate_dst (N := 2) rfl ?_); (try (refine gate_guard (by rfl) ?_; dsimp only)); refine box_event ?hg (N := 2) ?hd (cs := #[.slice A0_0 l0_0.length c0_0, .slice A0_1 l0_1.length c0_1, .slice A0_2 l0_2.length c0_2]) (t := 26) ?hr ?_; (case hd => rfl); (case hg => rfl); (case hr => first | (go_simp; done) | (go_simp; rfl)); intro gb337 hg w97 hbox hb; have n0_ := Aside0.mk (below_step bl hb); have n1_ := Aside0.mk (hbox); have n2_ := Aside0.mk ((by rw [hg]; exact (below_size bl) : w.heap.size ≤ gb337)); have n3_ := Aside0.mk ((by rw [hg]; exact (below_size bl) : w.heap.size ≤ gb337)); clear HB; have HB := n0_; have BK337 := n1_; have GW337 := n2_; have GE337 := n3_; clear n0_ n1_ n2_ n3_; clear hb hbox hg) | ((with_reducible refine gate_dst (N := 3) rfl ?_); (try (refine gate_guard (by rfl) ?_; dsimp only)); refine box_event ?hg (N := 3) ?hd (cs := #[.slice A1_0 l1_0.length c1_0, .slice A1_1 l1_1.length c1_1, .slice A1_2 l1_2.length c1_2]) (t := 26) ?hr ?_; (case hd => rfl); (case hg => rfl); (case hr => first | (go_simp; done) | (go_simp; rfl)); intro gb338 hg w98 hbox hb; have n0_ := Aside0.mk (blk_below (bu BK337.out) hb); have n1_ := Aside0.mk (below_step bs hb); have n2_ := Aside0.mk (hbox); have n3_ := Aside0.mk ((by rw [hg]; exact (below_size bs) : w.heap.size ≤ gb338)); have n4_ := Aside0.mk ((by rw [hg]; exact (below_size bs) : w.heap.size ≤ gb338)); have n5_ := Aside0.mk ((by rw [hg]; exact Nat.ne_of_lt (blk_lt (bu BK337.out)) : gb337 ≠ gb338)); have n6_ := Aside0.mk ((by rw [hg]; exact Nat.ne_of_gt (blk_lt (bu BK337.out)) : gb338 ≠ gb337)); clear BK337; clear HB; have BK337 := n0_; have HB := n1_; have BK338 := n2_; have GW338 := n3_; have GE338 := n4_; have NB337_338 := n5_; have NB338_337 := n6_; clear n0_ n1_ n2_ n3_ n4_ n5_ n6_; clear hb hbox hg) | (go_at_call 11; (with_reducible refine (abacuslaw26_awake.calls k  true _ ?side1 A3.out).mono ?_); (case side1 => exact GW.below HG.out bs); rintro e w99 ⟨rfl, hb⟩; have n0_ := Aside0.mk (blk_below (bu BK337.out) hb); have n1_ := Aside0.mk (blk_below (bu BK338.out) hb); have n2_ := Aside0.mk (below_step bs hb); clear BK337; clear BK338; clear HB; have BK337 := n0_; have BK338 := n1_; have HB := n2_; clear n0_ n1_ n2_; (try clear hb); (try clear hb2); (try clear hk); (try clear hi); have hnb100 := NB337_338.out; have hnc100 := NB338_337.out; obtain ⟨⟨hcz101_0, hcz101_1, hcz101_2⟩, hfz101_0, hfz101_1, hfz101_2⟩ := blkAll3 BK337) | (go_at_call 15; (with_reducible refine (code_List.calls k _ _ l0_0 _ _ l0_1 _ _ l0_2 t340 t341 _ ?side1 ?side2 ?side3 ?side4 ?side5 ?side6 ?side7 A5.out).mono ?_); (case side1 => repeat (first | exact (Kd.C_below HR0_0.out HB.out) | (with_reducible refine Kd.C_alloc ?_ _) | (with_reducible refine Kd.C_drewN ?_ _) | (with_reducible refine Kd.C_drew ?_))); (case side2 => exact HC0_0.out); (case side3 => repeat (first | exact (Kd.C_below HR0_1.out HB.out) | (with_reducible refine Kd.C_alloc ?_ _) | (with_reducible refine Kd.C_drewN ?_ _) | (with_reducible refine Kd.C_drew ?_))); (case side4 => exact HC0_1.out); (case side5 => repeat (first | exact (Kd.C_below HR0_2.out HB.out) | (with_reducible refine Kd.C_alloc ?_ _) | (with_reducible refine Kd.C_drewN ?_ _) | (with_reducible refine Kd.C_drew ?_))); (case side6 => exact HC0_2.out); (case side7 => exact GW.below HG.out bs); rintro e w102 ⟨rfl, hb⟩; have n0_ := Aside0.mk (blk_below (bu BK337.out) hb); have n1_ := Aside0.mk (blk_below (bu BK338.out) hb); have n2_ := Aside0.mk (below_step bs hb); clear BK337; clear BK338; clear HB; have BK337 := n0_; have BK338 := n1_; have HB := n2_; clear n0_ n1_ n2_; (try clear hb); (try clear hb2); (try clear hk); (try clear hi); obtain ⟨⟨hcz103_0, hcz103_1, hcz103_2⟩, hfz103_0, hfz103_1, hfz103_2⟩ := blkAll3 BK337) | (go_at_call 13; (with_reducible refine (code_Check.calls k _ _ l0_0 _ _ l0_1 _ _ l0_2 t342 t343 t344 _ ?side1 ?side2 ?side3 ?side4 ?side5 ?side6 A67.out).mono ?_); (case side1 => repeat (first | exact (Kd.C_below HR0_0.out HB.out) | (with_reducible refine Kd.C_alloc ?_ _) | (with_reducible refine Kd.C_drewN ?_ _) | (with_reducible refine Kd.C_drew ?_))); (case side2 => exact HC0_0.out); (case side3 => repeat (first | exact (Kd.C_below HR0_1.out HB.out) | (with_reducible refine Kd.C_alloc ?_ _) | (with_reducible refine Kd.C_drewN ?_ _) | (with_reducible refine Kd.C_drew ?_))); (case side4 => exact HC0_1.out); (case side5 => repeat (first | exact (Kd.C_below HR0_2.out HB.out) | (with_reducible refine Kd.C_alloc ?_ _) | (with_reducible refine Kd.C_drewN ?_ _) | (with_reducible refine Kd.C_drew ?_))); (case side6 => exact HC0_2.out); rintro e w104 ⟨rfl, hb⟩; have n0_ := Aside0.mk (blk_below (bu BK337.out) hb); have n1_ := Aside0.mk (blk_below (bu BK338.out) hb); have n2_ := Aside0.mk (below_step bs hb); clear BK337; clear BK338; clear HB; have BK337 := n0_; have BK338 := n1_; have HB := n2_; clear n0_ n1_ n2_; (try clear hb); (try clear hb2); (try clear hk); (try clear hi)))
  repeat (go_quiet (first | ((with_reducible refine gate_dst (N := 2) rfl ?_); (try (refine gate_guard (by rfl) ?_; dsimp only)); refine box_event ?hg (N := 2) ?hd (cs := #[.slice A0_0 l0_0.length c0_0, .slice A0_1 l0_1.length c0_1, .slice A0_2 l0_2.length c0_2]) (t := 26) ?hr ?_; (case hd => rfl); (case hg => rfl); (case hr => first | (go_simp; done) | (go_simp; rfl)); intro gb337 hg w97 hbox hb; have n0_ := Aside0.mk (below_step bl hb); have n1_ := Aside0.mk (hbox); have n2_ := Aside0.mk ((by rw [hg]; exact (below_size bl) : w.heap.size ≤ gb337)); have n3_ := Aside0.mk ((by rw [hg]; exact (below_size bl) : w.heap.size ≤ gb337)); clear HB; have HB := n0_; have BK337 := n1_; have GW337 := n2_; have GE337 := n3_; clear n0_ n1_ n2_ n3_; clear hb hbox hg) | ((with_reducible refine gate_dst (N := 3) rfl ?_); (try (refine gate_guard (by rfl) ?_; dsimp only)); refine box_event ?hg (N := 3) ?hd (cs := #[.slice A1_0 l1_0.length c1_0, .slice A1_1 l1_1.length c1_1, .slice A1_2 l1_2.length c1_2]) (t := 26) ?hr ?_; (case hd => rfl); (case hg => rfl); (case hr => first | (go_simp; done) | (go_simp; rfl)); intro gb338 hg w98 hbox hb; have n0_ := Aside0.mk (blk_below (bu BK337.out) hb); have n1_ := Aside0.mk (below_step bs hb); have n2_ := Aside0.mk (hbox); have n3_ := Aside0.mk ((by rw [hg]; exact (below_size bs) : w.heap.size ≤ gb338)); have n4_ := Aside0.mk ((by rw [hg]; exact (below_size bs) : w.heap.size ≤ gb338)); have n5_ := Aside0.mk ((by rw [hg]; exact Nat.ne_of_lt (blk_lt (bu BK337.out)) : gb337 ≠ gb338)); have n6_ := Aside0.mk ((by rw [hg]; exact Nat.ne_of_gt (blk_lt (bu BK337.out)) : gb338 ≠ gb337)); clear BK337; clear HB; have BK337 := n0_; have HB := n1_; have BK338 := n2_; have GW338 := n3_; have GE338 := n4_; have NB337_338 := n5_; have NB338_337 := n6_; clear n0_ n1_ n2_ n3_ n4_ n5_ n6_; clear hb hbox hg) | (go_at_call 11; (with_reducible refine (abacuslaw26_awake.calls k  true _ ?side1 A3.out).mono ?_); (case side1 => exact GW.below HG.out bs); rintro e w99 ⟨rfl, hb⟩; have n0_ := Aside0.mk (blk_below (bu BK337.out) hb); have n1_ := Aside0.mk (blk_below (bu BK338.out) hb); have n2_ := Aside0.mk (below_step bs hb); clear BK337; clear BK338; clear HB; have BK337 := n0_; have BK338 := n1_; have HB := n2_; clear n0_ n1_ n2_; (try clear hb); (try clear hb2); (try clear hk); (try clear hi); have hnb100 := NB337_338.out; have hnc100 := NB338_337.out; obtain ⟨⟨hcz101_0, hcz101_1, hcz101_2⟩, hfz101_0, hfz101_1, hfz101_2⟩ := blkAll3 BK337) | (go_at_call 15; (with_reducible refine (code_List.calls k _ _ l0_0 _ _ l0_1 _ _ l0_2 t340 t341 _ ?side1 ?side2 ?side3 ?side4 ?side5 ?side6 ?side7 A5.out).mono ?_); (case side1 => repeat (first | exact (Kd.C_below HR0_0.out HB.out) | (with_reducible refine Kd.C_alloc ?_ _) | (with_reducible refine Kd.C_drewN ?_ _) | (with_reducible refine Kd.C_drew ?_))); (case side2 => exact HC0_0.out); (case side3 => repeat (first | exact (Kd.C_below HR0_1.out HB.out) | (with_reducible refine Kd.C_alloc ?_ _) | (with_reducible refine Kd.C_drewN ?_ _) | (with_reducible refine Kd.C_drew ?_))); (case side4 => exact HC0_1.out); (case side5 => repeat (first | exact (Kd.C_below HR0_2.out HB.out) | (with_reducible refine Kd.C_alloc ?_ _) | (with_reducible refine Kd.C_drewN ?_ _) | (with_reducible refine Kd.C_drew ?_))); (case side6 => exact HC0_2.out); (case side7 => exact GW.below HG.out bs); rintro e w102 ⟨rfl, hb⟩; have n0_ := Aside0.mk (blk_below (bu BK337.out) hb); have n1_ := Aside0.mk (blk_below (bu BK338.out) hb); have n2_ := Aside0.mk (below_step bs hb); clear BK337; clear BK338; clear HB; have BK337 := n0_; have BK338 := n1_; have HB := n2_; clear n0_ n1_ n2_; (try clear hb); (try clear hb2); (try clear hk); (try clear hi); obtain ⟨⟨hcz103_0, hcz103_1, hcz103_2⟩, hfz103_0, hfz103_1, hfz103_2⟩ := blkAll3 BK337) | (go_at_call 13; (with_reducible refine (code_Check.calls k _ _ l0_0 _ _ l0_1 _ _ l0_2 t342 t343 t344 _ ?side1 ?side2 ?side3 ?side4 ?side5 ?side6 A67.out).mono ?_); (case side1 => repeat (first | exact (Kd.C_below HR0_0.out HB.out) | (with_reducible refine Kd.C_alloc ?_ _) | (with_reducible refine Kd.C_drewN ?_ _) | (with_reducible refine Kd.C_drew ?_))); (case side2 => exact HC0_0.out); (case side3 => repeat (first | exact (Kd.C_below HR0_1.out HB.out) | (with_reducible refine Kd.C_alloc ?_ _) | (with_reducible refine Kd.C_drewN ?_ _) | (with_reducible refine Kd.C_drew ?_))); (case side4 => exact HC0_1.out); (case side5 => repeat (first | exact (Kd.C_below HR0_2.out HB.out) | (with_reducible refine Kd.C_alloc ?_ _) | (with_reducible refine Kd.C_drewN ?_ _) | (with_reducible refine Kd.C_drew ?_))); (case side6 => exact HC0_2.out); rintro e w104 ⟨rfl, hb⟩; have n0_ := Aside0.mk (blk_below (bu BK337.out) hb); have n1_ := Aside0.mk (blk_below (bu BK338.out) hb); have n2_ := Aside0.mk (below_step bs hb); clear BK337; clear BK338; clear HB; have BK337 := n0_; have BK338 := n1_; have HB := n2_; clear n0_ n1_ n2_; (try clear hb); (try clear hb2); (try clear hk); (try clear hi))); try go_wp2_with (first | ((with_reducible refine gate_dst (N := 2) rfl ?_); (try (refine gate_guard (by rfl) ?_; dsimp only)); refine box_event ?hg (N := 2) ?hd (cs := #[.slice A0_0 l0_0.length c0_0, .slice A0_1 l0_1.length c0_1, .slice A0_2 l0_2.length c0_2]) (t := 26) ?hr ?_; (case hd => rfl); (case hg => rfl); (case hr => first | (go_simp; done) | (go_simp; rfl)); intro gb337 hg w97 hbox hb; have n0_ := Aside0.mk (below_step bl hb); have n1_ := Aside0.mk (hbox); have n2_ := Aside0.mk ((by rw [hg]; exact (below_size bl) : w.heap.size ≤ gb337)); have n3_ := Aside0.mk ((by rw [hg]; exact (below_size bl) : w.heap.size ≤ gb337)); clear HB; have HB := n0_; have BK337 := n1_; have GW337 := n2_; have GE337 := n3_; clear n0_ n1_ n2_ n3_; clear hb hbox hg) | ((with_reducible refine gate_dst (N := 3) rfl ?_); (try (refine gate_guard (by rfl) ?_; dsimp only)); refine box_event ?hg (N := 3) ?hd (cs := #[.slice A1_0 l1_0.length c1_0, .slice A1_1 l1_1.length c1_1, .slice A1_2 l1_2.length c1_2]) (t := 26) ?hr ?_; (case hd => rfl); (case hg => rfl); (case hr => first | (go_simp; done) | (go_simp; rfl)); intro gb338 hg w98 hbox hb; have n0_ := Aside0.mk (blk_below (bu BK337.out) hb); have n1_ := Aside0.mk (below_step bs hb); have n2_ := Aside0.mk (hbox); have n3_ := Aside0.mk ((by rw [hg]; exact (below_size bs) : w.heap.size ≤ gb338)); have n4_ := Aside0.mk ((by rw [hg]; exact (below_size bs) : w.heap.size ≤ gb338)); have n5_ := Aside0.mk ((by rw [hg]; exact Nat.ne_of_lt (blk_lt (bu BK337.out)) : gb337 ≠ gb338)); have n6_ := Aside0.mk ((by rw [hg]; exact Nat.ne_of_gt (blk_lt (bu BK337.out)) : gb338 ≠ gb337)); clear BK337; clear HB; have BK337 := n0_; have HB := n1_; have BK338 := n2_; have GW338 := n3_; have GE338 := n4_; have NB337_338 := n5_; have NB338_337 := n6_; clear n0_ n1_ n2_ n3_ n4_ n5_ n6_; clear hb hbox hg) | (go_at_call 11; (with_reducible refine (abacuslaw26_awake.calls k  true _ ?side1 A3.out).mono ?_); (case side1 => exact GW.below HG.out bs); rintro e w99 ⟨rfl, hb⟩; have n0_ := Aside0.mk (blk_below (bu BK337.out) hb); have n1_ := Aside0.mk (blk_below (bu BK338.out) hb); have n2_ := Aside0.mk (below_step bs hb); clear BK337; clear BK338; clear HB; have BK337 := n0_; have BK338 := n1_; have HB := n2_; clear n0_ n1_ n2_; (try clear hb); (try clear hb2); (try clear hk); (try clear hi); have hnb100 := NB337_338.out; have hnc100 := NB338_337.out; obtain ⟨⟨hcz101_0, hcz101_1, hcz101_2⟩, hfz101_0, hfz101_1, hfz101_2⟩ := blkAll3 BK337) | (go_at_call 15; (with_reducible refine (code_List.calls k _ _ l0_0 _ _ l0_1 _ _ l0_2 t340 t341 _ ?side1 ?side2 ?side3 ?side4 ?side5 ?side6 ?side7 A5.out).mono ?_); (case side1 => repeat (first | exact (Kd.C_below HR0_0.out HB.out) | (with_reducible refine Kd.C_alloc ?_ _) | (with_reducible refine Kd.C_drewN ?_ _) | (with_reducible refine Kd.C_drew ?_))); (case side2 => exact HC0_0.out); (case side3 => repeat (first | exact (Kd.C_below HR0_1.out HB.out) | (with_reducible refine Kd.C_alloc ?_ _) | (with_reducible refine Kd.C_drewN ?_ _) | (with_reducible refine Kd.C_drew ?_))); (case side4 => exact HC0_1.out); (case side5 => repeat (first | exact (Kd.C_below HR0_2.out HB.out) | (with_reducible refine Kd.C_alloc ?_ _) | (with_reducible refine Kd.C_drewN ?_ _) | (with_reducible refine Kd.C_drew ?_))); (case side6 => exact HC0_2.out); (case side7 => exact GW.below HG.out bs); rintro e w102 ⟨rfl, hb⟩; have n0_ := Aside0.mk (blk_below (bu BK337.out) hb); have n1_ := Aside0.mk (blk_below (bu BK338.out) hb); have n2_ := Aside0.mk (below_step bs hb); clear BK337; clear BK338; clear HB; have BK337 := n0_; have BK338 := n1_; have HB := n2_; clear n0_ n1_ n2_; (try clear hb); (try clear hb2); (try clear hk); (try clear hi); obtain ⟨⟨hcz103_0, hcz103_1, hcz103_2⟩, hfz103_0, hfz103_1, hfz103_2⟩ := blkAll3 BK337) | (go_at_call 13; (with_reducible refine (code_Check.calls k _ _ l0_0 _ _ l0_1 _ _ l0_2 t342 t343 t344 _ ?side1 ?side2 ?side3 ?side4 ?side5 ?side6 A67.out).mono ?_); (case side1 => repeat (first | exact (Kd.C_below HR0_0.out HB.out) | (with_reducible refine Kd.C_alloc ?_ _) | (with_reducible refine Kd.C_drewN ?_ _) | (with_reducible refine Kd.C_drew ?_))); (case side2 => exact HC0_0.out); (case side3 => repeat (first | exact (Kd.C_below HR0_1.out HB.out) | (with_reducible refine Kd.C_alloc ?_ _) | (with_reducible refine Kd.C_drewN ?_ _) | (with_reducible refine Kd.C_drew ?_))); (case side4 => exact HC0_1.out); (case side5 => repeat (first | exact (Kd.C_below HR0_2.out HB.out) | (with_reducible refine Kd.C_alloc ?_ _) | (with_reducible refine Kd.C_drewN ?_ _) | (with_reducible refine Kd.C_drew ?_))); (case side6 => exact HC0_2.out); rintro e w104 ⟨rfl, hb⟩; have n0_ := Aside0.mk (blk_below (bu BK337.out) hb); have n1_ := Aside0.mk (blk_below (bu BK338.out) hb); have n2_ := Aside0.mk (below_step bs hb); clear BK337; clear BK338; clear HB; have BK337 := n0_; have BK338 := n1_; have HB := n2_; clear n0_ n1_ n2_; (try clear hb); (try clear hb2); (try clear hk); (try clear hi))))
  go_ret
  exact ⟨er, bs⟩
 rw [if_pos c69] at H
 have c69b0 : (t341 == 260) = true := beq_iff_eq.mpr c69
 have c69b1 : (t341 != 260) = false := bne_eq_false_iff_eq.mpr c69
 clear c69
 by_cases c70 : t344 = 260
 ·rw [if_pos c70] at H
  have c70b0 : (t344 == 260) = true := beq_iff_eq.mpr c70
  have c70b1 : (t344 != 260) = false := bne_eq_false_iff_eq.mpr c70
  clear c70
  obtain rfl := Option.some.inj H
  go_enter Tryd.func6, Tryd.ntmps6
  go_wp2_with (first | ((with_reducible refine gate_dst (N := 2) rfl ?_); (try (refine gate_guard (by rfl) ?_; dsimp only)); refine box_event ?hg (N := 2) ?hd (cs := #[.slice A0_0 l0_0.length c0_0, .slice A0_1 l0_1.length c0_1, .slice A0_2 l0_2.length c0_2]) (t := 26) ?hr ?_; (case hd => rfl); (case hg => rfl); (case hr => first | (go_simp; done) | (go_simp; rfl)); intro gb337 hg w71 hbox hb; have n0_ := Aside0.mk (below_step bl hb); have n1_ := Aside0.mk (hbox); have n2_ := Aside0.mk ((by rw [hg]; exact (below_size bl) : w.heap.size ≤ gb337)); have n3_ := Aside0.mk ((by rw [hg]; exact (below_size bl) : w.heap.size ≤ gb337)); clear HB; have HB := n0_; have BK337 := n1_; have GW337 := n2_; have GE337 := n3_; clear n0_ n1_ n2_ n3_; clear hb hbox hg) | ((with_reducible refine gate_dst (N := 3) rfl ?_); (try (refine gate_guard (by rfl) ?_; dsimp only)); refine box_event ?hg (N := 3) ?hd (cs := #[.slice A1_0 l1_0.length c1_0, .slice A1_1 l1_1.length c1_1, .slice A1_2 l1_2.length c1_2]) (t := 26) ?hr ?_; (case hd => rfl); (case hg => rfl); (case hr => first | (go_simp; done) | (go_simp; rfl)); intro gb338 hg w72 hbox hb; have n0_ := Aside0.mk (blk_below (bu BK337.out) hb); have n1_ := Aside0.mk (below_step bs hb); have n2_ := Aside0.mk (hbox); have n3_ := Aside0.mk ((by rw [hg]; exact (below_size bs) : w.heap.size ≤ gb338)); have n4_ := Aside0.mk ((by rw [hg]; exact (below_size bs) : w.heap.size ≤ gb338)); have n5_ := Aside0.mk ((by rw [hg]; exact Nat.ne_of_lt (blk_lt (bu BK337.out)) : gb337 ≠ gb338)); have n6_ := Aside0.mk ((by rw [hg]; exact Nat.ne_of_gt (blk_lt (bu BK337.out)) : gb338 ≠ gb337)); clear BK337; clear HB; have BK337 := n0_; have HB := n1_; have BK338 := n2_; have GW338 := n3_; have GE338 := n4_; have NB337_338 := n5_; have NB338_337 := n6_; clear n0_ n1_ n2_ n3_ n4_ n5_ n6_; clear hb hbox hg) | (go_at_call 11; (with_reducible refine (abacuslaw26_awake.calls k  true _ ?side1 A3.out).mono ?_); (case side1 => exact GW.below HG.out bs); rintro e w73 ⟨rfl, hb⟩; have n0_ := Aside0.mk (blk_below (bu BK337.out) hb); have n1_ := Aside0.mk (blk_below (bu BK338.out) hb); have n2_ := Aside0.mk (below_step bs hb); clear BK337; clear BK338; clear HB; have BK337 := n0_; have BK338 := n1_; have HB := n2_; clear n0_ n1_ n2_; (try clear hb); (try clear hb2); (try clear hk); (try clear hi); have hnb74 := NB337_338.out; have hnc74 := NB338_337.out; obtain ⟨⟨hcz75_0, hcz75_1, hcz75_2⟩, hfz75_0, hfz75_1, hfz75_2⟩ := blkAll3 BK337) | (go_at_call 15; (with_reducible refine (code_List.calls k _ _ l0_0 _ _ l0_1 _ _ l0_2 t340 t341 _ ?side1 ?side2 ?side3 ?side4 ?side5 ?side6 ?side7 A5.out).mono ?_); (case side1 => repeat (first | exact (Kd.C_below HR0_0.out HB.out) | (with_reducible refine Kd.C_alloc ?_ _) | (with_reducible refine Kd.C_drewN ?_ _) | (with_reducible refine Kd.C_drew ?_))); (case side2 => exact HC0_0.out); (case side3 => repeat (first | exact (Kd.C_below HR0_1.out HB.out) | (with_reducible refine Kd.C_alloc ?_ _) | (with_reducible refine Kd.C_drewN ?_ _) | (with_reducible refine Kd.C_drew ?_))); (case side4 => exact HC0_1.out); (case side5 => repeat (first | exact (Kd.C_below HR0_2.out HB.out) | (with_reducible refine Kd.C_alloc ?_ _) | (with_reducible refine Kd.C_drewN ?_ _) | (with_reducible refine Kd.C_drew ?_))); (case side6 => exact HC0_2.out); (case side7 => exact GW.below HG.out bs); rintro e w76 ⟨rfl, hb⟩; have n0_ := Aside0.mk (blk_below (bu BK337.out) hb); have n1_ := Aside0.mk (blk_below (bu BK338.out) hb); have n2_ := Aside0.mk (below_step bs hb); clear BK337; clear BK338; clear HB; have BK337 := n0_; have BK338 := n1_; have HB := n2_; clear n0_ n1_ n2_; (try clear hb); (try clear hb2); (try clear hk); (try clear hi); obtain ⟨⟨hcz77_0, hcz77_1, hcz77_2⟩, hfz77_0, hfz77_1, hfz77_2⟩ := blkAll3 BK337) | (go_at_call 13; (with_reducible refine (code_Check.calls k _ _ l0_0 _ _ l0_1 _ _ l0_2 t342 t343 t344 _ ?side1 ?side2 ?side3 ?side4 ?side5 ?side6 A67.out).mono ?_); (case side1 => repeat (first | exact (Kd.C_below HR0_0.out HB.out) | (with_reducible refine Kd.C_alloc ?_ _) | (with_reducible refine Kd.C_drewN ?_ _) | (with_reducible refine Kd.C_drew ?_))); (case side2 => exact HC0_0.out); (case side3 => repeat (first | exact (Kd.C_below HR0_1.out HB.out) | (with_reducible refine Kd.C_alloc ?_ _) | (with_reducible refine Kd.C_drewN ?_ _) | (with_reducible refine Kd.C_drew ?_))); (case side4 => exact HC0_1.out); (case side5 => repeat (first | exact (Kd.C_below HR0_2.out HB.out) | (with_reducible refine Kd.C_alloc ?_ _) | (with_reducible refine Kd.C_drewN ?_ _) | (with_reducible refine Kd.C_drew ?_))); (case side6 => exact HC0_2.out); rintro e w78 ⟨rfl, hb⟩; have n0_ := Aside0.mk (blk_below (bu BK337.out) hb); have n1_ := Aside0.mk (blk_below (bu BK338.out) hb); have n2_ := Aside0.mk (below_step bs hb); clear BK337; clear BK338; clear HB; have BK337 := n0_; have BK338 := n1_; have HB := n2_; clear n0_ n1_ n2_; (try clear hb); (try clear hb2); (try clear hk); (try clear hi)))
  repeat (go_quiet (first | ((with_reducible refine gate_dst (N := 2) rfl ?_); (try (refine gate_guard (by rfl) ?_; dsimp only)); refine box_event ?hg (N := 2) ?hd (cs := #[.slice A0_0 l0_0.length c0_0, .slice A0_1 l0_1.length c0_1, .slice A0_2 l0_2.length c0_2]) (t := 26) ?hr ?_; (case hd => rfl); (case hg => rfl); (case hr => first | (go_simp; done) | (go_simp; rfl)); intro gb337 hg w71 hbox hb; have n0_ := Aside0.mk (below_step bl hb); have n1_ := Aside0.mk (hbox); have n2_ := Aside0.mk ((by rw [hg]; exact (below_size bl) : w.heap.size ≤ gb337)); have n3_ := Aside0.mk ((by rw [hg]; exact (below_size bl) : w.heap.size ≤ gb337)); clear HB; have HB := n0_; have BK337 := n1_; have GW337 := n2_; have GE337 := n3_; clear n0_ n1_ n2_ n3_; clear hb hbox hg) | ((with_reducible refine gate_dst (N := 3) rfl ?_); (try (refine gate_guard (by rfl) ?_; dsimp only)); refine box_event ?hg (N := 3) ?hd (cs := #[.slice A1_0 l1_0.length c1_0, .slice A1_1 l1_1.length c1_1, .slice A1_2 l1_2.length c1_2]) (t := 26) ?hr ?_; (case hd => rfl); (case hg => rfl); (case hr => first | (go_simp; done) | (go_simp; rfl)); intro gb338 hg w72 hbox hb; have n0_ := Aside0.mk (blk_below (bu BK337.out) hb); have n1_ := Aside0.mk (below_step bs hb); have n2_ := Aside0.mk (hbox); have n3_ := Aside0.mk ((by rw [hg]; exact (below_size bs) : w.heap.size ≤ gb338)); have n4_ := Aside0.mk ((by rw [hg]; exact (below_size bs) : w.heap.size ≤ gb338)); have n5_ := Aside0.mk ((by rw [hg]; exact Nat.ne_of_lt (blk_lt (bu BK337.out)) : gb337 ≠ gb338)); have n6_ := Aside0.mk ((by rw [hg]; exact Nat.ne_of_gt (blk_lt (bu BK337.out)) : gb338 ≠ gb337)); clear BK337; clear HB; have BK337 := n0_; have HB := n1_; have BK338 := n2_; have GW338 := n3_; have GE338 := n4_; have NB337_338 := n5_; have NB338_337 := n6_; clear n0_ n1_ n2_ n3_ n4_ n5_ n6_; clear hb hbox hg) | (go_at_call 11; (with_reducible refine (abacuslaw26_awake.calls k  true _ ?side1 A3.out).mono ?_); (case side1 => exact GW.below HG.out bs); rintro e w73 ⟨rfl, hb⟩; have n0_ := Aside0.mk (blk_below (bu BK337.out) hb); have n1_ := Aside0.mk (blk_below (bu BK338.out) hb); have n2_ := Aside0.mk (below_step bs hb); clear BK337; clear BK338; clear HB; have BK337 := n0_; have BK338 := n1_; have HB := n2_; clear n0_ n1_ n2_; (try clear hb); (try clear hb2); (try clear hk); (try clear hi); have hnb74 := NB337_338.out; have hnc74 := NB338_337.out; obtain ⟨⟨hcz75_0, hcz75_1, hcz75_2⟩, hfz75_0, hfz75_1, hfz75_2⟩ := blkAll3 BK337) | (go_at_call 15; (with_reducible refine (code_List.calls k _ _ l0_0 _ _ l0_1 _ _ l0_2 t340 t341 _ ?side1 ?side2 ?side3 ?side4 ?side5 ?side6 ?side7 A5.out).mono ?_); (case side1 => repeat (first | exact (Kd.C_below HR0_0.out HB.out) | (with_reducible refine Kd.C_alloc ?_ _) | (with_reducible refine Kd.C_drewN ?_ _) | (with_reducible refine Kd.C_drew ?_))); (case side2 => exact HC0_0.out); (case side3 => repeat (first | exact (Kd.C_below HR0_1.out HB.out) | (with_reducible refine Kd.C_alloc ?_ _) | (with_reducible refine Kd.C_drewN ?_ _) | (with_reducible refine Kd.C_drew ?_))); (case side4 => exact HC0_1.out); (case side5 => repeat (first | exact (Kd.C_below HR0_2.out HB.out) | (with_reducible refine Kd.C_alloc ?_ _) | (with_reducible refine Kd.C_drewN ?_ _) | (with_reducible refine Kd.C_drew ?_))); (case side6 => exact HC0_2.out); (case side7 => exact GW.below HG.out bs); rintro e w76 ⟨rfl, hb⟩; have n0_ := Aside0.mk (blk_below (bu BK337.out) hb); have n1_ := Aside0.mk (blk_below (bu BK338.out) hb); have n2_ := Aside0.mk (below_step bs hb); clear BK337; clear BK338; clear HB; have BK337 := n0_; have BK338 := n1_; have HB := n2_; clear n0_ n1_ n2_; (try clear hb); (try clear hb2); (try clear hk); (try clear hi); obtain ⟨⟨hcz77_0, hcz77_1, hcz77_2⟩, hfz77_0, hfz77_1, hfz77_2⟩ := blkAll3 BK337) | (go_at_call 13; (with_reducible refine (code_Check.calls k _ _ l0_0 _ _ l0_1 _ _ l0_2 t342 t343 t344 _ ?side1 ?side2 ?side3 ?side4 ?side5 ?side6 A67.out).mono ?_); (case side1 => repeat (first | exact (Kd.C_below HR0_0.out HB.out) | (with_reducible refine Kd.C_alloc ?_ _) | (with_reducible refine Kd.C_drewN ?_ _) | (with_reducible refine Kd.C_drew ?_))); (case side2 => exact HC0_0.out); (case side3 => repeat (first | exact (Kd.C_below HR0_1.out HB.out) | (with_reducible refine Kd.C_alloc ?_ _) | (with_reducible refine Kd.C_drewN ?_ _) | (with_reducible refine Kd.C_drew ?_))); (case side4 => exact HC0_1.out); (case side5 => repeat (first | exact (Kd.C_below HR0_2.out HB.out) | (with_reducible refine Kd.C_alloc ?_ _) | (with_reducible refine Kd.C_drewN ?_ _) | (with_reducible refine Kd.C_drew ?_))); (case side6 => exact HC0_2.out); rintro e w78 ⟨rfl, hb⟩; have n0_ := Aside0.mk (blk_below (bu BK337.out) hb); have n1_ := Aside0.mk (blk_below (bu BK338.out) hb); have n2_ := Aside0.mk (below_step bs hb); clear BK337; clear BK338; clear HB; have BK337 := n0_; have BK338 := n1_; have HB := n2_; clear n0_ n1_ n2_; (try clear hb); (try clear hb2); (try clear hk); (try clear hi))); try go_wp2_with (first | ((with_reducible refine gate_dst (N := 2) rfl ?_); (try (refine gate_guard (by rfl) ?_; dsimp only)); refine box_event ?hg (N := 2) ?hd (cs := #[.slice A0_0 l0_0.length c0_0, .slice A0_1 l0_1.length c0_1, .slice A0_2 l0_2.length c0_2]) (t := 26) ?hr ?_; (case hd => rfl); (case hg => rfl); (case hr => first | (go_simp; done) | (go_simp; rfl)); intro gb337 hg w71 hbox hb; have n0_ := Aside0.mk (below_step bl hb); have n1_ := Aside0.mk (hbox); have n2_ := Aside0.mk ((by rw [hg]; exact (below_size bl) : w.heap.size ≤ gb337)); have n3_ := Aside0.mk ((by rw [hg]; exact (below_size bl) : w.heap.size ≤ gb337)); clear HB; have HB := n0_; have BK337 := n1_; have GW337 := n2_; have GE337 := n3_; clear n0_ n1_ n2_ n3_; clear hb hbox hg) | ((with_reducible refine gate_dst (N := 3) rfl ?_); (try (refine gate_guard (by rfl) ?_; dsimp only)); refine box_event ?hg (N := 3) ?hd (cs := #[.slice A1_0 l1_0.length c1_0, .slice A1_1 l1_1.length c1_1, .slice A1_2 l1_2.length c1_2]) (t := 26) ?hr ?_; (case hd => rfl); (case hg => rfl); (case hr => first | (go_simp; done) | (go_simp; rfl)); intro gb338 hg w72 hbox hb; have n0_ := Aside0.mk (blk_below (bu BK337.out) hb); have n1_ := Aside0.mk (below_step bs hb); have n2_ := Aside0.mk (hbox); have n3_ := Aside0.mk ((by rw [hg]; exact (below_size bs) : w.heap.size ≤ gb338)); have n4_ := Aside0.mk ((by rw [hg]; exact (below_size bs) : w.heap.size ≤ gb338)); have n5_ := Aside0.mk ((by rw [hg]; exact Nat.ne_of_lt (blk_lt (bu BK337.out)) : gb337 ≠ gb338)); have n6_ := Aside0.mk ((by rw [hg]; exact Nat.ne_of_gt (blk_lt (bu BK337.out)) : gb338 ≠ gb337)); clear BK337; clear HB; have BK337 := n0_; have HB := n1_; have BK338 := n2_; have GW338 := n3_; have GE338 := n4_; have NB337_338 := n5_; have NB338_337 := n6_; clear n0_ n1_ n2_ n3_ n4_ n5_ n6_; clear hb hbox hg) | (go_at_call 11; (with_reducible refine (abacuslaw26_awake.calls k  true _ ?side1 A3.out).mono ?_); (case side1 => exact GW.below HG.out bs); rintro e w73 ⟨rfl, hb⟩; have n0_ := Aside0.mk (blk_below (bu BK337.out) hb); have n1_ := Aside0.mk (blk_below (bu BK338.out) hb); have n2_ := Aside0.mk (below_step bs hb); clear BK337; clear BK338; clear HB; have BK337 := n0_; have BK338 := n1_; have HB := n2_; clear n0_ n1_ n2_; (try clear hb); (try clear hb2); (try clear hk); (try clear hi); have hnb74 := NB337_338.out; have hnc74 := NB338_337.out; obtain ⟨⟨hcz75_0, hcz75_1, hcz75_2⟩, hfz75_0, hfz75_1, hfz75_2⟩ := blkAll3 BK337) | (go_at_call 15; (with_reducible refine (code_List.calls k _ _ l0_0 _ _ l0_1 _ _ l0_2 t340 t341 _ ?side1 ?side2 ?side3 ?side4 ?side5 ?side6 ?side7 A5.out).mono ?_); (case side1 => repeat (first | exact (Kd.C_below HR0_0.out HB.out) | (with_reducible refine Kd.C_alloc ?_ _) | (with_reducible refine Kd.C_drewN ?_ _) | (with_reducible refine Kd.C_drew ?_))); (case side2 => exact HC0_0.out); (case side3 => repeat (first | exact (Kd.C_below HR0_1.out HB.out) | (with_reducible refine Kd.C_alloc ?_ _) | (with_reducible refine Kd.C_drewN ?_ _) | (with_reducible refine Kd.C_drew ?_))); (case side4 => exact HC0_1.out); (case side5 => repeat (first | exact (Kd.C_below HR0_2.out HB.out) | (with_reducible refine Kd.C_alloc ?_ _) | (with_reducible refine Kd.C_drewN ?_ _) | (with_reducible refine Kd.C_drew ?_))); (case side6 => exact HC0_2.out); (case side7 => exact GW.below HG.out bs); rintro e w76 ⟨rfl, hb⟩; have n0_ := Aside0.mk (blk_below (bu BK337.out) hb); have n1_ := Aside0.mk (blk_below (bu BK338.out) hb); have n2_ := Aside0.mk (below_step bs hb); clear BK337; clear BK338; clear HB; have BK337 := n0_; have BK338 := n1_; have HB := n2_; clear n0_ n1_ n2_; (try clear hb); (try clear hb2); (try clear hk); (try clear hi); obtain ⟨⟨hcz77_0, hcz77_1, hcz77_2⟩, hfz77_0, hfz77_1, hfz77_2⟩ := blkAll3 BK337) | (go_at_call 13; (with_reducible refine (code_Check.calls k _ _ l0_0 _ _ l0_1 _ _ l0_2 t342 t343 t344 _ ?side1 ?side2 ?side3 ?side4 ?side5 ?side6 A67.out).mono ?_); (case side1 => repeat (first | exact (Kd.C_below HR0_0.out HB.out) | (with_reducible refine Kd.C_alloc ?_ _) | (with_reducible refine Kd.C_drewN ?_ _) | (with_reducible refine Kd.C_drew ?_))); (case side2 => exact HC0_0.out); (case side3 => repeat (first | exact (Kd.C_below HR0_1.out HB.out) | (with_reducible refine Kd.C_alloc ?_ _) | (with_reducible refine Kd.C_drewN ?_ _) | (with_reducible refine Kd.C_drew ?_))); (case side4 => exact HC0_1.out); (case side5 => repeat (first | exact (Kd.C_below HR0_2.out HB.out) | (with_reducible refine Kd.C_alloc ?_ _) | (with_reducible refine Kd.C_drewN ?_ _) | (with_reducible refine Kd.C_drew ?_))); (case side6 => exact HC0_2.out); rintro e w78 ⟨rfl, hb⟩; have n0_ := Aside0.mk (blk_below (bu BK337.out) hb); have n1_ := Aside0.mk (blk_below (bu BK338.out) hb); have n2_ := Aside0.mk (below_step bs hb); clear BK337; clear BK338; clear HB; have BK337 := n0_; have BK338 := n1_; have HB := n2_; clear n0_ n1_ n2_; (try clear hb); (try clear hb2); (try clear hk); (try clear hi))))
  go_ret
  exact ⟨er, bs⟩
 rw [if_neg c70] at H
 have c70b0 : (t344 == 260) = false := beq_eq_false_iff_ne.mpr c70
 have c70b1 : (t344 != 260) = true := bne_iff_ne.mpr c70
 by_cases c79 : t341 = 3
 rotate_left
 ·rw [if_neg c79] at H
  have c79b0 : (t341 == 3) = false := beq_eq_false_iff_ne.mpr c79
  have c79b1 : (t341 != 3) = true := bne_iff_ne.mpr c79
  obtain rfl := Option.some.inj H
  go_enter Tryd.func6, Tryd.ntmps6
  go_wp2_with (first | ((with_reducible refine gate_dst (N := 2) rfl ?_); (try (refine gate_guard (by rfl) ?_; dsimp only)); refine box_event ?hg (N := 2) ?hd (cs := #[.slice A0_0 l0_0.length c0_0, .slice A0_1 l0_1.length c0_1, .slice A0_2 l0_2.length c0_2]) (t := 26) ?hr ?_; (case hd => rfl); (case hg => rfl); (case hr => first | (go_simp; done) | (go_simp; rfl)); intro gb337 hg w88 hbox hb; have n0_ := Aside0.mk (below_step bl hb); have n1_ := Aside0.mk (hbox); have n2_ := Aside0.mk ((by rw [hg]; exact (below_size bl) : w.heap.size ≤ gb337)); have n3_ := Aside0.mk ((by rw [hg]; exact (below_size bl) : w.heap.size ≤ gb337)); clear HB; have HB := n0_; have BK337 := n1_; have GW337 := n2_; have GE337 := n3_; clear n0_ n1_ n2_ n3_; clear hb hbox hg) | ((with_reducible refine gate_dst (N := 3) rfl ?_); (try (refine gate_guard (by rfl) ?_; dsimp only)); refine box_event ?hg (N := 3) ?hd (cs := #[.slice A1_0 l1_0.length c1_0, .slice A1_1 l1_1.length c1_1, .slice A1_2 l1_2.length c1_2]) (t := 26) ?hr ?_; (case hd => rfl); (case hg => rfl); (case hr => first | (go_simp; done) | (go_simp; rfl)); intro gb338 hg w89 hbox hb; have n0_ := Aside0.mk (blk_below (bu BK337.out) hb); have n1_ := Aside0.mk (below_step bs hb); have n2_ := Aside0.mk (hbox); have n3_ := Aside0.mk ((by rw [hg]; exact (below_size bs) : w.heap.size ≤ gb338)); have n4_ := Aside0.mk ((by rw [hg]; exact (below_size bs) : w.heap.size ≤ gb338)); have n5_ := Aside0.mk ((by rw [hg]; exact Nat.ne_of_lt (blk_lt (bu BK337.out)) : gb337 ≠ gb338)); have n6_ := Aside0.mk ((by rw [hg]; exact Nat.ne_of_gt (blk_lt (bu BK337.out)) : gb338 ≠ gb337)); clear BK337; clear HB; have BK337 := n0_; have HB := n1_; have BK338 := n2_; have GW338 := n3_; have GE338 := n4_; have NB337_338 := n5_; have NB338_337 := n6_; clear n0_ n1_ n2_ n3_ n4_ n5_ n6_; clear hb hbox hg) | (go_at_call 11; (with_reducible refine (abacuslaw26_awake.calls k  true _ ?side1 A3.out).mono ?_); (case side1 => exact GW.below HG.out bs); rintro e w90 ⟨rfl, hb⟩; have n0_ := Aside0.mk (blk_below (bu BK337.out) hb); have n1_ := Aside0.mk (blk_below (bu BK338.out) hb); have n2_ := Aside0.mk (below_step bs hb); clear BK337; clear BK338; clear HB; have BK337 := n0_; have BK338 := n1_; have HB := n2_; clear n0_ n1_ n2_; (try clear hb); (try clear hb2); (try clear hk); (try clear hi); have hnb91 := NB337_338.out; have hnc91 := NB338_337.out; obtain ⟨⟨hcz92_0, hcz92_1, hcz92_2⟩, hfz92_0, hfz92_1, hfz92_2⟩ := blkAll3 BK337) | (go_at_call 15; (with_reducible refine (code_List.calls k _ _ l0_0 _ _ l0_1 _ _ l0_2 t340 t341 _ ?side1 ?side2 ?side3 ?side4 ?side5 ?side6 ?side7 A5.out).mono ?_); (case side1 => repeat (first | exact (Kd.C_below HR0_0.out HB.out) | (with_reducible refine Kd.C_alloc ?_ _) | (with_reducible refine Kd.C_drewN ?_ _) | (with_reducible refine Kd.C_drew ?_))); (case side2 => exact HC0_0.out); (case side3 => repeat (first | exact (Kd.C_below HR0_1.out HB.out) | (with_reducible refine Kd.C_alloc ?_ _) | (with_reducible refine Kd.C_drewN ?_ _) | (with_reducible refine Kd.C_drew ?_))); (case side4 => exact HC0_1.out); (case side5 => repeat (first | exact (Kd.C_below HR0_2.out HB.out) | (with_reducible refine Kd.C_alloc ?_ _) | (with_reducible refine Kd.C_drewN ?_ _) | (with_reducible refine Kd.C_drew ?_))); (case side6 => exact HC0_2.out); (case side7 => exact GW.below HG.out bs); rintro e w93 ⟨rfl, hb⟩; have n0_ := Aside0.mk (blk_below (bu BK337.out) hb); have n1_ := Aside0.mk (blk_below (bu BK338.out) hb); have n2_ := Aside0.mk (below_step bs hb); clear BK337; clear BK338; clear HB; have BK337 := n0_; have BK338 := n1_; have HB := n2_; clear n0_ n1_ n2_; (try clear hb); (try clear hb2); (try clear hk); (try clear hi); obtain ⟨⟨hcz94_0, hcz94_1, hcz94_2⟩, hfz94_0, hfz94_1, hfz94_2⟩ := blkAll3 BK337) | (go_at_call 13; (with_reducible refine (code_Check.calls k _ _ l0_0 _ _ l0_1 _ _ l0_2 t342 t343 t344 _ ?side1 ?side2 ?side3 ?side4 ?side5 ?side6 A67.out).mono ?_); (case side1 => repeat (first | exact (Kd.C_below HR0_0.out HB.out) | (with_reducible refine Kd.C_alloc ?_ _) | (with_reducible refine Kd.C_drewN ?_ _) | (with_reducible refine Kd.C_drew ?_))); (case side2 => exact HC0_0.out); (case side3 => repeat (first | exact (Kd.C_below HR0_1.out HB.out) | (with_reducible refine Kd.C_alloc ?_ _) | (with_reducible refine Kd.C_drewN ?_ _) | (with_reducible refine Kd.C_drew ?_))); (case side4 => exact HC0_1.out); (case side5 => repeat (first | exact (Kd.C_below HR0_2.out HB.out) | (with_reducible refine Kd.C_alloc ?_ _) | (with_reducible refine Kd.C_drewN ?_ _) | (with_reducible refine Kd.C_drew ?_))); (case side6 => exact HC0_2.out); rintro e w95 ⟨rfl, hb⟩; have n0_ := Aside0.mk (blk_below (bu BK337.out) hb); have n1_ := Aside0.mk (blk_below (bu BK338.out) hb); have n2_ := Aside0.mk (below_step bs hb); clear BK337; clear BK338; clear HB; have BK337 := n0_; have BK338 := n1_; have HB := n2_; clear n0_ n1_ n2_; (try clear hb); (try clear hb2); (try clear hk); (try clear hi)))
  repeat (go_quiet (first | ((with_reducible refine gate_dst (N := 2) rfl ?_); (try (refine gate_guard (by rfl) ?_; dsimp only)); refine box_event ?hg (N := 2) ?hd (cs := #[.slice A0_0 l0_0.length c0_0, .slice A0_1 l0_1.length c0_1, .slice A0_2 l0_2.length c0_2]) (t := 26) ?hr ?_; (case hd => rfl); (case hg => rfl); (case hr => first | (go_simp; done) | (go_simp; rfl)); intro gb337 hg w88 hbox hb; have n0_ := Aside0.mk (below_step bl hb); have n1_ := Aside0.mk (hbox); have n2_ := Aside0.mk ((by rw [hg]; exact (below_size bl) : w.heap.size ≤ gb337)); have n3_ := Aside0.mk ((by rw [hg]; exact (below_size bl) : w.heap.size ≤ gb337)); clear HB; have HB := n0_; have BK337 := n1_; have GW337 := n2_; have GE337 := n3_; clear n0_ n1_ n2_ n3_; clear hb hbox hg) | ((with_reducible refine gate_dst (N := 3) rfl ?_); (try (refine gate_guard (by rfl) ?_; dsimp only)); refine box_event ?hg (N := 3) ?hd (cs := #[.slice A1_0 l1_0.length c1_0, .slice A1_1 l1_1.length c1_1, .slice A1_2 l1_2.length c1_2]) (t := 26) ?hr ?_; (case hd => rfl); (case hg => rfl); (case hr => first | (go_simp; done) | (go_simp; rfl)); intro gb338 hg w89 hbox hb; have n0_ := Aside0.mk (blk_below (bu BK337.out) hb); have n1_ := Aside0.mk (below_step bs hb); have n2_ := Aside0.mk (hbox); have n3_ := Aside0.mk ((by rw [hg]; exact (below_size bs) : w.heap.size ≤ gb338)); have n4_ := Aside0.mk ((by rw [hg]; exact (below_size bs) : w.heap.size ≤ gb338)); have n5_ := Aside0.mk ((by rw [hg]; exact Nat.ne_of_lt (blk_lt (bu BK337.out)) : gb337 ≠ gb338)); have n6_ := Aside0.mk ((by rw [hg]; exact Nat.ne_of_gt (blk_lt (bu BK337.out)) : gb338 ≠ gb337)); clear BK337; clear HB; have BK337 := n0_; have HB := n1_; have BK338 := n2_; have GW338 := n3_; have GE338 := n4_; have NB337_338 := n5_; have NB338_337 := n6_; clear n0_ n1_ n2_ n3_ n4_ n5_ n6_; clear hb hbox hg) | (go_at_call 11; (with_reducible refine (abacuslaw26_awake.calls k  true _ ?side1 A3.out).mono ?_); (case side1 => exact GW.below HG.out bs); rintro e w90 ⟨rfl, hb⟩; have n0_ := Aside0.mk (blk_below (bu BK337.out) hb); have n1_ := Aside0.mk (blk_below (bu BK338.out) hb); have n2_ := Aside0.mk (below_step bs hb); clear BK337; clear BK338; clear HB; have BK337 := n0_; have BK338 := n1_; have HB := n2_; clear n0_ n1_ n2_; (try clear hb); (try clear hb2); (try clear hk); (try clear hi); have hnb91 := NB337_338.out; have hnc91 := NB338_337.out; obtain ⟨⟨hcz92_0, hcz92_1, hcz92_2⟩, hfz92_0, hfz92_1, hfz92_2⟩ := blkAll3 BK337) | (go_at_call 15; (with_reducible refine (code_List.calls k _ _ l0_0 _ _ l0_1 _ _ l0_2 t340 t341 _ ?side1 ?side2 ?side3 ?side4 ?side5 ?side6 ?side7 A5.out).mono ?_); (case side1 => repeat (first | exact (Kd.C_below HR0_0.out HB.out) | (with_reducible refine Kd.C_alloc ?_ _) | (with_reducible refine Kd.C_drewN ?_ _) | (with_reducible refine Kd.C_drew ?_))); (case side2 => exact HC0_0.out); (case side3 => repeat (first | exact (Kd.C_below HR0_1.out HB.out) | (with_reducible refine Kd.C_alloc ?_ _) | (with_reducible refine Kd.C_drewN ?_ _) | (with_reducible refine Kd.C_drew ?_))); (case side4 => exact HC0_1.out); (case side5 => repeat (first | exact (Kd.C_below HR0_2.out HB.out) | (with_reducible refine Kd.C_alloc ?_ _) | (with_reducible refine Kd.C_drewN ?_ _) | (with_reducible refine Kd.C_drew ?_))); (case side6 => exact HC0_2.out); (case side7 => exact GW.below HG.out bs); rintro e w93 ⟨rfl, hb⟩; have n0_ := Aside0.mk (blk_below (bu BK337.out) hb); have n1_ := Aside0.mk (blk_below (bu BK338.out) hb); have n2_ := Aside0.mk (below_step bs hb); clear BK337; clear BK338; clear HB; have BK337 := n0_; have BK338 := n1_; have HB := n2_; clear n0_ n1_ n2_; (try clear hb); (try clear hb2); (try clear hk); (try clear hi); obtain ⟨⟨hcz94_0, hcz94_1, hcz94_2⟩, hfz94_0, hfz94_1, hfz94_2⟩ := blkAll3 BK337) | (go_at_call 13; (with_reducible refine (code_Check.calls k _ _ l0_0 _ _ l0_1 _ _ l0_2 t342 t343 t344 _ ?side1 ?side2 ?side3 ?side4 ?side5 ?side6 A67.out).mono ?_); (case side1 => repeat (first | exact (Kd.C_below HR0_0.out HB.out) | (with_reducible refine Kd.C_alloc ?_ _) | (with_reducible refine Kd.C_drewN ?_ _) | (with_reducible refine Kd.C_drew ?_))); (case side2 => exact HC0_0.out); (case side3 => repeat (first | exact (Kd.C_below HR0_1.out HB.out) | (with_reducible refine Kd.C_alloc ?_ _) | (with_reducible refine Kd.C_drewN ?_ _) | (with_reducible refine Kd.C_drew ?_))); (case side4 => exact HC0_1.out); (case side5 => repeat (first | exact (Kd.C_below HR0_2.out HB.out) | (with_reducible refine Kd.C_alloc ?_ _) | (with_reducible refine Kd.C_drewN ?_ _) | (with_reducible refine Kd.C_drew ?_))); (case side6 => exact HC0_2.out); rintro e w95 ⟨rfl, hb⟩; have n0_ := Aside0.mk (blk_below (bu BK337.out) hb); have n1_ := Aside0.mk (blk_below (bu BK338.out) hb); have n2_ := Aside0.mk (below_step bs hb); clear BK337; clear BK338; clear HB; have BK337 := n0_; have BK338 := n1_; have HB := n2_; clear n0_ n1_ n2_; (try clear hb); (try clear hb2); (try clear hk); (try clear hi))); try go_wp2_with (first | ((with_reducible refine gate_dst (N := 2) rfl ?_); (try (refine gate_guard (by rfl) ?_; dsimp only)); refine box_event ?hg (N := 2) ?hd (cs := #[.slice A0_0 l0_0.length c0_0, .slice A0_1 l0_1.length c0_1, .slice A0_2 l0_2.length c0_2]) (t := 26) ?hr ?_; (case hd => rfl); (case hg => rfl); (case hr => first | (go_simp; done) | (go_simp; rfl)); intro gb337 hg w88 hbox hb; have n0_ := Aside0.mk (below_step bl hb); have n1_ := Aside0.mk (hbox); have n2_ := Aside0.mk ((by rw [hg]; exact (below_size bl) : w.heap.size ≤ gb337)); have n3_ := Aside0.mk ((by rw [hg]; exact (below_size bl) : w.heap.size ≤ gb337)); clear HB; have HB := n0_; have BK337 := n1_; have GW337 := n2_; have GE337 := n3_; clear n0_ n1_ n2_ n3_; clear hb hbox hg) | ((with_reducible refine gate_dst (N := 3) rfl ?_); (try (refine gate_guard (by rfl) ?_; dsimp only)); refine box_event ?hg (N := 3) ?hd (cs := #[.slice A1_0 l1_0.length c1_0, .slice A1_1 l1_1.length c1_1, .slice A1_2 l1_2.length c1_2]) (t := 26) ?hr ?_; (case hd => rfl); (case hg => rfl); (case hr => first | (go_simp; done) | (go_simp; rfl)); intro gb338 hg w89 hbox hb; have n0_ := Aside0.mk (blk_below (bu BK337.out) hb); have n1_ := Aside0.mk (below_step bs hb); have n2_ := Aside0.mk (hbox); have n3_ := Aside0.mk ((by rw [hg]; exact (below_size bs) : w.heap.size ≤ gb338)); have n4_ := Aside0.mk ((by rw [hg]; exact (below_size bs) : w.heap.size ≤ gb338)); have n5_ := Aside0.mk ((by rw [hg]; exact Nat.ne_of_lt (blk_lt (bu BK337.out)) : gb337 ≠ gb338)); have n6_ := Aside0.mk ((by rw [hg]; exact Nat.ne_of_gt (blk_lt (bu BK337.out)) : gb338 ≠ gb337)); clear BK337; clear HB; have BK337 := n0_; have HB := n1_; have BK338 := n2_; have GW338 := n3_; have GE338 := n4_; have NB337_338 := n5_; have NB338_337 := n6_; clear n0_ n1_ n2_ n3_ n4_ n5_ n6_; clear hb hbox hg) | (go_at_call 11; (with_reducible refine (abacuslaw26_awake.calls k  true _ ?side1 A3.out).mono ?_); (case side1 => exact GW.below HG.out bs); rintro e w90 ⟨rfl, hb⟩; have n0_ := Aside0.mk (blk_below (bu BK337.out) hb); have n1_ := Aside0.mk (blk_below (bu BK338.out) hb); have n2_ := Aside0.mk (below_step bs hb); clear BK337; clear BK338; clear HB; have BK337 := n0_; have BK338 := n1_; have HB := n2_; clear n0_ n1_ n2_; (try clear hb); (try clear hb2); (try clear hk); (try clear hi); have hnb91 := NB337_338.out; have hnc91 := NB338_337.out; obtain ⟨⟨hcz92_0, hcz92_1, hcz92_2⟩, hfz92_0, hfz92_1, hfz92_2⟩ := blkAll3 BK337) | (go_at_call 15; (with_reducible refine (code_List.calls k _ _ l0_0 _ _ l0_1 _ _ l0_2 t340 t341 _ ?side1 ?side2 ?side3 ?side4 ?side5 ?side6 ?side7 A5.out).mono ?_); (case side1 => repeat (first | exact (Kd.C_below HR0_0.out HB.out) | (with_reducible refine Kd.C_alloc ?_ _) | (with_reducible refine Kd.C_drewN ?_ _) | (with_reducible refine Kd.C_drew ?_))); (case side2 => exact HC0_0.out); (case side3 => repeat (first | exact (Kd.C_below HR0_1.out HB.out) | (with_reducible refine Kd.C_alloc ?_ _) | (with_reducible refine Kd.C_drewN ?_ _) | (with_reducible refine Kd.C_drew ?_))); (case side4 => exact HC0_1.out); (case side5 => repeat (first | exact (Kd.C_below HR0_2.out HB.out) | (with_reducible refine Kd.C_alloc ?_ _) | (with_reducible refine Kd.C_drewN ?_ _) | (with_reducible refine Kd.C_drew ?_))); (case side6 => exact HC0_2.out); (case side7 => exact GW.below HG.out bs); rintro e w93 ⟨rfl, hb⟩; have n0_ := Aside0.mk (blk_below (bu BK337.out) hb); have n1_ := Aside0.mk (blk_below (bu BK338.out) hb); have n2_ := Aside0.mk (below_step bs hb); clear BK337; clear BK338; clear HB; have BK337 := n0_; have BK338 := n1_; have HB := n2_; clear n0_ n1_ n2_; (try clear hb); (try clear hb2); (try clear hk); (try clear hi); obtain ⟨⟨hcz94_0, hcz94_1, hcz94_2⟩, hfz94_0, hfz94_1, hfz94_2⟩ := blkAll3 BK337) | (go_at_call 13; (with_reducible refine (code_Check.calls k _ _ l0_0 _ _ l0_1 _ _ l0_2 t342 t343 t344 _ ?side1 ?side2 ?side3 ?side4 ?side5 ?side6 A67.out).mono ?_); (case side1 => repeat (first | exact (Kd.C_below HR0_0.out HB.out) | (with_reducible refine Kd.C_alloc ?_ _) | (with_reducible refine Kd.C_drewN ?_ _) | (with_reducible refine Kd.C_drew ?_))); (case side2 => exact HC0_0.out); (case side3 => repeat (first | exact (Kd.C_below HR0_1.out HB.out) | (with_reducible refine Kd.C_alloc ?_ _) | (with_reducible refine Kd.C_drewN ?_ _) | (with_reducible refine Kd.C_drew ?_))); (case side4 => exact HC0_1.out); (case side5 => repeat (first | exact (Kd.C_below HR0_2.out HB.out) | (with_reducible refine Kd.C_alloc ?_ _) | (with_reducible refine Kd.C_drewN ?_ _) | (with_reducible refine Kd.C_drew ?_))); (case side6 => exact HC0_2.out); rintro e w95 ⟨rfl, hb⟩; have n0_ := Aside0.mk (blk_below (bu BK337.out) hb); have n1_ := Aside0.mk (blk_below (bu BK338.out) hb); have n2_ := Aside0.mk (below_step bs hb); clear BK337; clear BK338; clear HB; have BK337 := n0_; have BK338 := n1_; have HB := n2_; clear n0_ n1_ n2_; (try clear hb); (try clear hb2); (try clear hk); (try clear hi))))
  go_ret
  exact ⟨er, bs⟩
 rw [if_pos c79] at H
 have c79b0 : (t341 == 3) = true := beq_iff_eq.mpr c79
 have c79b1 : (t341 != 3) = false := bne_eq_false_iff_eq.mpr c79
 clear c79
 obtain rfl := Option.some.inj H
 go_enter Tryd.func6, Tryd.ntmps6
 go_wp2_with (first | ((with_reducible refine gate_dst (N := 2) rfl ?_); (try (refine gate_guard (by rfl) ?_; dsimp only)); refine box_event ?hg (N := 2) ?hd (cs := #[.slice A0_0 l0_0.length c0_0, .slice A0_1 l0_1.length c0_1, .slice A0_2 l0_2.length c0_2]) (t := 26) ?hr ?_; (case hd => rfl); (case hg => rfl); (case hr => first | (go_simp; done) | (go_simp; rfl)); intro gb337 hg w80 hbox hb; have n0_ := Aside0.mk (below_step bl hb); have n1_ := Aside0.mk (hbox); have n2_ := Aside0.mk ((by rw [hg]; exact (below_size bl) : w.heap.size ≤ gb337)); have n3_ := Aside0.mk ((by rw [hg]; exact (below_size bl) : w.heap.size ≤ gb337)); clear HB; have HB := n0_; have BK337 := n1_; have GW337 := n2_; have GE337 := n3_; clear n0_ n1_ n2_ n3_; clear hb hbox hg) | ((with_reducible refine gate_dst (N := 3) rfl ?_); (try (refine gate_guard (by rfl) ?_; dsimp only)); refine box_event ?hg (N := 3) ?hd (cs := #[.slice A1_0 l1_0.length c1_0, .slice A1_1 l1_1.length c1_1, .slice A1_2 l1_2.length c1_2]) (t := 26) ?hr ?_; (case hd => rfl); (case hg => rfl); (case hr => first | (go_simp; done) | (go_simp; rfl)); intro gb338 hg w81 hbox hb; have n0_ := Aside0.mk (blk_below (bu BK337.out) hb); have n1_ := Aside0.mk (below_step bs hb); have n2_ := Aside0.mk (hbox); have n3_ := Aside0.mk ((by rw [hg]; exact (below_size bs) : w.heap.size ≤ gb338)); have n4_ := Aside0.mk ((by rw [hg]; exact (below_size bs) : w.heap.size ≤ gb338)); have n5_ := Aside0.mk ((by rw [hg]; exact Nat.ne_of_lt (blk_lt (bu BK337.out)) : gb337 ≠ gb338)); have n6_ := Aside0.mk ((by rw [hg]; exact Nat.ne_of_gt (blk_lt (bu BK337.out)) : gb338 ≠ gb337)); clear BK337; clear HB; have BK337 := n0_; have HB := n1_; have BK338 := n2_; have GW338 := n3_; have GE338 := n4_; have NB337_338 := n5_; have NB338_337 := n6_; clear n0_ n1_ n2_ n3_ n4_ n5_ n6_; clear hb hbox hg) | (go_at_call 11; (with_reducible refine (abacuslaw26_awake.calls k  true _ ?side1 A3.out).mono ?_); (case side1 => exact GW.below HG.out bs); rintro e w82 ⟨rfl, hb⟩; have n0_ := Aside0.mk (blk_below (bu BK337.out) hb); have n1_ := Aside0.mk (blk_below (bu BK338.out) hb); have n2_ := Aside0.mk (below_step bs hb); clear BK337; clear BK338; clear HB; have BK337 := n0_; have BK338 := n1_; have HB := n2_; clear n0_ n1_ n2_; (try clear hb); (try clear hb2); (try clear hk); (try clear hi); have hnb83 := NB337_338.out; have hnc83 := NB338_337.out; obtain ⟨⟨hcz84_0, hcz84_1, hcz84_2⟩, hfz84_0, hfz84_1, hfz84_2⟩ := blkAll3 BK337) | (go_at_call 15; (with_reducible refine (code_List.calls k _ _ l0_0 _ _ l0_1 _ _ l0_2 t340 t341 _ ?side1 ?side2 ?side3 ?side4 ?side5 ?side6 ?side7 A5.out).mono ?_); (case side1 => repeat (first | exact (Kd.C_below HR0_0.out HB.out) | (with_reducible refine Kd.C_alloc ?_ _) | (with_reducible refine Kd.C_drewN ?_ _) | (with_reducible refine Kd.C_drew ?_))); (case side2 => exact HC0_0.out); (case side3 => repeat (first | exact (Kd.C_below HR0_1.out HB.out) | (with_reducible refine Kd.C_alloc ?_ _) | (with_reducible refine Kd.C_drewN ?_ _) | (with_reducible refine Kd.C_drew ?_))); (case side4 => exact HC0_1.out); (case side5 => repeat (first | exact (Kd.C_below HR0_2.out HB.out) | (with_reducible refine Kd.C_alloc ?_ _) | (with_reducible refine Kd.C_drewN ?_ _) | (with_reducible refine Kd.C_drew ?_))); (case side6 => exact HC0_2.out); (case side7 => exact GW.below HG.out bs); rintro e w85 ⟨rfl, hb⟩; have n0_ := Aside0.mk (blk_below (bu BK337.out) hb); have n1_ := Aside0.mk (blk_below (bu BK338.out) hb); have n2_ := Aside0.mk (below_step bs hb); clear BK337; clear BK338; clear HB; have BK337 := n0_; have BK338 := n1_; have HB := n2_; clear n0_ n1_ n2_; (try clear hb); (try clear hb2); (try clear hk); (try clear hi); obtain ⟨⟨hcz86_0, hcz86_1, hcz86_2⟩, hfz86_0, hfz86_1, hfz86_2⟩ := blkAll3 BK337) | (go_at_call 13; (with_reducible refine (code_Check.calls k _ _ l0_0 _ _ l0_1 _ _ l0_2 t342 t343 t344 _ ?side1 ?side2 ?side3 ?side4 ?side5 ?side6 A67.out).mono ?_); (case side1 => repeat (first | exact (Kd.C_below HR0_0.out HB.out) | (with_reducible refine Kd.C_alloc ?_ _) | (with_reducible refine Kd.C_drewN ?_ _) | (with_reducible refine Kd.C_drew ?_))); (case side2 => exact HC0_0.out); (case side3 => repeat (first | exact (Kd.C_below HR0_1.out HB.out) | (with_reducible refine Kd.C_alloc ?_ _) | (with_reducible refine Kd.C_drewN ?_ _) | (with_reducible refine Kd.C_drew ?_))); (case side4 => exact HC0_1.out); (case side5 => repeat (first | exact (Kd.C_below HR0_2.out HB.out) | (with_reducible refine Kd.C_alloc ?_ _) | (with_reducible refine Kd.C_drewN ?_ _) | (with_reducible refine Kd.C_drew ?_))); (case side6 => exact HC0_2.out); rintro e w87 ⟨rfl, hb⟩; have n0_ := Aside0.mk (blk_below (bu BK337.out) hb); have n1_ := Aside0.mk (blk_below (bu BK338.out) hb); have n2_ := Aside0.mk (below_step bs hb); clear BK337; clear BK338; clear HB; have BK337 := n0_; have BK338 := n1_; have HB := n2_; clear n0_ n1_ n2_; (try clear hb); (try clear hb2); (try clear hk); (try clear hi)))
 repeat (go_quiet (first | ((with_reducible refine gate_dst (N := 2) rfl ?_); (try (refine gate_guard (by rfl) ?_; dsimp only)); refine box_event ?hg (N := 2) ?hd (cs := #[.slice A0_0 l0_0.length c0_0, .slice A0_1 l0_1.length c0_1, .slice A0_2 l0_2.length c0_2]) (t := 26) ?hr ?_; (case hd => rfl); (case hg => rfl); (case hr => first | (go_simp; done) | (go_simp; rfl)); intro gb337 hg w80 hbox hb; have n0_ := Aside0.mk (below_step bl hb); have n1_ := Aside0.mk (hbox); have n2_ := Aside0.mk ((by rw [hg]; exact (below_size bl) : w.heap.size ≤ gb337)); have n3_ := Aside0.mk ((by rw [hg]; exact (below_size bl) : w.heap.size ≤ gb337)); clear HB; have HB := n0_; have BK337 := n1_; have GW337 := n2_; have GE337 := n3_; clear n0_ n1_ n2_ n3_; clear hb hbox hg) | ((with_reducible refine gate_dst (N := 3) rfl ?_); (try (refine gate_guard (by rfl) ?_; dsimp only)); refine box_event ?hg (N := 3) ?hd (cs := #[.slice A1_0 l1_0.length c1_0, .slice A1_1 l1_1.length c1_1, .slice A1_2 l1_2.length c1_2]) (t := 26) ?hr ?_; (case hd => rfl); (case hg => rfl); (case hr => first | (go_simp; done) | (go_simp; rfl)); intro gb338 hg w81 hbox hb; have n0_ := Aside0.mk (blk_below (bu BK337.out) hb); have n1_ := Aside0.mk (below_step bs hb); have n2_ := Aside0.mk (hbox); have n3_ := Aside0.mk ((by rw [hg]; exact (below_size bs) : w.heap.size ≤ gb338)); have n4_ := Aside0.mk ((by rw [hg]; exact (below_size bs) : w.heap.size ≤ gb338)); have n5_ := Aside0.mk ((by rw [hg]; exact Nat.ne_of_lt (blk_lt (bu BK337.out)) : gb337 ≠ gb338)); have n6_ := Aside0.mk ((by rw [hg]; exact Nat.ne_of_gt (blk_lt (bu BK337.out)) : gb338 ≠ gb337)); clear BK337; clear HB; have BK337 := n0_; have HB := n1_; have BK338 := n2_; have GW338 := n3_; have GE338 := n4_; have NB337_338 := n5_; have NB338_337 := n6_; clear n0_ n1_ n2_ n3_ n4_ n5_ n6_; clear hb hbox hg) | (go_at_call 11; (with_reducible refine (abacuslaw26_awake.calls k  true _ ?side1 A3.out).mono ?_); (case side1 => exact GW.below HG.out bs); rintro e w82 ⟨rfl, hb⟩; have n0_ := Aside0.mk (blk_below (bu BK337.out) hb); have n1_ := Aside0.mk (blk_below (bu BK338.out) hb); have n2_ := Aside0.mk (below_step bs hb); clear BK337; clear BK338; clear HB; have BK337 := n0_; have BK338 := n1_; have HB := n2_; clear n0_ n1_ n2_; (try clear hb); (try clear hb2); (try clear hk); (try clear hi); have hnb83 := NB337_338.out; have hnc83 := NB338_337.out; obtain ⟨⟨hcz84_0, hcz84_1, hcz84_2⟩, hfz84_0, hfz84_1, hfz84_2⟩ := blkAll3 BK337) | (go_at_call 15; (with_reducible refine (code_List.calls k _ _ l0_0 _ _ l0_1 _ _ l0_2 t340 t341 _ ?side1 ?side2 ?side3 ?side4 ?side5 ?side6 ?side7 A5.out).mono ?_); (case side1 => repeat (first | exact (Kd.C_below HR0_0.out HB.out) | (with_reducible refine Kd.C_alloc ?_ _) | (with_reducible refine Kd.C_drewN ?_ _) | (with_reducible refine Kd.C_drew ?_))); (case side2 => exact HC0_0.out); (case side3 => repeat (first | exact (Kd.C_below HR0_1.out HB.out) | (with_reducible refine Kd.C_alloc ?_ _) | (with_reducible refine Kd.C_drewN ?_ _) | (with_reducible refine Kd.C_drew ?_))); (case side4 => exact HC0_1.out); (case side5 => repeat (first | exact (Kd.C_below HR0_2.out HB.out) | (with_reducible refine Kd.C_alloc ?_ _) | (with_reducible refine Kd.C_drewN ?_ _) | (with_reducible refine Kd.C_drew ?_))); (case side6 => exact HC0_2.out); (case side7 => exact GW.below HG.out bs); rintro e w85 ⟨rfl, hb⟩; have n0_ := Aside0.mk (blk_below (bu BK337.out) hb); have n1_ := Aside0.mk (blk_below (bu BK338.out) hb); have n2_ := Aside0.mk (below_step bs hb); clear BK337; clear BK338; clear HB; have BK337 := n0_; have BK338 := n1_; have HB := n2_; clear n0_ n1_ n2_; (try clear hb); (try clear hb2); (try clear hk); (try clear hi); obtain ⟨⟨hcz86_0, hcz86_1, hcz86_2⟩, hfz86_0, hfz86_1, hfz86_2⟩ := blkAll3 BK337) | (go_at_call 13; (with_reducible refine (code_Check.calls k _ _ l0_0 _ _ l0_1 _ _ l0_2 t342 t343 t344 _ ?side1 ?side2 ?side3 ?side4 ?side5 ?side6 A67.out).mono ?_); (case side1 => repeat (first | exact (Kd.C_below HR0_0.out HB.out) | (with_reducible refine Kd.C_alloc ?_ _) | (with_reducible refine Kd.C_drewN ?_ _) | (with_reducible refine Kd.C_drew ?_))); (case side2 => exact HC0_0.out); (case side3 => repeat (first | exact (Kd.C_below HR0_1.out HB.out) | (with_reducible refine Kd.C_alloc ?_ _) | (with_reducible refine Kd.C_drewN ?_ _) | (with_reducible refine Kd.C_drew ?_))); (case side4 => exact HC0_1.out); (case side5 => repeat (first | exact (Kd.C_below HR0_2.out HB.out) | (with_reducible refine Kd.C_alloc ?_ _) | (with_reducible refine Kd.C_drewN ?_ _) | (with_reducible refine Kd.C_drew ?_))); (case side6 => exact HC0_2.out); rintro e w87 ⟨rfl, hb⟩; have n0_ := Aside0.mk (blk_below (bu BK337.out) hb); have n1_ := Aside0.mk (blk_below (bu BK338.out) hb); have n2_ := Aside0.mk (below_step bs hb); clear BK337; clear BK338; clear HB; have BK337 := n0_; have BK338 := n1_; have HB := n2_; clear n0_ n1_ n2_; (try clear hb); (try clear hb2); (try clear hk); (try clear hi))); try go_wp2_with (first | ((with_reducible refine gate_dst (N := 2) rfl ?_); (try (refine gate_guard (by rfl) ?_; dsimp only)); refine box_event ?hg (N := 2) ?hd (cs := #[.slice A0_0 l0_0.length c0_0, .slice A0_1 l0_1.length c0_1, .slice A0_2 l0_2.length c0_2]) (t := 26) ?hr ?_; (case hd => rfl); (case hg => rfl); (case hr => first | (go_simp; done) | (go_simp; rfl)); intro gb337 hg w80 hbox hb; have n0_ := Aside0.mk (below_step bl hb); have n1_ := Aside0.mk (hbox); have n2_ := Aside0.mk ((by rw [hg]; exact (below_size bl) : w.heap.size ≤ gb337)); have n3_ := Aside0.mk ((by rw [hg]; exact (below_size bl) : w.heap.size ≤ gb337)); clear HB; have HB := n0_; have BK337 := n1_; have GW337 := n2_; have GE337 := n3_; clear n0_ n1_ n2_ n3_; clear hb hbox hg) | ((with_reducible refine gate_dst (N := 3) rfl ?_); (try (refine gate_guard (by rfl) ?_; dsimp only)); refine box_event ?hg (N := 3) ?hd (cs := #[.slice A1_0 l1_0.length c1_0, .slice A1_1 l1_1.length c1_1, .slice A1_2 l1_2.length c1_2]) (t := 26) ?hr ?_; (case hd => rfl); (case hg => rfl); (case hr => first | (go_simp; done) | (go_simp; rfl)); intro gb338 hg w81 hbox hb; have n0_ := Aside0.mk (blk_below (bu BK337.out) hb); have n1_ := Aside0.mk (below_step bs hb); have n2_ := Aside0.mk (hbox); have n3_ := Aside0.mk ((by rw [hg]; exact (below_size bs) : w.heap.size ≤ gb338)); have n4_ := Aside0.mk ((by rw [hg]; exact (below_size bs) : w.heap.size ≤ gb338)); have n5_ := Aside0.mk ((by rw [hg]; exact Nat.ne_of_lt (blk_lt (bu BK337.out)) : gb337 ≠ gb338)); have n6_ := Aside0.mk ((by rw [hg]; exact Nat.ne_of_gt (blk_lt (bu BK337.out)) : gb338 ≠ gb337)); clear BK337; clear HB; have BK337 := n0_; have HB := n1_; have BK338 := n2_; have GW338 := n3_; have GE338 := n4_; have NB337_338 := n5_; have NB338_337 := n6_; clear n0_ n1_ n2_ n3_ n4_ n5_ n6_; clear hb hbox hg) | (go_at_call 11; (with_reducible refine (abacuslaw26_awake.calls k  true _ ?side1 A3.out).mono ?_); (case side1 => exact GW.below HG.out bs); rintro e w82 ⟨rfl, hb⟩; have n0_ := Aside0.mk (blk_below (bu BK337.out) hb); have n1_ := Aside0.mk (blk_below (bu BK338.out) hb); have n2_ := Aside0.mk (below_step bs hb); clear BK337; clear BK338; clear HB; have BK337 := n0_; have BK338 := n1_; have HB := n2_; clear n0_ n1_ n2_; (try clear hb); (try clear hb2); (try clear hk); (try clear hi); have hnb83 := NB337_338.out; have hnc83 := NB338_337.out; obtain ⟨⟨hcz84_0, hcz84_1, hcz84_2⟩, hfz84_0, hfz84_1, hfz84_2⟩ := blkAll3 BK337) | (go_at_call 15; (with_reducible refine (code_List.calls k _ _ l0_0 _ _ l0_1 _ _ l0_2 t340 t341 _ ?side1 ?side2 ?side3 ?side4 ?side5 ?side6 ?side7 A5.out).mono ?_); (case side1 => repeat (first | exact (Kd.C_below HR0_0.out HB.out) | (with_reducible refine Kd.C_alloc ?_ _) | (with_reducible refine Kd.C_drewN ?_ _) | (with_reducible refine Kd.C_drew ?_))); (case side2 => exact HC0_0.out); (case side3 => repeat (first | exact (Kd.C_below HR0_1.out HB.out) | (with_reducible refine Kd.C_alloc ?_ _) | (with_reducible refine Kd.C_drewN ?_ _) | (with_reducible refine Kd.C_drew ?_))); (case side4 => exact HC0_1.out); (case side5 => repeat (first | exact (Kd.C_below HR0_2.out HB.out) | (with_reducible refine Kd.C_alloc ?_ _) | (with_reducible refine Kd.C_drewN ?_ _) | (with_reducible refine Kd.C_drew ?_))); (case side6 => exact HC0_2.out); (case side7 => exact GW.below HG.out bs); rintro e w85 ⟨rfl, hb⟩; have n0_ := Aside0.mk (blk_below (bu BK337.out) hb); have n1_ := Aside0.mk (blk_below (bu BK338.out) hb); have n2_ := Aside0.mk (below_step bs hb); clear BK337; clear BK338; clear HB; have BK337 := n0_; have BK338 := n1_; have HB := n2_; clear n0_ n1_ n2_; (try clear hb); (try clear hb2); (try clear hk); (try clear hi); obtain ⟨⟨hcz86_0, hcz86_1, hcz86_2⟩, hfz86_0, hfz86_1, hfz86_2⟩ := blkAll3 BK337) | (go_at_call 13; (with_reducible refine (code_Check.calls k _ _ l0_0 _ _ l0_1 _ _ l0_2 t342 t343 t344 _ ?side1 ?side2 ?side3 ?side4 ?side5 ?side6 A67.out).mono ?_); (case side1 => repeat (first | exact (Kd.C_below HR0_0.out HB.out) | (with_reducible refine Kd.C_alloc ?_ _) | (with_reducible refine Kd.C_drewN ?_ _) | (with_reducible refine Kd.C_drew ?_))); (case side2 => exact HC0_0.out); (case side3 => repeat (first | exact (Kd.C_below HR0_1.out HB.out) | (with_reducible refine Kd.C_alloc ?_ _) | (with_reducible refine Kd.C_drewN ?_ _) | (with_reducible refine Kd.C_drew ?_))); (case side4 => exact HC0_1.out); (case side5 => repeat (first | exact (Kd.C_below HR0_2.out HB.out) | (with_reducible refine Kd.C_alloc ?_ _) | (with_reducible refine Kd.C_drewN ?_ _) | (with_reducible refine Kd.C_drew ?_))); (case side6 => exact HC0_2.out); rintro e w87 ⟨rfl, hb⟩; have n0_ := Aside0.mk (blk_below (bu BK337.out) hb); have n1_ := Aside0.mk (blk_below (bu BK338.out) hb); have n2_ := Aside0.mk (below_step bs hb); clear BK337; clear BK338; clear HB; have BK337 := n0_; have BK338 := n1_; have HB := n2_; clear n0_ n1_ n2_; (try clear hb); (try clear hb2); (try clear hk); (try clear hi))))
 go_ret
 exact ⟨er, bs⟩
end Go.Proofs.YtdkejcadoepnnaaDoor.ECc
