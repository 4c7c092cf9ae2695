/-
  A text of this session's own.
-/
import Derived.Test.YtdeannaaafffbaaDoorKeECdx0
import Derived.Test.YtdeannaaafffbaaDoorKeECdx5
import Derived.Test.YtdeannaaafffbaaDoorKeX
set_option linter.unusedSimpArgs false
namespace Go.Proofs.YtdeannaaafffbaaDoor.ECd
open Go.RowKit Go.Proofs.YtdeannaaafffbaaDoorW.PrintWords Go.Proofs.YtdeannaaafffbaaDoorW.PrintLast Go.Proofs.YtdeannaaafffbaaDoorW.PrintMore
attribute [local go_sem] max2_int min2_int max_two min_two max_three min_three max_four min_four   -- for this text's walks alone
set_option linter.unusedVariables false
set_option linter.unusedSimpArgs false
open Go.Proofs.YtdeannaaafffbaaDoor.X
def chars_Cat.f (k : Nat) (l0 : List ByteArray) : Option (ByteArray × Int) := (chars_Join.f k l0 (⟨#[]⟩ : ByteArray)).bind fun bt123 => (some (bt123.1, bt123.2))
set_option maxHeartbeats 8000000 in
set_option maxRecDepth 100000 in
theorem chars_Cat.calls (k : Nat) (A0 : Option Addr) (c0 : Nat) (l0 : List ByteArray) (r1 : ByteArray) (r2 : Int) (w : World) (hr0 : Kd.C Kd.string w A0 l0.length l0) (hc0 : l0.length ≤ c0) (hG : GW w) (h : chars_Cat.f k l0 = some (r1, r2)) :
    Calls Tryd.prog 14 #[.slice A0 l0.length c0] w fun e w' => e = .returned (.tuple #[.string r1, .int .i64 r2]) ∧ Below w.heap.size w w' := by
  have HR0 := Aside0.mk hr0
  have HC0 := Aside0.mk hc0
  clear hr0 hc0
  have HB := Aside0.mk (Below.refl w.heap.size w)
  have HG := Aside0.mk hG
  clear hG
  have H : ((chars_Join.f k l0 (⟨#[]⟩ : ByteArray)).bind fun bt123 => (some (bt123.1, bt123.2))) = some (r1, r2) := h
  clear h
  replace H := Option.bind_eq_some_iff.mp H
  obtain ⟨⟨t123, t124⟩, A20, H⟩ := H
  replace H : (some (t123, t124)) = some (r1, r2) := H
  have A2 := Aside0.mk A20
  clear A20
  simp only [Option.some.injEq, Prod.mk.injEq] at H
  obtain ⟨rfl, rfl⟩ := H
  go_enter Tryd.func14, Tryd.ntmps14
  go_wp2_with (first | ((with_reducible refine gate_callee (f := 13) rfl ?_); refine goesL_ (some 5) rfl rfl Tryd.func13 (by kernel_rfl) rfl #[.slice A0 l0.length c0, .string (⟨#[]⟩ : ByteArray)] rfl (by (try simp only [List.map_toArray, List.map_cons, List.map_nil]); first | done | rfl | (simp only [List.length_drop, List.length_take]; rfl)) ?_; (with_reducible refine (chars_Join.calls k _ _ l0 (⟨#[]⟩ : ByteArray) t123 t124 _ ?side1 ?side2 ?side3 A2.out).mono ?_); (case side1 => repeat (first | exact HR0.out | (with_reducible refine Kd.C_alloc ?_ _) | (with_reducible refine Kd.C_drewN ?_ _) | (with_reducible refine Kd.C_drew ?_))); (case side2 => exact HC0.out); (case side3 => exact GW.below HG.out (by repeat (first | (with_reducible first | exact HB.out | apply below_alloc | apply pw_below_drewN | apply below_drew1) | exact HB.out))); rintro e w3 ⟨rfl, hb⟩; refine ⟨_, rfl, ?_⟩; have n0_ := Aside0.mk (below_step (by repeat (first | (with_reducible first | exact HB.out | apply below_alloc | apply pw_below_drewN | apply below_drew1) | exact HB.out)) hb); clear HB; have HB := n0_; clear n0_; (try clear hb); (try clear hb2); (try clear hk); (try clear hi)))
  go_ret2
  exact ⟨by first | rfl | (simp [errW_none, errW_some] <;> rfl) | (simp [*, errW_none, errW_some] <;> rfl), by repeat (first | (with_reducible first | exact HB.out | apply below_alloc | apply pw_below_drewN | apply below_drew1) | exact HB.out)⟩
end Go.Proofs.YtdeannaaafffbaaDoor.ECd
