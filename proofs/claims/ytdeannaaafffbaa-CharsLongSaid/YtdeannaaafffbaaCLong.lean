/-
  CharsLong: the closed sentence answers true. Conditions: none but the form's own.
-/
import Derived.Test.YtdeannaaafffbaaRows
import Derived.Test.YtdeannaaafffbaaOpenA
import Derived.Test.YtdeannaaafffbaaPt
import Derived.WalkKit
import Derived.ProofKit
import Derived.OpenShut
import Derived.ShutString
import Derived.ChangeOld
import Derived.Below
import Derived.SizedLaws
import Derived.Carry
import Derived.Deep.DeepHandedRow
import Derived.Lay
import Derived.LaidOnce
set_option linter.unusedVariables false
namespace Go.Proofs.Ytdeannaaafffbaa.CLong
open Go.ChangeShapes Go.WideShapes Go.ChangeAt Go.RowKit Go.Proofs.YtdeannaaafffbaaW.PrintWords Go.Proofs.Ytdeannaaafffbaa.Open
open Go.ChangeMaps (open_string shut_string)
theorem own : ownKnob Try.prog.godebug = none := by kernel_rfl
theorem laidOut : laidOutB Try.prog = true := by kernel_rfl
theorem sum_ge {α : Type} (m : α → Nat) : ∀ (l : List α) (a : α), a ∈ l → m a ≤ (l.map m).sum
  | [], _, h => by cases h
  | b :: l, a, h => by
    rw [List.map_cons, List.sum_cons]
    rcases List.mem_cons.1 h with rfl | h
    · omega
    · have := sum_ge m l a h
      omega
theorem len_le {α : Type} (m : α → Nat) (h1 : ∀ a, 1 ≤ m a) : ∀ (l : List α), l.length ≤ (l.map m).sum
  | [] => Nat.le_refl _
  | b :: l => by
    have := len_le m h1 l
    have := h1 b
    rw [List.map_cons, List.sum_cons, List.length_cons]
    omega
set_option maxRecDepth 100000 in
theorem contract (H : Type) (enc : TypeId × Value → H) (W : World) (base : Nat) (args : Array Value) (ds gs : List (DataW H)) (before : List MemPlace)
    (hval : ∀ (j : Nat) t v, Try.f5.params[j]? = some t → args[j]? = some v → Value.okWide Try.prog W .any base t v)
    (hW : DataW.Whole enc Try.prog Try.f5.params.toList Rows.charsLongSpec.vars false W args.toList ds gs before)
    (hsh : W.ShapedOpen Try.prog)
    :
    Calls Try.prog 5 args W fun e W' => ∃ v, e = .returned v ∧ Rows.charsLongSpec.post enc Try.prog Try.f5 false true false false W args v W' := by
  have hW' := hW
  obtain ⟨p, q, hA0, hV, rfl, hfz, hnd⟩ := hW
  have hA : DataW.TrodAll enc Try.prog W 0 (fun _ => true) true Try.f5.params.toList args.toList ds p := hA0
  rw [Try.params5] at hA
  obtain ⟨hv, rfl, rfl⟩ := trodAll_nil hA
  have hne : args = #[] := Array.ext' hv
  subst hne
  obtain ⟨rfl, rfl⟩ := trodVars_none hV
  obtain ⟨k, hk'⟩ := Pl.charsLong_true.some
  refine (ECh.abacuslaw20_CharsLong.calls k W (Try.laysM143.s1_3 W hsh) hk').mono fun e W' ⟨he, bel⟩ => ?_
  subst he
  exact ⟨_, rfl, _, _, _, [], _, [], hW', trodAll_mk1 (shut_bool Try.underlying4 _), trodAll_mk0, rfl, bel.frame _, fun h => by cases h⟩

noncomputable def w0 (os : Os) : World := World.laidAll Try.prog os Rows.charsLongRow.laid
theorem laid_met (os : Os) : laidMet Try.prog Rows.charsLongRow.laid ((w0 os).forCall (fun _ _ => 0) ⟨#[], #[], []⟩).memory :=
  laidMet_laidAll _ (by kernel_rfl) (by kernel_rfl)
theorem reads (os : Os) {H : Type} (enc : TypeId × Value → H) : ∃ places, DataW.whole enc Try.prog ((w0 os).forCall (fun _ _ => 0) ⟨#[], #[], []⟩).memory Try.f5.params.toList Rows.charsLongSpec.vars false (#[] : Array Value).toList 8 = some ([], [], places) :=
  ⟨[], by kernel_rfl⟩
theorem okw (os : Os) : Input.okWideB Try.prog ((w0 os).forCall (fun _ _ => 0) ⟨#[], #[], []⟩) 5 ⟨#[], #[], []⟩ = true := by kernel_rfl
set_option maxRecDepth 100000 in
theorem lifted (os : Os) (started : os.Started) (H : Type) (enc : TypeId × Value → H) (F : Stop.Interp) :
    ReturnsInHanded {} Try.checked os 5 .any ((OpenSpec.ofChange Rows.charsLongSpec).preRow enc Try.prog Try.f5 Rows.charsLongRow.domain false Rows.charsLongRow.laid) (((OpenSpec.ofChange Rows.charsLongSpec).at F).post enc Try.prog Try.f5 false true false false) := by
  obtain ⟨places, hx⟩ := reads os enc
  refine returnsInHanded_of_row (C := Try.checked) (s := OpenSpec.ofChange Rows.charsLongSpec) own started (by kernel_rfl) Try.func5
    ⟨w0 os, fun _ _ => 0, ⟨#[], #[], []⟩, World.laidAll_os _ _ _, World.shaped_of_ZipB (by kernel_rfl) (by kernel_rfl), (Input.okWide_of_okWideB (base := 0) (okw os)).1, (Input.okWide_of_okWideB (base := 0) (okw os)).2,
      OpenSpec.preRow_of_cond 8 hx (by kernel_rfl) (fun k hk => by cases hk) (by kernel_rfl) (by rw [MakeChecks.laidMetH_plain _ _ _ (by kernel_rfl)]; exact laid_met os), by
        simp only [Assume.holds]
        exact ⟨by simp, by simp, fun _ => Modest.zero, by simp, by simp⟩⟩ ?_
  intro W base args ds gs before hval hW _ hcond hsz hL hsh _
  exact contract H enc W base args ds gs before hval hW hsh

theorem said : Rows.CharsLongSaid :=
  OpenClaim.holds_of_cond 5 Try.f5 rfl rfl rfl rfl rfl rfl rfl ⟨rfl, rfl, rfl, rfl, rfl⟩ rfl rfl rfl rfl rfl (by kernel_rfl) Try.func5 (by kernel_rfl)
    (of_decide_eq_true (by kernel_rfl)) (by unfold Func.isWrapper; first | (rw [if_pos (by decide +kernel)]; kernel_rfl) | (rw [if_neg (by decide +kernel)]; exact ⟨rfl, rfl⟩))
    (fun os started H enc _ F => by rw [OpenClaim.pre_eq_preRow]; exact lifted os started H enc F)
#print axioms said
end Go.Proofs.Ytdeannaaafffbaa.CLong
namespace Go.Proofs.Ytdeannaaafffbaa
/-- The statement, under a short name, for the claim. -/
theorem charsLong_holds : Rows.CharsLongSaid := CLong.said
end Go.Proofs.Ytdeannaaafffbaa
