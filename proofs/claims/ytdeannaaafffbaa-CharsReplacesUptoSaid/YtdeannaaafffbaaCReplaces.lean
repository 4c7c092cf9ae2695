/-
  CharsReplaces: for every list of asks that holds, all in all, at most 1048576 values and letters, the law answers true, and the list reads as before. Conditions: none but the form's own.
-/
import Derived.Test.YtdeannaaafffbaaRows
import Derived.Test.YtdeannaaafffbaaOpenA
import Derived.Test.YtdeannaaafffbaaPs
import Derived.WalkKit
import Derived.ProofKit
import Derived.OpenShut
import Derived.ShutString
import Derived.ChangeOld
import Derived.Below
import Derived.SizedLaws
import Derived.Carry
import Derived.Deep.DeepHandedRow
import Derived.Lay
import Derived.LaidOnce
set_option linter.unusedVariables false
namespace Go.Proofs.Ytdeannaaafffbaa.CReplaces
open Go.ChangeShapes Go.WideShapes Go.ChangeAt Go.RowKit Go.Proofs.YtdeannaaafffbaaW.PrintWords Go.Proofs.Ytdeannaaafffbaa.Open
open Go.ChangeMaps (open_string shut_string)
theorem own : ownKnob Try.prog.godebug = none := by kernel_rfl
theorem laidOut : laidOutB Try.prog = true := by kernel_rfl
theorem sum_ge {α : Type} (m : α → Nat) : ∀ (l : List α) (a : α), a ∈ l → m a ≤ (l.map m).sum
  | [], _, h => by cases h
  | b :: l, a, h => by
    rw [List.map_cons, List.sum_cons]
    rcases List.mem_cons.1 h with rfl | h
    · omega
    · have := sum_ge m l a h
      omega
theorem len_le {α : Type} (m : α → Nat) (h1 : ∀ a, 1 ≤ m a) : ∀ (l : List α), l.length ≤ (l.map m).sum
  | [] => Nat.le_refl _
  | b :: l => by
    have := len_le m h1 l
    have := h1 b
    rw [List.map_cons, List.sum_cons, List.length_cons]
    omega
set_option maxRecDepth 100000 in
theorem contract (H : Type) (enc : TypeId × Value → H) (W : World) (base : Nat) (args : Array Value) (ds gs : List (DataW H)) (before : List MemPlace)
    (hval : ∀ (j : Nat) t v, Try.f4.params[j]? = some t → args[j]? = some v → Value.okWide Try.prog W .any base t v)
    (hW : DataW.Whole enc Try.prog Try.f4.params.toList Rows.charsReplacesSpec.vars false W args.toList ds gs before)
    (hk : Rows.uptoSmall H (ds ++ gs) = true) (hsh : W.ShapedOpen Try.prog)
    (hsz : (DataW.weightsEach Try.prog (Try.f4.params.toList ++ (Rows.OpenSpec.upto Rows.charsReplacesSpec).bare.plain.varTypes Try.prog) (ds ++ gs)).all (· ≤ reachBytes) = true) :
    Calls Try.prog 4 args W fun e W' => ∃ v, e = .returned v ∧ Rows.charsReplacesSpec.post enc Try.prog Try.f4 false true false false W args v W' := by
  have hW' := hW
  obtain ⟨p, q, hA0, hV, rfl, hfz, hnd⟩ := hW
  have hA : DataW.TrodAll enc Try.prog W 0 (fun _ => true) true Try.f4.params.toList args.toList ds p := hA0
  rw [Try.params4] at hA hval hsz
  obtain ⟨v0, vs0, d0, ds0, p0, q0, hargs, rfl, rfl, h0, r0⟩ := trodAll_cons hA
  obtain ⟨rfl, rfl, rfl⟩ := trodAll_nil r0
  obtain rfl : args = #[v0] := by cases args; simp_all
  obtain ⟨rfl, rfl⟩ := trodVars_none hV
  obtain ⟨a0, len0, cap0, rfl⟩ := okWide_slice Try.underlying22 (hval 0 22 v0 rfl rfl)
  have k0 := h0
  have lt0 : ∀ x ∈ p0, x.block < W.heap.size := by
    obtain ⟨m, hm⟩ := k0
    exact DataW.trod_lt m _ _ _ hm
  have w0 : ∀ n ∈ d0.weights Try.prog 22, n ≤ reachBytes := fun n hn => by
    have := List.all_eq_true.1 hsz n (DataW.weights_mem_each (j := 0) (t := 22) (d := d0) rfl rfl n hn)
    exact of_decide_eq_true this
  obtain ⟨fuel, hf⟩ := h0
  obtain ⟨l0, A0, c0, hcs, hl0, hC0, hb0, hm0, hB0, hk0⟩ := Rd.row (d := ECh.k28) Try.underlying22 (by kernel_rfl) Rd.t28 enc W _ _ _ fuel _ _ hf w0
  simp [Value.cells] at hcs
  obtain ⟨rfl, rfl, rfl⟩ := hcs
  clear hA0 hsz hA
  simp only at hk0
  have hbulk : Rows.uptoBulkAll ([d0] ++ []) ≤ 1048576 := of_decide_eq_true hk
  simp only [List.append_nil, Rows.uptoBulkAll] at hbulk
  have hlen := len_le (fun p : ECh.S28 => (p.f0.size + 1) + (p.f1.size + 1) + (p.f2.size + 1) + 1 + 1 + ((p.f5.map fun s => s.size + 1).sum + 1) + 1 + 1) (fun a => by omega) l0
  have hall := sum_ge (fun p : ECh.S28 => (p.f0.size + 1) + (p.f1.size + 1) + (p.f2.size + 1) + 1 + 1 + ((p.f5.map fun s => s.size + 1).sum + 1) + 1 + 1) l0
  obtain ⟨k, hk'⟩ := (Pl.charsReplaces_true l0 (by omega) (fun a ha => by have := hall a ha; omega)).some
  refine (ECh.abacuslaw20_CharsReplaces.calls k _ _ l0 W hC0 hl0 (Try.laysM143.s1_3 W hsh) hk').mono fun e W' ⟨he, bel⟩ => ?_
  subst he
  exact ⟨_, rfl, _, _, _, [], _, [], hW', trodAll_mk1 (shut_bool Try.underlying4 _), (trodAll_cons_mk (Below.trod laidOut (by kernel_rfl) (of_decide_eq_true (by kernel_rfl)) k0 bel lt0) trodAll_mk0), rfl, bel.frame _, fun h => by cases h⟩

noncomputable def w0 (os : Os) : World := World.laidAll Try.prog os Rows.charsReplacesUptoRow.laid
theorem laid_met (os : Os) : laidMet Try.prog Rows.charsReplacesUptoRow.laid ((w0 os).forCall (fun _ _ => 0) ⟨#[], #[.slice none 0 0], []⟩).memory :=
  laidMet_laidAll _ (by kernel_rfl) (by kernel_rfl)
theorem reads (os : Os) {H : Type} (enc : TypeId × Value → H) : ∃ places, DataW.whole enc Try.prog ((w0 os).forCall (fun _ _ => 0) ⟨#[], #[.slice none 0 0], []⟩).memory Try.f4.params.toList Rows.charsReplacesSpec.vars false #[Value.slice none 0 0].toList 8 = some ([.nil], [], places) :=
  ⟨[], by kernel_rfl⟩
theorem okw (os : Os) : Input.okWideB Try.prog ((w0 os).forCall (fun _ _ => 0) ⟨#[], #[.slice none 0 0], []⟩) 4 ⟨#[], #[.slice none 0 0], []⟩ = true := by kernel_rfl
set_option maxRecDepth 100000 in
theorem lifted (os : Os) (started : os.Started) (H : Type) (enc : TypeId × Value → H) (F : Stop.Interp) :
    ReturnsInHanded {} Try.checked os 4 .any ((Rows.OpenSpec.upto Rows.charsReplacesSpec).preRow enc Try.prog Try.f4 Rows.charsReplacesUptoRow.domain false Rows.charsReplacesUptoRow.laid) (((Rows.OpenSpec.upto Rows.charsReplacesSpec).at F).post enc Try.prog Try.f4 false true false false) := by
  obtain ⟨places, hx⟩ := reads os enc
  refine returnsInHanded_of_row (C := Try.checked) (s := Rows.OpenSpec.upto Rows.charsReplacesSpec) own started (by kernel_rfl) Try.func4
    ⟨w0 os, fun _ _ => 0, ⟨#[], #[.slice none 0 0], []⟩, World.laidAll_os _ _ _, World.shaped_of_ZipB (by kernel_rfl) (by kernel_rfl), (Input.okWide_of_okWideB (base := 0) (okw os)).1, (Input.okWide_of_okWideB (base := 0) (okw os)).2,
      OpenSpec.preRow_of_cond 8 hx (by kernel_rfl) (fun k hk => by cases hk; kernel_rfl) (by kernel_rfl) (by rw [MakeChecks.laidMetH_plain _ _ _ (by kernel_rfl)]; exact laid_met os), by
        simp only [Assume.holds]
        exact ⟨by simp, by simp, fun _ => Modest.zero, by simp, by simp⟩⟩ ?_
  intro W base args ds gs before hval hW _ hcond hsz hL hsh _
  exact contract H enc W base args ds gs before hval hW (hcond _ rfl) hsh hsz

theorem said : Rows.CharsReplacesUptoSaid :=
  OpenClaim.holds_of_cond 4 Try.f4 rfl rfl rfl rfl rfl rfl rfl ⟨rfl, rfl, rfl, rfl, rfl⟩ rfl rfl rfl rfl rfl (by kernel_rfl) Try.func4 (by kernel_rfl)
    (of_decide_eq_true (by kernel_rfl)) (by unfold Func.isWrapper; first | (rw [if_pos (by decide +kernel)]; kernel_rfl) | (rw [if_neg (by decide +kernel)]; exact ⟨rfl, rfl⟩))
    (fun os started H enc _ F => by rw [OpenClaim.pre_eq_preRow]; exact lifted os started H enc F)
#print axioms said
end Go.Proofs.Ytdeannaaafffbaa.CReplaces
namespace Go.Proofs.Ytdeannaaafffbaa
/-- The statement, under a short name, for the claim. -/
theorem charsReplaces_holds : Rows.CharsReplacesUptoSaid := CReplaces.said
end Go.Proofs.Ytdeannaaafffbaa
