/-
  ScanBacks: for every Dec (as a row reads it) the law answers true, and the Dec reads as before. The card, tied to the program's text. Conditions: none but the form's own.
-/
import Derived.Test.YtcgjfckhnpimbaaDoorCards
import Derived.Test.YtcgjfckhnpimbaaDoorTie
import Derived.Test.YtcgjfckhnpimbaaDoorOpenB
import Derived.Test.YtcgjfckhnpimbaaDoorPk
import Derived.WalkKit
import Derived.ProofKit
import Derived.OpenShut
import Derived.ShutString
import Derived.ChangeOld
import Derived.Below
import Derived.SizedLaws
import Derived.Carry
import Derived.Deep.DeepHandedRow
import Derived.Lay
import Derived.LaidOnce
import Derived.SevenTiedAt
set_option linter.unusedVariables false
namespace Go.Proofs.YtcgjfckhnpimbaaDoor.CBacks
open Go.ChangeShapes Go.WideShapes Go.ChangeAt Go.RowKit Go.Proofs.YtcgjfckhnpimbaaDoorW.PrintWords Go.Proofs.YtcgjfckhnpimbaaDoor.Open
open Go.ChangeMaps (open_string shut_string)
theorem own : ownKnob Tryd.prog.godebug = none := by kernel_rfl
theorem laidOut : laidOutB Tryd.prog = true := by kernel_rfl
set_option maxRecDepth 100000 in
theorem contract (H : Type) (enc : TypeId × Value → H) (W : World) (base : Nat) (args : Array Value) (ds gs : List (DataW H)) (before : List MemPlace)
    (hval : ∀ (j : Nat) t v, Tryd.f8.params[j]? = some t → args[j]? = some v → Value.okWide Tryd.prog W .any base t v)
    (hW : DataW.Whole enc Tryd.prog Tryd.f8.params.toList Rows.scanBacksSpec.vars false W args.toList ds gs before)
    (hG : X.GW W) (hsz : (DataW.weightsEach Tryd.prog (Tryd.f8.params.toList ++ (OpenSpec.ofChange Rows.scanBacksSpec).bare.plain.varTypes Tryd.prog) (ds ++ gs)).all (· ≤ reachBytes) = true) :
    Calls Tryd.prog 8 args W fun e W' => ∃ v, e = .returned v ∧ Rows.scanBacksSpec.post enc Tryd.prog Tryd.f8 false true false false W args v W' := by
  have hW' := hW
  obtain ⟨p, q, hA0, hV, rfl, hfz, hnd⟩ := hW
  have hA : DataW.TrodAll enc Tryd.prog W 0 (fun _ => true) true Tryd.f8.params.toList args.toList ds p := hA0
  rw [Tryd.params8] at hA hval hsz
  obtain ⟨v0, vs0, d0, ds0, p0, q0, hargs, rfl, rfl, h0, r0⟩ := trodAll_cons hA
  obtain ⟨rfl, rfl, rfl⟩ := trodAll_nil r0
  obtain rfl : args = #[v0] := by cases args; simp_all
  obtain ⟨rfl, rfl⟩ := trodVars_none hV
  obtain ⟨cs1, rfl, hcs1⟩ := okWide_struct Tryd.underlying23 (hval 0 23 v0 rfl rfl)
  have k0 := h0
  have lt0 : ∀ x ∈ p0, x.block < W.heap.size := by
    obtain ⟨m, hm⟩ := k0
    exact DataW.trod_lt m _ _ _ hm
  have w0 : ∀ n ∈ d0.weights Tryd.prog 23, n ≤ reachBytes := fun n hn => by
    have := List.all_eq_true.1 hsz n (DataW.weights_mem_each (j := 0) (t := 23) (d := d0) rfl rfl n hn)
    exact of_decide_eq_true this
  obtain ⟨fuel, hf⟩ := h0
  obtain ⟨s0, hK0, hB0, hm0⟩ := Rd.dec enc W _ _ _ fuel _ _ hf w0
  have hK1 : (Value.agg cs1).cells.toList = [Value.bool s0.f0, .string s0.f1, .int .i64 s0.f2] := EScan.k23_open hK0
  have hK2 : cs1 = #[Value.bool s0.f0, .string s0.f1, .int .i64 s0.f2] := by
    simp [Value.cells] at hK1
    exact Array.ext' hK1
  subst hK2
  clear hA0 hsz hA
  obtain ⟨hb0, hw0⟩ := hB0
  unfold reachBytes at hb0
  obtain ⟨k, hk⟩ := (Pl.scanBacks_true s0.f0 s0.f1 s0.f2 hb0).some
  refine (EScan.abacuslaw08_ScanBacks.calls k s0.f0 s0.f1 s0.f2 W hG hk).mono fun e W' ⟨he, bel⟩ => ?_
  subst he
  exact ⟨_, rfl, _, _, _, [], _, [], hW', trodAll_mk1 (shut_bool Tryd.underlying4 _), (trodAll_cons_mk (Below.trod laidOut (by kernel_rfl) (of_decide_eq_true (by kernel_rfl)) k0 bel lt0) trodAll_mk0), rfl, bel.frame _, fun h => by cases h⟩

noncomputable def w0 (os : Os) : World := World.laidAll Tryd.prog os Rows.scanBacksRow.laid
theorem laid_met (os : Os) : laidMet Tryd.prog Rows.scanBacksRow.laid ((w0 os).forCall (fun _ _ => 0) ⟨#[], #[.agg #[.bool false, .string ⟨#[]⟩, .int .i64 0]], []⟩).memory :=
  laidMet_laidAll _ (by kernel_rfl) (by kernel_rfl)
theorem reads (os : Os) {H : Type} (enc : TypeId × Value → H) : ∃ places, DataW.whole enc Tryd.prog ((w0 os).forCall (fun _ _ => 0) ⟨#[], #[.agg #[.bool false, .string ⟨#[]⟩, .int .i64 0]], []⟩).memory Tryd.f8.params.toList Rows.scanBacksSpec.vars false #[Value.agg #[.bool false, .string ⟨#[]⟩, .int .i64 0]].toList 8 = some ([.agg [.lit (.bool false), .lit (.string []), .lit (.int .i64 0)]], [], places) :=
  ⟨[], by kernel_rfl⟩
theorem okw (os : Os) : Input.okWideB Tryd.prog ((w0 os).forCall (fun _ _ => 0) ⟨#[], #[.agg #[.bool false, .string ⟨#[]⟩, .int .i64 0]], []⟩) 8 ⟨#[], #[.agg #[.bool false, .string ⟨#[]⟩, .int .i64 0]], []⟩ = true := by kernel_rfl
set_option maxRecDepth 100000 in
theorem lifted (os : Os) (started : os.Started) (H : Type) (enc : TypeId × Value → H) (F : Stop.Interp) :
    ReturnsInHanded {} Tryd.checked os 8 .any ((OpenSpec.ofChange Rows.scanBacksSpec).preRow enc Tryd.prog Tryd.f8 Rows.scanBacksRow.domain false Rows.scanBacksRow.laid) (((OpenSpec.ofChange Rows.scanBacksSpec).at F).post enc Tryd.prog Tryd.f8 false true false false) := by
  obtain ⟨places, hx⟩ := reads os enc
  refine returnsInHanded_of_row (C := Tryd.checked) (s := OpenSpec.ofChange Rows.scanBacksSpec) own started (by kernel_rfl) Tryd.func8
    ⟨w0 os, fun _ _ => 0, ⟨#[], #[.agg #[.bool false, .string ⟨#[]⟩, .int .i64 0]], []⟩, World.laidAll_os _ _ _, World.shaped_of_ZipB (by kernel_rfl) (by kernel_rfl), (Input.okWide_of_okWideB (base := 0) (okw os)).1, (Input.okWide_of_okWideB (base := 0) (okw os)).2,
      OpenSpec.preRow_of_cond 8 hx (by kernel_rfl) (fun k hk => by cases hk) (by kernel_rfl) (by rw [MakeChecks.laidMetH_plain _ _ _ (by kernel_rfl)]; exact laid_met os), by
        simp only [Assume.holds]
        exact ⟨by simp, by simp, fun _ => Modest.zero, by simp, by simp⟩⟩ ?_
  intro W base args ds gs before hval hW _ _ hsz hL _ _
  rw [MakeChecks.laidMetH_plain _ _ _ (by kernel_rfl)] at hL
  exact contract H enc W base args ds gs before hval hW (gw_of hL) hsz

theorem said : Rows.ScanBacksSaid :=
  OpenClaim.holds_of_cond 8 Tryd.f8 rfl rfl rfl rfl rfl rfl rfl ⟨rfl, rfl, rfl, rfl, rfl⟩ rfl rfl rfl rfl rfl (by kernel_rfl) Tryd.func8 (by kernel_rfl)
    (of_decide_eq_true (by kernel_rfl)) (by unfold Func.isWrapper; first | (rw [if_pos (by decide +kernel)]; kernel_rfl) | (rw [if_neg (by decide +kernel)]; exact ⟨rfl, rfl⟩))
    (fun os started H enc _ F => by rw [OpenClaim.pre_eq_preRow]; exact lifted os started H enc F)
theorem plain (f : FuncId) (fn : Func) (hf : Tryd.pinned.checked.prog.funcNamed "abacus/abacuslaw08.ScanBacks" = some f) (hfn : Tryd.pinned.checked.prog.funcs[f]? = some fn) :
    false = Tryd.pinned.checked.prog.looks [] ∧ ∀ (j : Nat) t, fn.params[j]? = some t → Tryd.pinned.checked.prog.wantsStandIn t = false := by
  obtain rfl : f = 8 := Option.some.inj ((show Tryd.prog.funcNamed "abacus/abacuslaw08.ScanBacks" = some 8 by kernel_rfl).symm.trans hf) |>.symm
  obtain rfl : fn = Tryd.f8 := (Option.some.inj (Tryd.func8.symm.trans hfn)).symm
  refine ⟨by kernel_rfl, fun j t ht => ?_⟩
  rw [Tryd.params8] at ht
  have hm : t ∈ [23] := by simpa using Array.mem_of_getElem? ht
  have hall : ([23].all fun u => !Tryd.prog.wantsStandIn u) = true := by kernel_rfl
  exact (show Tryd.prog.wantsStandIn t = false by simpa using List.all_eq_true.1 hall t hm)
theorem card : Rows.ScanBacksCardSaid :=
  Claim7.holds_tied_plain_at .later [] _ _ _ _ said (fun _ h => by cases h) (by kernel_rfl) (fun _ h => by cases h) scanBacks_row_tie rfl ⟨rfl, rfl⟩ (by kernel_rfl) rfl plain (by kernel_rfl)
#print axioms card
end Go.Proofs.YtcgjfckhnpimbaaDoor.CBacks
namespace Go.Proofs.YtcgjfckhnpimbaaDoor
/-- The card, under a short name, for the claim. -/
theorem scanBacks_holds : Rows.ScanBacksCardSaid := CBacks.card
end Go.Proofs.YtcgjfckhnpimbaaDoor
