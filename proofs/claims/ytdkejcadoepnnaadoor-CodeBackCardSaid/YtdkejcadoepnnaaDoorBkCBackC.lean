/-
  CodeBack: for every code, cut and byte (as a row reads them) the law answers true, and they read as before. The card, tied to the program's text. Conditions: none but the form's own.
-/
import Derived.Test.YtdkejcadoepnnaaDoorCards
import Derived.Test.YtdkejcadoepnnaaDoorTie
import Derived.Test.YtdkejcadoepnnaaDoorBkOpenB
import Derived.Test.YtdkejcadoepnnaaDoorBkPs
import Derived.WalkKit
import Derived.ProofKit
import Derived.OpenShut
import Derived.ShutString
import Derived.ChangeOld
import Derived.Below
import Derived.SizedLaws
import Derived.Carry
import Derived.Deep.DeepHandedRow
import Derived.Lay
import Derived.LaidOnce
import Derived.SevenTiedAt
set_option linter.unusedSimpArgs false
set_option linter.unusedVariables false
namespace Go.Proofs.YtdkejcadoepnnaaDoor.CBackC
open Go.ChangeShapes Go.WideShapes Go.ChangeAt Go.RowKit Go.Proofs.YtdkejcadoepnnaaDoorW.PrintWords Go.Proofs.YtdkejcadoepnnaaDoor.Open
open Go.ChangeMaps (open_string shut_string)
theorem own : ownKnob Tryd.prog.godebug = none := by kernel_rfl
theorem laidOut : laidOutB Tryd.prog = true := by kernel_rfl
set_option maxRecDepth 100000 in
set_option maxHeartbeats 2000000 in
theorem contract (H : Type) (enc : TypeId × Value → H) (W : World) (base : Nat) (args : Array Value) (ds gs : List (DataW H)) (before : List MemPlace)
  (hval : ∀ (j : Nat) t v, Tryd.f9.params[j]? = some t → args[j]? = some v → Value.okWide Tryd.prog W .any base t v)
  (hW : DataW.Whole enc Tryd.prog Tryd.f9.params.toList Rows.codeBackSpec.vars false W args.toList ds gs before)
  (hG : X.GW W)
  (hsz : (DataW.weightsEach Tryd.prog (Tryd.f9.params.toList ++ (OpenSpec.ofChange Rows.codeBackSpec).bare.plain.varTypes Tryd.prog) (ds ++ gs)).all (· ≤ reachBytes) = true) :
  Calls Tryd.prog 9 args W fun e W' => ∃ v, e = .returned v ∧ Rows.codeBackSpec.post enc Tryd.prog Tryd.f9 false true false false W args v W' := by
 have hW' := hW
 obtain ⟨p, q, hA0, hV, rfl, hfz, hnd⟩ := hW
 have hA : DataW.TrodAll enc Tryd.prog W 0 (fun _ => true) true Tryd.f9.params.toList args.toList ds p := hA0
 rw [Tryd.params9] at hA hval hsz
 obtain ⟨v0, vs0, d0, ds0, q0_0, q1_0, hargs, rfl, rfl, h0, r0⟩ := trodAll_cons hA
 obtain ⟨v1, vs1, d1, ds1, q0_1, q1_1, rfl, rfl, rfl, h1, r1⟩ := trodAll_cons r0
 obtain ⟨v2, vs2, d2, ds2, q0_2, q1_2, rfl, rfl, rfl, h2, r2⟩ := trodAll_cons r1
 obtain ⟨rfl, rfl, rfl⟩ := trodAll_nil r2
 obtain rfl : args = #[v0, v1, v2] := by cases args; simp_all
 obtain ⟨rfl, rfl⟩ := trodVars_none hV
 obtain ⟨cs0, rfl, hcs0⟩ := okWide_struct Tryd.underlying26 (hval 0 26 v0 rfl rfl)
 have k0 := h0
 have lt0 : ∀ x ∈ q0_0, x.block < W.heap.size := by
  obtain ⟨m, hm⟩ := k0
  exact DataW.trod_lt m _ _ _ hm
 have w0 : ∀ n ∈ d0.weights Tryd.prog 26, n ≤ reachBytes := fun n hn => by
  have := List.all_eq_true.1 hsz n (DataW.weights_mem_each (j := 0) (t := 26) (d := d0) rfl rfl n hn)
  exact of_decide_eq_true this
 obtain ⟨fuel0, hf0⟩ := h0
 obtain ⟨o0, Ao0, co0, n0, An0, cn0, s0, As0, cs_0, hL0, ⟨go0, Co0⟩, ⟨gn0, Cn0⟩, ⟨gs0, Cs0⟩, bo0, bn0, bs0, hm0⟩ := open26 enc W _ _ _ fuel0 _ _ hf0 w0
 replace hL0 : (Value.agg cs0).cells.toList = [.slice Ao0 o0.length co0, .slice An0 n0.length cn0, .slice As0 s0.length cs_0] := hL0
 have hM0 : cs0 = #[.slice Ao0 o0.length co0, .slice An0 n0.length cn0, .slice As0 s0.length cs_0] := by
  simp [Value.cells] at hL0
  exact Array.ext' hL0
 subst hM0
 have k1 := h1
 have lt1 : ∀ x ∈ q0_1, x.block < W.heap.size := by
  obtain ⟨m, hm⟩ := k1
  exact DataW.trod_lt m _ _ _ hm
 obtain ⟨n1, rfl⟩ := okWide_int Tryd.underlying3 (hval 1 3 v1 rfl rfl)
 obtain ⟨n2, rfl⟩ := okWide_int Tryd.underlying5 (hval 2 5 v2 rfl rfl)
 have k2 := h2
 have lt2 : ∀ x ∈ q0_2, x.block < W.heap.size := by
  obtain ⟨m, hm⟩ := k2
  exact DataW.trod_lt m _ _ _ hm
 have w2 : ∀ n ∈ d2.weights Tryd.prog 5, n ≤ reachBytes := fun n hn => by
  have := List.all_eq_true.1 hsz n (DataW.weights_mem_each (j := 2) (t := 5) (d := d2) rfl rfl n hn)
  exact of_decide_eq_true this
 obtain ⟨fuel2, hf2⟩ := h2
 obtain ⟨z2, hK2, hb2, hm2⟩ := Rd.int Tryd.underlying5 enc W _ _ _ fuel2 _ _ hf2 w2
 have hL2 : (Value.int .u8 n2).cells.toList = [.int .u8 z2] := hK2
 simp [Value.cells] at hL2
 subst hL2
 clear hA0 hsz hA
 obtain ⟨k, hk'⟩ := (Pl.codeBack_true o0 n0 s0 n1 n2 (fun x hx => ⟨(bounds_i bo0.2 x hx).1.2, (bounds_i bo0.2 x hx).2.2⟩) (Pl.un_of (bounds_u bn0.2)) (bounds_s bs0.2) (by have h := bs0.1; unfold reachBytes at h; omega) (bounds_b (l := [n2]) (fun a ha => by rw [List.mem_singleton.1 ha]; exact hb2) n2 (by simp))).some
 refine (ECc.w_CodeBack.calls k Ao0 co0 o0 An0 cn0 n0 As0 cs_0 s0 n1 n2 W Co0 go0 Cn0 gn0 Cs0 gs0 hG hk').mono fun e W' ⟨he, bel⟩ => ?_
 subst he
 exact ⟨_, rfl, _, _, _, [], _, [], hW', trodAll_mk1 (shut_bool Tryd.underlying4 _), (trodAll_cons_mk (Below.trod laidOut (by kernel_rfl) (of_decide_eq_true (by kernel_rfl)) k0 bel lt0) (trodAll_cons_mk (Below.trod laidOut (by kernel_rfl) (of_decide_eq_true (by kernel_rfl)) k1 bel lt1) (trodAll_cons_mk (Below.trod laidOut (by kernel_rfl) (of_decide_eq_true (by kernel_rfl)) k2 bel lt2) trodAll_mk0))), rfl, bel.frame _, fun h => by cases h⟩
noncomputable def w0 (os : Os) : World := World.laidAll Tryd.prog os Rows.codeBackRow.laid
theorem laid_met (os : Os) : laidMet Tryd.prog Rows.codeBackRow.laid ((w0 os).forCall (fun _ _ => 0) ⟨#[], #[.agg #[.slice none 0 0, .slice none 0 0, .slice none 0 0], .int .i64 0, .int .u8 0], []⟩).memory :=
 laidMet_laidAll _ (by kernel_rfl) (by kernel_rfl)
theorem reads (os : Os) {H : Type} (enc : TypeId × Value → H) : ∃ places, DataW.whole enc Tryd.prog ((w0 os).forCall (fun _ _ => 0) ⟨#[], #[.agg #[.slice none 0 0, .slice none 0 0, .slice none 0 0], .int .i64 0, .int .u8 0], []⟩).memory Tryd.f9.params.toList Rows.codeBackSpec.vars false #[Value.agg #[.slice none 0 0, .slice none 0 0, .slice none 0 0], .int .i64 0, .int .u8 0].toList 8 = some ([.agg [.nil, .nil, .nil], .lit (.int .i64 0), .lit (.int .u8 0)], [], places) :=
 ⟨[], by kernel_rfl⟩
theorem okw (os : Os) : Input.okWideB Tryd.prog ((w0 os).forCall (fun _ _ => 0) ⟨#[], #[.agg #[.slice none 0 0, .slice none 0 0, .slice none 0 0], .int .i64 0, .int .u8 0], []⟩) 9 ⟨#[], #[.agg #[.slice none 0 0, .slice none 0 0, .slice none 0 0], .int .i64 0, .int .u8 0], []⟩ = true := by kernel_rfl
set_option maxRecDepth 100000 in
theorem lifted (os : Os) (started : os.Started) (H : Type) (enc : TypeId × Value → H) (F : Stop.Interp) :
  ReturnsInHanded {} Tryd.checked os 9 .any ((OpenSpec.ofChange Rows.codeBackSpec).preRow enc Tryd.prog Tryd.f9 Rows.codeBackRow.domain false Rows.codeBackRow.laid) (((OpenSpec.ofChange Rows.codeBackSpec).at F).post enc Tryd.prog Tryd.f9 false true false false) := by
 obtain ⟨places, hx⟩ := reads os enc
 refine returnsInHanded_of_row (C := Tryd.checked) (s := OpenSpec.ofChange Rows.codeBackSpec) own started (by kernel_rfl) Tryd.func9
  ⟨w0 os, fun _ _ => 0, ⟨#[], #[.agg #[.slice none 0 0, .slice none 0 0, .slice none 0 0], .int .i64 0, .int .u8 0], []⟩, World.laidAll_os _ _ _, World.shaped_of_ZipB (by kernel_rfl) (by kernel_rfl), (Input.okWide_of_okWideB (base := 0) (okw os)).1, (Input.okWide_of_okWideB (base := 0) (okw os)).2,
   OpenSpec.preRow_of_cond 8 hx (by kernel_rfl) (fun k hk => by cases hk) (by kernel_rfl) (by rw [MakeChecks.laidMetH_plain _ _ _ (by kernel_rfl)]; exact laid_met os), by
    simp only [Assume.holds]
    exact ⟨by simp, by simp, fun _ => Modest.zero, by simp, by simp⟩⟩ ?_
 intro W base args ds gs before hval hW _ hcond hsz hL hsh _
 rw [MakeChecks.laidMetH_plain _ _ _ (by kernel_rfl)] at hL
 exact contract H enc W base args ds gs before hval hW (gw_of hL) hsz
theorem said : Rows.CodeBackSaid :=
 OpenClaim.holds_of_cond 9 Tryd.f9 rfl rfl rfl rfl rfl rfl rfl ⟨rfl, rfl, rfl, rfl, rfl⟩ rfl rfl rfl rfl rfl (by kernel_rfl) Tryd.func9 (by kernel_rfl)
  (of_decide_eq_true (by kernel_rfl)) (by unfold Func.isWrapper; first | (rw [if_pos (by decide +kernel)]; kernel_rfl) | (rw [if_neg (by decide +kernel)]; exact ⟨rfl, rfl⟩))
  (fun os started H enc _ F => by rw [OpenClaim.pre_eq_preRow]; exact lifted os started H enc F)
theorem plain (f : FuncId) (fn : Func) (hf : Tryd.pinned.checked.prog.funcNamed "abacus/abacuslaw26.CodeBack" = some f) (hfn : Tryd.pinned.checked.prog.funcs[f]? = some fn) :
  true = Tryd.pinned.checked.prog.looks [] ∧ ∀ (j : Nat) t, fn.params[j]? = some t → Tryd.pinned.checked.prog.wantsStandIn t = false := by
 obtain rfl : f = 9 := Option.some.inj ((show Tryd.prog.funcNamed "abacus/abacuslaw26.CodeBack" = some 9 by kernel_rfl).symm.trans hf) |>.symm
 obtain rfl : fn = Tryd.f9 := (Option.some.inj (Tryd.func9.symm.trans hfn)).symm
 refine ⟨by kernel_rfl, fun j t ht => ?_⟩
 rw [Tryd.params9] at ht
 have hm : t ∈ [26, 3, 5] := by simpa using Array.mem_of_getElem? ht
 have hall : ([26, 3, 5].all fun u => !Tryd.prog.wantsStandIn u) = true := by kernel_rfl
 exact (show Tryd.prog.wantsStandIn t = false by simpa using List.all_eq_true.1 hall t hm)
theorem card : Rows.CodeBackCardSaid :=
 Claim7.holds_tied_plain_at .later [] _ _ _ _ said (fun _ h => by cases h) (by kernel_rfl) (fun _ h => by cases h) codeBack_row_tie rfl ⟨rfl, rfl⟩ (by kernel_rfl) rfl plain (by kernel_rfl)
#print axioms card
end Go.Proofs.YtdkejcadoepnnaaDoor.CBackC
namespace Go.Proofs.YtdkejcadoepnnaaDoor
/-- The card, under a short name, for the claim. -/
theorem codeBack_holds : Rows.CodeBackCardSaid := CBackC.card
end Go.Proofs.YtdkejcadoepnnaaDoor
