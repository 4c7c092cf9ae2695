/-
  How a Piece reads (a struct of a text, a byte and five integers), and how the row's listed table of powers of ten serves the walks.
-/
import Derived.Test.YtlmijjekaelhcaaDoorSiX
import Derived.Test.YtlmijjekaelhcaaDoorSiEDix0
import Derived.Lib.LaidTab
import Derived.SizedLaws
import Derived.LaidOnce
set_option linter.unusedVariables false
namespace Go.Proofs.YtlmijjekaelhcaaDoor.Open
open Go.RowKit Go.Proofs.YtlmijjekaelhcaaDoorW.PrintWords Go.ChangeShapes Go.WideShapes Go.Proofs.YtlmijjekaelhcaaDoor.EDi Go.Proofs.YtlmijjekaelhcaaDoor.X
theorem oc3_25 : Tryd.prog.cellsOf 3 = 1 := by kernel_rfl
theorem oc5_25 : Tryd.prog.cellsOf 5 = 1 := by kernel_rfl
theorem oc9_25 : Tryd.prog.cellsOf 9 = 1 := by kernel_rfl
theorem oc25 : Tryd.prog.cellsOf 25 = 7 := by kernel_rfl
set_option maxRecDepth 100000 in
theorem Rd.t25 : Rd 25 k25 (fun p => p.f0.size ≤ reachBytes ∧ (Lit.int .u8 p.f1).wf = true ∧ (Lit.int .i64 p.f2).wf = true ∧ (Lit.int .i64 p.f3).wf = true ∧ (Lit.int .i64 p.f4).wf = true ∧ (Lit.int .i64 p.f5).wf = true ∧ (Lit.int .i64 p.f6).wf = true) (fun p => (p.f0.size + 1) + 1 + 1 + 1 + 1 + 1 + 1 + 1) := by
  intro H enc W base spare held fuel cs x h hw
  obtain ⟨xs, n, rfl, rfl, hl, hlen, hf⟩ := DataW.trod_struct Tryd.underlying25 h
  rw [oc25] at hl
  match cs, hl with
  | [c0, c1, c2, c3, c4, c5, c6], _ =>
    match xs, hlen with
    | [y0, y1, y2, y3, y4, y5, y6], _ =>
      have e0 : DataW.trod enc Tryd.prog W base spare held n 9 (List.take (Tryd.prog.cellsOf 9) (List.drop 0 [c0, c1, c2, c3, c4, c5, c6])) = some y0 := hf 0 _ rfl
      rw [oc9_25] at e0
      replace e0 : DataW.trod enc Tryd.prog W base spare held n 9 [c0] = some y0 := e0
      have e1 : DataW.trod enc Tryd.prog W base spare held n 5 (List.take (Tryd.prog.cellsOf 5) (List.drop 1 [c0, c1, c2, c3, c4, c5, c6])) = some y1 := hf 1 _ rfl
      rw [oc5_25] at e1
      replace e1 : DataW.trod enc Tryd.prog W base spare held n 5 [c1] = some y1 := e1
      have e2 : DataW.trod enc Tryd.prog W base spare held n 3 (List.take (Tryd.prog.cellsOf 3) (List.drop 2 [c0, c1, c2, c3, c4, c5, c6])) = some y2 := hf 2 _ rfl
      rw [oc3_25] at e2
      replace e2 : DataW.trod enc Tryd.prog W base spare held n 3 [c2] = some y2 := e2
      have e3 : DataW.trod enc Tryd.prog W base spare held n 3 (List.take (Tryd.prog.cellsOf 3) (List.drop 3 [c0, c1, c2, c3, c4, c5, c6])) = some y3 := hf 3 _ rfl
      rw [oc3_25] at e3
      replace e3 : DataW.trod enc Tryd.prog W base spare held n 3 [c3] = some y3 := e3
      have e4 : DataW.trod enc Tryd.prog W base spare held n 3 (List.take (Tryd.prog.cellsOf 3) (List.drop 4 [c0, c1, c2, c3, c4, c5, c6])) = some y4 := hf 4 _ rfl
      rw [oc3_25] at e4
      replace e4 : DataW.trod enc Tryd.prog W base spare held n 3 [c4] = some y4 := e4
      have e5 : DataW.trod enc Tryd.prog W base spare held n 3 (List.take (Tryd.prog.cellsOf 3) (List.drop 5 [c0, c1, c2, c3, c4, c5, c6])) = some y5 := hf 5 _ rfl
      rw [oc3_25] at e5
      replace e5 : DataW.trod enc Tryd.prog W base spare held n 3 [c5] = some y5 := e5
      have e6 : DataW.trod enc Tryd.prog W base spare held n 3 (List.take (Tryd.prog.cellsOf 3) (List.drop 6 [c0, c1, c2, c3, c4, c5, c6])) = some y6 := hf 6 _ rfl
      rw [oc3_25] at e6
      replace e6 : DataW.trod enc Tryd.prog W base spare held n 3 [c6] = some y6 := e6
      have w0 : ∀ m ∈ DataW.weights Tryd.prog 9 y0.1, m ≤ reachBytes := by
        intro m hm
        refine hw m ?_
        simp only [DataW.weights, Tryd.underlying25, List.map_cons, List.map_nil, DataW.weightsEach]
        exact List.mem_append_left _ hm
      obtain ⟨z0, r0', B0, m0⟩ := Rd.str Tryd.underlying9 enc W base spare held n [c0] y0 e0 w0
      have r0 : [c0] = [Value.string z0] := r0'
      replace m0 : z0.size + 1 ≤ Rows.uptoBulk y0.1 := m0
      obtain ⟨z1, r1, h1, q1⟩ := DataW.trod_int Tryd.underlying5 e1
      have m1 : 1 ≤ Rows.uptoBulk y1.1 := by rw [h1]; simp [Rows.uptoBulk]
      obtain ⟨z2, r2, h2, q2⟩ := DataW.trod_int Tryd.underlying3 e2
      have m2 : 1 ≤ Rows.uptoBulk y2.1 := by rw [h2]; simp [Rows.uptoBulk]
      obtain ⟨z3, r3, h3, q3⟩ := DataW.trod_int Tryd.underlying3 e3
      have m3 : 1 ≤ Rows.uptoBulk y3.1 := by rw [h3]; simp [Rows.uptoBulk]
      obtain ⟨z4, r4, h4, q4⟩ := DataW.trod_int Tryd.underlying3 e4
      have m4 : 1 ≤ Rows.uptoBulk y4.1 := by rw [h4]; simp [Rows.uptoBulk]
      obtain ⟨z5, r5, h5, q5⟩ := DataW.trod_int Tryd.underlying3 e5
      have m5 : 1 ≤ Rows.uptoBulk y5.1 := by rw [h5]; simp [Rows.uptoBulk]
      obtain ⟨z6, r6, h6, q6⟩ := DataW.trod_int Tryd.underlying3 e6
      have m6 : 1 ≤ Rows.uptoBulk y6.1 := by rw [h6]; simp [Rows.uptoBulk]
      simp only [List.cons.injEq, and_true] at r0 r1 r2 r3 r4 r5 r6
      subst r0 r1 r2 r3 r4 r5 r6
      refine ⟨⟨z0, z1, z2, z3, z4, z5, z6⟩, k25_mk W _ , ⟨B0, q1, q2, q3, q4, q5, q6⟩, ?_⟩
      simp only [Rows.uptoBulk, List.map_cons, List.map_nil, Rows.uptoBulkAll]
      omega
theorem laid_tail {P : Program} {x : String × DataW Unit} {r : List (String × DataW Unit)} {w : World} (h : laidMet P (x :: r) w) : laidMet P r w := by
  obtain ⟨ps, hl, hn, hc⟩ := h
  obtain ⟨g, t, cs, fuel, p, q, _, _, _, _, hq, rfl⟩ := hl
  exact ⟨q, hq, (List.nodup_append.1 hn).2.1, fun b off hm => hc b off (List.mem_append_right _ hm)⟩
theorem powData : (Rows.laid_internal_strconv_uint64pow10 : DataW Unit) = Lib.tabData .u64 Lib.pow10Tab := by kernel_rfl
noncomputable def tPow : TypeId := ((Tryd.prog.globals[1]?).map (·.type)).getD 0
noncomputable def ePow : TypeId := match Tryd.prog.underlying tPow with | some (.array _ e) => e | _ => 0
theorem gw_of {a b : String × DataW Unit} {rest : List (String × DataW Unit)} {W : World} (h : laidMet Tryd.prog (a :: b :: ("internal/strconv.uint64pow10", Rows.laid_internal_strconv_uint64pow10) :: rest) W) : GW W := by
  have h2 := laid_tail (laid_tail h)
  rw [powData] at h2
  exact Lib.tabIs_of_head (t := tPow) (e := ePow) (n := 20) gPow (by kernel_rfl) (by kernel_rfl) (by kernel_rfl) (by kernel_rfl) (by kernel_rfl) h2
end Go.Proofs.YtlmijjekaelhcaaDoor.Open
