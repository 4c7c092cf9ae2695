/-
  How a Dec reads (a struct of a truth value, a text and an integer), and how the row's listed table of powers of ten serves the walks.
-/
import Derived.Test.YtcgjfckhnpimbaaDoorOrOpen
import Derived.Test.YtcgjfckhnpimbaaDoorOrX
import Derived.Test.YtcgjfckhnpimbaaDoorOrEScanx0
import Derived.Lib.LaidTab
import Derived.SizedLaws
import Derived.LaidOnce
set_option linter.unusedVariables false
namespace Go.Proofs.YtcgjfckhnpimbaaDoor.Open
open Go.RowKit Go.Proofs.YtcgjfckhnpimbaaDoorW.PrintWords Go.ChangeShapes Go.WideShapes Go.Proofs.YtcgjfckhnpimbaaDoor.EScan Go.Proofs.YtcgjfckhnpimbaaDoor.X
theorem cells23 : Tryd.prog.cellsOf 23 = 3 := by kernel_rfl
theorem cells4 : Tryd.prog.cellsOf 4 = 1 := by kernel_rfl
theorem cells9 : Tryd.prog.cellsOf 9 = 1 := by kernel_rfl
theorem cells3 : Tryd.prog.cellsOf 3 = 1 := by kernel_rfl
set_option maxRecDepth 100000 in
theorem Rd.dec : Rd 23 k23 (fun p => p.f1.size ≤ reachBytes ∧ (Lit.int .i64 p.f2).wf = true) (fun p => p.f1.size + 3) := by
  intro H enc W base spare held fuel cs x h hw
  obtain ⟨xs, n, rfl, rfl, hl, hlen, hf⟩ := DataW.trod_struct Tryd.underlying23 h
  rw [cells23] at hl
  match cs, hl with
  | [c0, c1, c2], _ =>
    match xs, hlen with
    | [y0, y1, y2], _ =>
      have e0 : DataW.trod enc Tryd.prog W base spare held n 4 (List.take (Tryd.prog.cellsOf 4) (List.drop 0 [c0, c1, c2])) = some y0 := hf 0 _ rfl
      rw [cells4] at e0
      replace e0 : DataW.trod enc Tryd.prog W base spare held n 4 [c0] = some y0 := e0
      have e1 : DataW.trod enc Tryd.prog W base spare held n 9 (List.take (Tryd.prog.cellsOf 9) (List.drop 1 [c0, c1, c2])) = some y1 := hf 1 _ rfl
      rw [cells9] at e1
      replace e1 : DataW.trod enc Tryd.prog W base spare held n 9 [c1] = some y1 := e1
      have e2 : DataW.trod enc Tryd.prog W base spare held n 3 (List.take (Tryd.prog.cellsOf 3) (List.drop 2 [c0, c1, c2])) = some y2 := hf 2 _ rfl
      rw [cells3] at e2
      replace e2 : DataW.trod enc Tryd.prog W base spare held n 3 [c2] = some y2 := e2
      have hw' : ∀ m ∈ DataW.weights Tryd.prog 9 y1.1, m ≤ reachBytes := by
        intro m hm
        refine hw m ?_
        simp only [DataW.weights, Tryd.underlying23, List.map_cons, List.map_nil, DataW.weightsEach]
        exact List.mem_append_right _ (List.mem_append_left _ hm)
      obtain ⟨b0, r0, h0⟩ := DataW.trod_bool Tryd.underlying4 e0
      obtain ⟨s1, q1, B1, m1⟩ := Rd.str Tryd.underlying9 enc W base spare held n [c1] y1 e1 hw'
      obtain ⟨z2, r2, h2, w2⟩ := DataW.trod_int Tryd.underlying3 e2
      have q1' : [c1] = [Value.string s1] := q1
      simp only [List.cons.injEq, and_true] at r0 q1' r2
      subst r0 q1' r2
      refine ⟨⟨b0, s1, z2⟩, k23_mk W _, ⟨B1, w2⟩, ?_⟩
      replace m1 : s1.size + 1 ≤ Rows.uptoBulk y1.1 := m1
      show s1.size + 3 ≤ _
      simp only [Rows.uptoBulk, List.map_cons, List.map_nil, Rows.uptoBulkAll]
      rw [h0, h2]
      simp only [Rows.uptoBulk]
      omega
end Go.Proofs.YtcgjfckhnpimbaaDoor.Open
