/-
  How an Ask reads (three texts, two doubles, a list of texts, a count).
-/
import Derived.Test.YtdeannaaafffbaaDoorKeOpen
import Derived.Test.YtdeannaaafffbaaDoorKeECdx0
set_option linter.unusedSimpArgs false
set_option linter.unusedVariables false
namespace Go.Proofs.YtdeannaaafffbaaDoor.Open
open Go.RowKit Go.Proofs.YtdeannaaafffbaaDoorW.PrintWords Go.ChangeShapes Go.WideShapes Go.Proofs.YtdeannaaafffbaaDoor.ECd
theorem oc3_29 : Tryd.prog.cellsOf 3 = 1 := by kernel_rfl
theorem oc9_29 : Tryd.prog.cellsOf 9 = 1 := by kernel_rfl
theorem oc24_29 : Tryd.prog.cellsOf 24 = 1 := by kernel_rfl
theorem oc27_29 : Tryd.prog.cellsOf 27 = 1 := by kernel_rfl
theorem oc29 : Tryd.prog.cellsOf 29 = 7 := by kernel_rfl
theorem oce9_29 : Tryd.prog.cellsOf 9 = 1 := by kernel_rfl
set_option maxRecDepth 100000 in
theorem Rd.t29 : Rd 29 k29 (fun p => p.f0.size ≤ reachBytes ∧ p.f1.size ≤ reachBytes ∧ p.f2.size ≤ reachBytes ∧ (p.f5.length ≤ maxLen ∧ ∀ a ∈ p.f5, a.size ≤ reachBytes)) (fun p => (p.f0.size + 1) + (p.f1.size + 1) + (p.f2.size + 1) + 1 + 1 + ((p.f5.map fun s => s.size + 1).sum + 1) + 1 + 1) := by
  intro H enc W base spare held fuel cs x h hw
  obtain ⟨xs, n, rfl, rfl, hl, hlen, hf⟩ := DataW.trod_struct Tryd.underlying29 h
  rw [oc29] at hl
  match cs, hl with
  | [c0, c1, c2, c3, c4, c5, c6], _ =>
    match xs, hlen with
    | [y0, y1, y2, y3, y4, y5, y6], _ =>
      have e0 : DataW.trod enc Tryd.prog W base spare held n 9 (List.take (Tryd.prog.cellsOf 9) (List.drop 0 [c0, c1, c2, c3, c4, c5, c6])) = some y0 := hf 0 _ rfl
      rw [oc9_29] at e0
      replace e0 : DataW.trod enc Tryd.prog W base spare held n 9 [c0] = some y0 := e0
      have e1 : DataW.trod enc Tryd.prog W base spare held n 9 (List.take (Tryd.prog.cellsOf 9) (List.drop 1 [c0, c1, c2, c3, c4, c5, c6])) = some y1 := hf 1 _ rfl
      rw [oc9_29] at e1
      replace e1 : DataW.trod enc Tryd.prog W base spare held n 9 [c1] = some y1 := e1
      have e2 : DataW.trod enc Tryd.prog W base spare held n 9 (List.take (Tryd.prog.cellsOf 9) (List.drop 2 [c0, c1, c2, c3, c4, c5, c6])) = some y2 := hf 2 _ rfl
      rw [oc9_29] at e2
      replace e2 : DataW.trod enc Tryd.prog W base spare held n 9 [c2] = some y2 := e2
      have e3 : DataW.trod enc Tryd.prog W base spare held n 27 (List.take (Tryd.prog.cellsOf 27) (List.drop 3 [c0, c1, c2, c3, c4, c5, c6])) = some y3 := hf 3 _ rfl
      rw [oc27_29] at e3
      replace e3 : DataW.trod enc Tryd.prog W base spare held n 27 [c3] = some y3 := e3
      have e4 : DataW.trod enc Tryd.prog W base spare held n 27 (List.take (Tryd.prog.cellsOf 27) (List.drop 4 [c0, c1, c2, c3, c4, c5, c6])) = some y4 := hf 4 _ rfl
      rw [oc27_29] at e4
      replace e4 : DataW.trod enc Tryd.prog W base spare held n 27 [c4] = some y4 := e4
      have e5 : DataW.trod enc Tryd.prog W base spare held n 24 (List.take (Tryd.prog.cellsOf 24) (List.drop 5 [c0, c1, c2, c3, c4, c5, c6])) = some y5 := hf 5 _ rfl
      rw [oc24_29] at e5
      replace e5 : DataW.trod enc Tryd.prog W base spare held n 24 [c5] = some y5 := e5
      have e6 : DataW.trod enc Tryd.prog W base spare held n 3 (List.take (Tryd.prog.cellsOf 3) (List.drop 6 [c0, c1, c2, c3, c4, c5, c6])) = some y6 := hf 6 _ rfl
      rw [oc3_29] at e6
      replace e6 : DataW.trod enc Tryd.prog W base spare held n 3 [c6] = some y6 := e6
      have w0 : ∀ m ∈ DataW.weights Tryd.prog 9 y0.1, m ≤ reachBytes := by
        intro m hm
        refine hw m ?_
        simp only [DataW.weights, Tryd.underlying29, List.map_cons, List.map_nil, DataW.weightsEach]
        exact List.mem_append_left _ hm
      have w1 : ∀ m ∈ DataW.weights Tryd.prog 9 y1.1, m ≤ reachBytes := by
        intro m hm
        refine hw m ?_
        simp only [DataW.weights, Tryd.underlying29, List.map_cons, List.map_nil, DataW.weightsEach]
        exact List.mem_append_right _ (List.mem_append_left _ hm)
      have w2 : ∀ m ∈ DataW.weights Tryd.prog 9 y2.1, m ≤ reachBytes := by
        intro m hm
        refine hw m ?_
        simp only [DataW.weights, Tryd.underlying29, List.map_cons, List.map_nil, DataW.weightsEach]
        exact List.mem_append_right _ (List.mem_append_right _ (List.mem_append_left _ hm))
      have w5 : ∀ m ∈ DataW.weights Tryd.prog 24 y5.1, m ≤ reachBytes := by
        intro m hm
        refine hw m ?_
        simp only [DataW.weights, Tryd.underlying29, List.map_cons, List.map_nil, DataW.weightsEach]
        exact List.mem_append_right _ (List.mem_append_right _ (List.mem_append_right _ (List.mem_append_right _ (List.mem_append_right _ (List.mem_append_left _ hm)))))
      obtain ⟨z0, r0', B0, m0⟩ := Rd.str Tryd.underlying9 enc W base spare held n [c0] y0 e0 w0
      have r0 : [c0] = [Value.string z0] := r0'
      replace m0 : z0.size + 1 ≤ Rows.uptoBulk y0.1 := m0
      obtain ⟨z1, r1', B1, m1⟩ := Rd.str Tryd.underlying9 enc W base spare held n [c1] y1 e1 w1
      have r1 : [c1] = [Value.string z1] := r1'
      replace m1 : z1.size + 1 ≤ Rows.uptoBulk y1.1 := m1
      obtain ⟨z2, r2', B2, m2⟩ := Rd.str Tryd.underlying9 enc W base spare held n [c2] y2 e2 w2
      have r2 : [c2] = [Value.string z2] := r2'
      replace m2 : z2.size + 1 ≤ Rows.uptoBulk y2.1 := m2
      obtain ⟨z3, r3, h3, q3⟩ := DataW.trod_int Tryd.underlying27 e3
      have m3 : 1 ≤ Rows.uptoBulk y3.1 := by rw [h3]; simp [Rows.uptoBulk]
      obtain ⟨z4, r4, h4, q4⟩ := DataW.trod_int Tryd.underlying27 e4
      have m4 : 1 ≤ Rows.uptoBulk y4.1 := by rw [h4]; simp [Rows.uptoBulk]
      obtain ⟨z5, A5, d5, r5, g5, C5, b5, k5, B5, m5⟩ := Rd.row (d := Kd.string) Tryd.underlying24 oce9_29 (Rd.str Tryd.underlying9) enc W base spare held n [c5] y5 e5 w5
      obtain ⟨z6, r6, h6, q6⟩ := DataW.trod_int Tryd.underlying3 e6
      have m6 : 1 ≤ Rows.uptoBulk y6.1 := by rw [h6]; simp [Rows.uptoBulk]
      simp only [List.cons.injEq, and_true] at r0 r1 r2 r3 r4 r5 r6
      subst r0 r1 r2 r3 r4 r5 r6
      refine ⟨⟨z0, z1, z2, z3, z4, z5, z6⟩, k29_mk W _ g5 C5, ⟨B0, B1, B2, ⟨k5, B5⟩⟩, ?_⟩
      simp only [Rows.uptoBulk, List.map_cons, List.map_nil, Rows.uptoBulkAll]
      omega
end Go.Proofs.YtdeannaaafffbaaDoor.Open
