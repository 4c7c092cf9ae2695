/-
  How a built literal's parts read (a struct of nine fields: numbers, two lists of bytes, a truth value, a text).
-/
import Derived.Test.YtcgjfckhnpimbaaDoorBuOpen
set_option linter.unusedVariables false
namespace Go.Proofs.YtcgjfckhnpimbaaDoor.Open
open Go.RowKit Go.Proofs.YtcgjfckhnpimbaaDoorW.PrintWords Go.ChangeShapes Go.WideShapes
theorem xc44 : Tryd.prog.cellsOf 44 = 9 := by kernel_rfl
theorem xc42 : Tryd.prog.cellsOf 42 = 1 := by kernel_rfl
theorem xc5 : Tryd.prog.cellsOf 5 = 1 := by kernel_rfl
theorem xc4 : Tryd.prog.cellsOf 4 = 1 := by kernel_rfl
theorem xc9 : Tryd.prog.cellsOf 9 = 1 := by kernel_rfl
theorem xc3 : Tryd.prog.cellsOf 3 = 1 := by kernel_rfl
theorem xb5 : Tryd.prog.bytesOf 5 = 1 := by kernel_rfl
set_option maxRecDepth 100000 in
theorem open44 {H : Type} (enc : TypeId × Value → H) (W : World) (base : Nat) (spare : Nat → Bool) (held : Bool) (fuel : Nat) (cs : List Value) (x : DataW H × List MemPlace)
    (h : DataW.trod enc Tryd.prog W base spare held fuel 44 cs = some x) (hw : ∀ n ∈ x.1.weights Tryd.prog 44, n ≤ reachBytes) :
    ∃ (a0 a1 : Int) (A2 : Option Addr) (c2 : Nat) (l2 : List Int) (b3 : Bool) (A4 : Option Addr) (c4 : Nat) (l4 : List Int) (a5 a6 a7 : Int) (s8 : ByteArray),
      cs = [.int .i64 a0, .int .i64 a1, .slice A2 l2.length c2, .bool b3, .slice A4 l4.length c4, .int .i64 a5, .int .i64 a6, .int .i64 a7, .string s8] ∧
      l2.length ≤ c2 ∧ Kd.C (Kd.int .u8) W A2 l2.length l2 ∧ l2.length ≤ reachBytes ∧ (∀ a ∈ l2, (Lit.int .u8 a).wf = true) ∧
      l4.length ≤ c4 ∧ Kd.C (Kd.int .u8) W A4 l4.length l4 ∧ l4.length ≤ reachBytes ∧ (∀ a ∈ l4, (Lit.int .u8 a).wf = true) ∧
      (Lit.int .i64 a7).wf = true ∧ s8.size ≤ reachBytes := by
  obtain ⟨xs, n, rfl, rfl, hl, hlen, hf⟩ := DataW.trod_struct Tryd.underlying44 h
  rw [xc44] at hl
  match cs, hl with
  | [c0, c1, c2, c3, c4, c5, c6, c7, c8], _ =>
    match xs, hlen with
    | [y0, y1, y2, y3, y4, y5, y6, y7, y8], _ =>
      have e0 : DataW.trod enc Tryd.prog W base spare held n 3 (List.take (Tryd.prog.cellsOf 3) (List.drop 0 [c0, c1, c2, c3, c4, c5, c6, c7, c8])) = some y0 := hf 0 _ rfl
      rw [xc3] at e0
      replace e0 : DataW.trod enc Tryd.prog W base spare held n 3 [c0] = some y0 := e0
      have e1 : DataW.trod enc Tryd.prog W base spare held n 3 (List.take (Tryd.prog.cellsOf 3) (List.drop 1 [c0, c1, c2, c3, c4, c5, c6, c7, c8])) = some y1 := hf 1 _ rfl
      rw [xc3] at e1
      replace e1 : DataW.trod enc Tryd.prog W base spare held n 3 [c1] = some y1 := e1
      have e2 : DataW.trod enc Tryd.prog W base spare held n 42 (List.take (Tryd.prog.cellsOf 42) (List.drop 2 [c0, c1, c2, c3, c4, c5, c6, c7, c8])) = some y2 := hf 2 _ rfl
      rw [xc42] at e2
      replace e2 : DataW.trod enc Tryd.prog W base spare held n 42 [c2] = some y2 := e2
      have e3 : DataW.trod enc Tryd.prog W base spare held n 4 (List.take (Tryd.prog.cellsOf 4) (List.drop 3 [c0, c1, c2, c3, c4, c5, c6, c7, c8])) = some y3 := hf 3 _ rfl
      rw [xc4] at e3
      replace e3 : DataW.trod enc Tryd.prog W base spare held n 4 [c3] = some y3 := e3
      have e4 : DataW.trod enc Tryd.prog W base spare held n 42 (List.take (Tryd.prog.cellsOf 42) (List.drop 4 [c0, c1, c2, c3, c4, c5, c6, c7, c8])) = some y4 := hf 4 _ rfl
      rw [xc42] at e4
      replace e4 : DataW.trod enc Tryd.prog W base spare held n 42 [c4] = some y4 := e4
      have e5 : DataW.trod enc Tryd.prog W base spare held n 3 (List.take (Tryd.prog.cellsOf 3) (List.drop 5 [c0, c1, c2, c3, c4, c5, c6, c7, c8])) = some y5 := hf 5 _ rfl
      rw [xc3] at e5
      replace e5 : DataW.trod enc Tryd.prog W base spare held n 3 [c5] = some y5 := e5
      have e6 : DataW.trod enc Tryd.prog W base spare held n 3 (List.take (Tryd.prog.cellsOf 3) (List.drop 6 [c0, c1, c2, c3, c4, c5, c6, c7, c8])) = some y6 := hf 6 _ rfl
      rw [xc3] at e6
      replace e6 : DataW.trod enc Tryd.prog W base spare held n 3 [c6] = some y6 := e6
      have e7 : DataW.trod enc Tryd.prog W base spare held n 3 (List.take (Tryd.prog.cellsOf 3) (List.drop 7 [c0, c1, c2, c3, c4, c5, c6, c7, c8])) = some y7 := hf 7 _ rfl
      rw [xc3] at e7
      replace e7 : DataW.trod enc Tryd.prog W base spare held n 3 [c7] = some y7 := e7
      have e8 : DataW.trod enc Tryd.prog W base spare held n 9 (List.take (Tryd.prog.cellsOf 9) (List.drop 8 [c0, c1, c2, c3, c4, c5, c6, c7, c8])) = some y8 := hf 8 _ rfl
      rw [xc9] at e8
      replace e8 : DataW.trod enc Tryd.prog W base spare held n 9 [c8] = some y8 := e8
      have w2 : ∀ m ∈ DataW.weights Tryd.prog 42 y2.1, m ≤ reachBytes := by
        intro m hm
        refine hw m ?_
        simp only [DataW.weights, Tryd.underlying44, List.map_cons, List.map_nil, DataW.weightsEach]
        exact List.mem_append_right _ (List.mem_append_right _ (List.mem_append_left _ hm))
      have w4 : ∀ m ∈ DataW.weights Tryd.prog 42 y4.1, m ≤ reachBytes := by
        intro m hm
        refine hw m ?_
        simp only [DataW.weights, Tryd.underlying44, List.map_cons, List.map_nil, DataW.weightsEach]
        exact List.mem_append_right _ (List.mem_append_right _ (List.mem_append_right _ (List.mem_append_right _ (List.mem_append_left _ hm))))
      have w8 : ∀ m ∈ DataW.weights Tryd.prog 9 y8.1, m ≤ reachBytes := by
        intro m hm
        refine hw m ?_
        simp only [DataW.weights, Tryd.underlying44, List.map_cons, List.map_nil, DataW.weightsEach]
        exact List.mem_append_right _ (List.mem_append_right _ (List.mem_append_right _ (List.mem_append_right _ (List.mem_append_right _ (List.mem_append_right _ (List.mem_append_right _ (List.mem_append_right _ (List.mem_append_left _ hm))))))))
      obtain ⟨z0, r0, _, _⟩ := DataW.trod_int Tryd.underlying3 e0
      obtain ⟨z1, r1, _, _⟩ := DataW.trod_int Tryd.underlying3 e1
      obtain ⟨l2, A2, d2, r2, g2, C2, b2, _, B2, _⟩ := Rd.row (d := Kd.int .u8) Tryd.underlying42 xc5 (Rd.int Tryd.underlying5) enc W base spare held n [c2] y2 e2 w2
      obtain ⟨z3, r3, _⟩ := DataW.trod_bool Tryd.underlying4 e3
      obtain ⟨l4, A4, d4, r4, g4, C4, b4, _, B4, _⟩ := Rd.row (d := Kd.int .u8) Tryd.underlying42 xc5 (Rd.int Tryd.underlying5) enc W base spare held n [c4] y4 e4 w4
      obtain ⟨z5, r5, _, _⟩ := DataW.trod_int Tryd.underlying3 e5
      obtain ⟨z6, r6, _, _⟩ := DataW.trod_int Tryd.underlying3 e6
      obtain ⟨z7, r7, _, q7⟩ := DataW.trod_int Tryd.underlying3 e7
      obtain ⟨s8, r8', B8, _⟩ := Rd.str Tryd.underlying9 enc W base spare held n [c8] y8 e8 w8
      have r8 : [c8] = [Value.string s8] := r8'
      simp only [List.cons.injEq, and_true] at r0 r1 r2 r3 r4 r5 r6 r7 r8
      subst r0 r1 r2 r3 r4 r5 r6 r7 r8
      rw [xb5, Nat.mul_one] at b2 b4
      exact ⟨z0, z1, A2, d2, l2, z3, A4, d4, l4, z5, z6, z7, s8, rfl, g2, C2, b2, B2, g4, C4, b4, B4, q7, B8⟩
end Go.Proofs.YtcgjfckhnpimbaaDoor.Open
