/-
  Several texts of this session's own in one: OpenB OpenD Qn.
-/
import Derived.Test.YtlmijjekaelhcaaDoorExOpen
import Derived.Test.YtlmijjekaelhcaaDoorExX
import Derived.Test.YtlmijjekaelhcaaDoorExEDpx0
import Derived.Lib.LaidTab
import Derived.SizedLaws
import Derived.LaidOnce
import Derived.Test.YtlmijjekaelhcaaDoorExQm
section
set_option linter.unusedVariables false
namespace Go.Proofs.YtlmijjekaelhcaaDoor.Open
open Go.RowKit Go.Proofs.YtlmijjekaelhcaaDoorW.PrintWords Go.ChangeShapes Go.WideShapes Go.Proofs.YtlmijjekaelhcaaDoor.EDi Go.Proofs.YtlmijjekaelhcaaDoor.X
theorem oc3_25 : Tryd.prog.cellsOf 3 = 1 := by kernel_rfl
theorem oc5_25 : Tryd.prog.cellsOf 5 = 1 := by kernel_rfl
theorem oc9_25 : Tryd.prog.cellsOf 9 = 1 := by kernel_rfl
theorem oc25 : Tryd.prog.cellsOf 25 = 7 := by kernel_rfl
set_option maxRecDepth 100000 in
theorem Rd.t25 : Rd 25 k25 (fun p => p.f0.size ≤ reachBytes ∧ (Lit.int .u8 p.f1).wf = true ∧ (Lit.int .i64 p.f2).wf = true ∧ (Lit.int .i64 p.f3).wf = true ∧ (Lit.int .i64 p.f4).wf = true ∧ (Lit.int .i64 p.f5).wf = true ∧ (Lit.int .i64 p.f6).wf = true) (fun p => (p.f0.size + 1) + 1 + 1 + 1 + 1 + 1 + 1 + 1) := by
 intro H enc W base spare held fuel cs x h hw
 obtain ⟨xs, n, rfl, rfl, hl, hlen, hf⟩ := DataW.trod_struct Tryd.underlying25 h
 rw [oc25] at hl
 match cs, hl with
 | [c0, c1, c2, c3, c4, c5, c6], _ =>
  match xs, hlen with
  | [y0, y1, y2, y3, y4, y5, y6], _ =>
   have e0 : DataW.trod enc Tryd.prog W base spare held n 9 (List.take (Tryd.prog.cellsOf 9) (List.drop 0 [c0, c1, c2, c3, c4, c5, c6])) = some y0 := hf 0 _ rfl
   rw [oc9_25] at e0
   replace e0 : DataW.trod enc Tryd.prog W base spare held n 9 [c0] = some y0 := e0
   have e1 : DataW.trod enc Tryd.prog W base spare held n 5 (List.take (Tryd.prog.cellsOf 5) (List.drop 1 [c0, c1, c2, c3, c4, c5, c6])) = some y1 := hf 1 _ rfl
   rw [oc5_25] at e1
   replace e1 : DataW.trod enc Tryd.prog W base spare held n 5 [c1] = some y1 := e1
   have e2 : DataW.trod enc Tryd.prog W base spare held n 3 (List.take (Tryd.prog.cellsOf 3) (List.drop 2 [c0, c1, c2, c3, c4, c5, c6])) = some y2 := hf 2 _ rfl
   rw [oc3_25] at e2
   replace e2 : DataW.trod enc Tryd.prog W base spare held n 3 [c2] = some y2 := e2
   have e3 : DataW.trod enc Tryd.prog W base spare held n 3 (List.take (Tryd.prog.cellsOf 3) (List.drop 3 [c0, c1, c2, c3, c4, c5, c6])) = some y3 := hf 3 _ rfl
   rw [oc3_25] at e3
   replace e3 : DataW.trod enc Tryd.prog W base spare held n 3 [c3] = some y3 := e3
   have e4 : DataW.trod enc Tryd.prog W base spare held n 3 (List.take (Tryd.prog.cellsOf 3) (List.drop 4 [c0, c1, c2, c3, c4, c5, c6])) = some y4 := hf 4 _ rfl
   rw [oc3_25] at e4
   replace e4 : DataW.trod enc Tryd.prog W base spare held n 3 [c4] = some y4 := e4
   have e5 : DataW.trod enc Tryd.prog W base spare held n 3 (List.take (Tryd.prog.cellsOf 3) (List.drop 5 [c0, c1, c2, c3, c4, c5, c6])) = some y5 := hf 5 _ rfl
   rw [oc3_25] at e5
   replace e5 : DataW.trod enc Tryd.prog W base spare held n 3 [c5] = some y5 := e5
   have e6 : DataW.trod enc Tryd.prog W base spare held n 3 (List.take (Tryd.prog.cellsOf 3) (List.drop 6 [c0, c1, c2, c3, c4, c5, c6])) = some y6 := hf 6 _ rfl
   rw [oc3_25] at e6
   replace e6 : DataW.trod enc Tryd.prog W base spare held n 3 [c6] = some y6 := e6
   have w0 : ∀ m ∈ DataW.weights Tryd.prog 9 y0.1, m ≤ reachBytes := by
    intro m hm
    refine hw m ?_
    simp only [DataW.weights, Tryd.underlying25, List.map_cons, List.map_nil, DataW.weightsEach]
    exact List.mem_append_left _ hm
   obtain ⟨z0, r0', B0, m0⟩ := Rd.str Tryd.underlying9 enc W base spare held n [c0] y0 e0 w0
   have r0 : [c0] = [Value.string z0] := r0'
   replace m0 : z0.size + 1 ≤ Rows.uptoBulk y0.1 := m0
   obtain ⟨z1, r1, h1, q1⟩ := DataW.trod_int Tryd.underlying5 e1
   have m1 : 1 ≤ Rows.uptoBulk y1.1 := by rw [h1]; simp [Rows.uptoBulk]
   obtain ⟨z2, r2, h2, q2⟩ := DataW.trod_int Tryd.underlying3 e2
   have m2 : 1 ≤ Rows.uptoBulk y2.1 := by rw [h2]; simp [Rows.uptoBulk]
   obtain ⟨z3, r3, h3, q3⟩ := DataW.trod_int Tryd.underlying3 e3
   have m3 : 1 ≤ Rows.uptoBulk y3.1 := by rw [h3]; simp [Rows.uptoBulk]
   obtain ⟨z4, r4, h4, q4⟩ := DataW.trod_int Tryd.underlying3 e4
   have m4 : 1 ≤ Rows.uptoBulk y4.1 := by rw [h4]; simp [Rows.uptoBulk]
   obtain ⟨z5, r5, h5, q5⟩ := DataW.trod_int Tryd.underlying3 e5
   have m5 : 1 ≤ Rows.uptoBulk y5.1 := by rw [h5]; simp [Rows.uptoBulk]
   obtain ⟨z6, r6, h6, q6⟩ := DataW.trod_int Tryd.underlying3 e6
   have m6 : 1 ≤ Rows.uptoBulk y6.1 := by rw [h6]; simp [Rows.uptoBulk]
   simp only [List.cons.injEq, and_true] at r0 r1 r2 r3 r4 r5 r6
   subst r0 r1 r2 r3 r4 r5 r6
   refine ⟨⟨z0, z1, z2, z3, z4, z5, z6⟩, k25_mk W _ , ⟨B0, q1, q2, q3, q4, q5, q6⟩, ?_⟩
   simp only [Rows.uptoBulk, List.map_cons, List.map_nil, Rows.uptoBulkAll]
   omega
theorem laid_tail {P : Program} {x : String × DataW Unit} {r : List (String × DataW Unit)} {w : World} (h : laidMet P (x :: r) w) : laidMet P r w := by
 obtain ⟨ps, hl, hn, hc⟩ := h
 obtain ⟨g, t, cs, fuel, p, q, _, _, _, _, hq, rfl⟩ := hl
 exact ⟨q, hq, (List.nodup_append.1 hn).2.1, fun b off hm => hc b off (List.mem_append_right _ hm)⟩
theorem powData : (Rows.laid_internal_strconv_uint64pow10 : DataW Unit) = Lib.tabData .u64 Lib.pow10Tab := by kernel_rfl
noncomputable def tPow : TypeId := ((Tryd.prog.globals[1]?).map (·.type)).getD 0
noncomputable def ePow : TypeId := match Tryd.prog.underlying tPow with | some (.array _ e) => e | _ => 0
theorem gw_of {a b : String × DataW Unit} {rest : List (String × DataW Unit)} {W : World} (h : laidMet Tryd.prog (a :: b :: ("internal/strconv.uint64pow10", Rows.laid_internal_strconv_uint64pow10) :: rest) W) : GW W := by
 have h2 := laid_tail (laid_tail h)
 rw [powData] at h2
 exact Lib.tabIs_of_head (t := tPow) (e := ePow) (n := 20) gPow (by kernel_rfl) (by kernel_rfl) (by kernel_rfl) (by kernel_rfl) (by kernel_rfl) h2
end Go.Proofs.YtlmijjekaelhcaaDoor.Open
end
section
set_option linter.unusedVariables false
namespace Go.Proofs.YtlmijjekaelhcaaDoor.Open
open Go.RowKit Go.Proofs.YtlmijjekaelhcaaDoorW.PrintWords Go.ChangeShapes Go.WideShapes Go.Proofs.YtlmijjekaelhcaaDoor.EDi Go.Proofs.YtlmijjekaelhcaaDoor.X
theorem oc22_43 : Tryd.prog.cellsOf 22 = 1 := by kernel_rfl
theorem oc43 : Tryd.prog.cellsOf 43 = 12 := by kernel_rfl
abbrev BP (p : S25) : Prop := p.f0.size ≤ reachBytes ∧ (Lit.int .u8 p.f1).wf = true ∧ (Lit.int .i64 p.f2).wf = true ∧ (Lit.int .i64 p.f3).wf = true ∧ (Lit.int .i64 p.f4).wf = true ∧ (Lit.int .i64 p.f5).wf = true ∧ (Lit.int .i64 p.f6).wf = true
abbrev mP (p : S25) : Nat := (p.f0.size + 1) + 1 + 1 + 1 + 1 + 1 + 1 + 1
set_option maxRecDepth 100000 in
theorem Rd.t43 : Rd 43 k43 (fun x => BP x.f2 ∧ ∀ q ∈ x.f3, BP q) (fun x => (x.f1.size + 1) + mP x.f2 + ((x.f3.map mP).sum + 1) + 1) := by
 intro H enc W base spare held fuel cs x h hw
 obtain ⟨xs, n, rfl, rfl, hl, hlen, hf⟩ := DataW.trod_struct Tryd.underlying43 h
 rw [oc43] at hl
 match cs, hl with
 | [c0, c1, c2, c3, c4, c5, c6, c7, c8, c9, c10, c11], _ =>
  match xs, hlen with
  | [y0, y1, y2, y3, y4, y5], _ =>
   have e0 : DataW.trod enc Tryd.prog W base spare held n 3 (List.take (Tryd.prog.cellsOf 3) (List.drop 0 [c0, c1, c2, c3, c4, c5, c6, c7, c8, c9, c10, c11])) = some y0 := hf 0 _ rfl
   rw [oc3_25] at e0
   replace e0 : DataW.trod enc Tryd.prog W base spare held n 3 [c0] = some y0 := e0
   have e1 : DataW.trod enc Tryd.prog W base spare held n 9 (List.take (Tryd.prog.cellsOf 9) (List.drop 1 [c0, c1, c2, c3, c4, c5, c6, c7, c8, c9, c10, c11])) = some y1 := hf 1 _ rfl
   rw [oc9_25] at e1
   replace e1 : DataW.trod enc Tryd.prog W base spare held n 9 [c1] = some y1 := e1
   have e2 : DataW.trod enc Tryd.prog W base spare held n 25 (List.take (Tryd.prog.cellsOf 25) (List.drop 2 [c0, c1, c2, c3, c4, c5, c6, c7, c8, c9, c10, c11])) = some y2 := hf 2 _ rfl
   rw [oc25] at e2
   replace e2 : DataW.trod enc Tryd.prog W base spare held n 25 [c2, c3, c4, c5, c6, c7, c8] = some y2 := e2
   have e3 : DataW.trod enc Tryd.prog W base spare held n 22 (List.take (Tryd.prog.cellsOf 22) (List.drop 9 [c0, c1, c2, c3, c4, c5, c6, c7, c8, c9, c10, c11])) = some y3 := hf 3 _ rfl
   rw [oc22_43] at e3
   replace e3 : DataW.trod enc Tryd.prog W base spare held n 22 [c9] = some y3 := e3
   have e4 : DataW.trod enc Tryd.prog W base spare held n 3 (List.take (Tryd.prog.cellsOf 3) (List.drop 10 [c0, c1, c2, c3, c4, c5, c6, c7, c8, c9, c10, c11])) = some y4 := hf 4 _ rfl
   rw [oc3_25] at e4
   replace e4 : DataW.trod enc Tryd.prog W base spare held n 3 [c10] = some y4 := e4
   have e5 : DataW.trod enc Tryd.prog W base spare held n 3 (List.take (Tryd.prog.cellsOf 3) (List.drop 11 [c0, c1, c2, c3, c4, c5, c6, c7, c8, c9, c10, c11])) = some y5 := hf 5 _ rfl
   rw [oc3_25] at e5
   replace e5 : DataW.trod enc Tryd.prog W base spare held n 3 [c11] = some y5 := e5
   have w1 : ∀ m ∈ DataW.weights Tryd.prog 9 y1.1, m ≤ reachBytes := by
    intro m hm
    refine hw m ?_
    simp only [DataW.weights, Tryd.underlying43, List.map_cons, List.map_nil, DataW.weightsEach]
    exact List.mem_append_right _ (List.mem_append_left _ hm)
   have w2 : ∀ m ∈ DataW.weights Tryd.prog 25 y2.1, m ≤ reachBytes := by
    intro m hm
    refine hw m ?_
    simp only [DataW.weights, Tryd.underlying43, List.map_cons, List.map_nil, DataW.weightsEach]
    exact List.mem_append_right _ (List.mem_append_right _ (List.mem_append_left _ hm))
   have w3 : ∀ m ∈ DataW.weights Tryd.prog 22 y3.1, m ≤ reachBytes := by
    intro m hm
    refine hw m ?_
    simp only [DataW.weights, Tryd.underlying43, List.map_cons, List.map_nil, DataW.weightsEach]
    exact List.mem_append_right _ (List.mem_append_right _ (List.mem_append_right _ (List.mem_append_left _ hm)))
   obtain ⟨z0, r0, h0, q0⟩ := DataW.trod_int Tryd.underlying3 e0
   have m0 : 1 ≤ Rows.uptoBulk y0.1 := by rw [h0]; simp [Rows.uptoBulk]
   obtain ⟨z1, r1', B1, m1⟩ := Rd.str Tryd.underlying9 enc W base spare held n [c1] y1 e1 w1
   have r1 : [c1] = [Value.string z1] := r1'
   replace m1 : z1.size + 1 ≤ Rows.uptoBulk y1.1 := m1
   obtain ⟨z2, K2, B2, m2⟩ := Rd.t25 enc W base spare held n [c2, c3, c4, c5, c6, c7, c8] y2 e2 w2
   have r2 := k25_open K2
   replace m2 : mP z2 ≤ Rows.uptoBulk y2.1 := m2
   obtain ⟨z3, A3, d3, r3, g3, C3, b3, _, B3, m3⟩ := Rd.row (d := k25) Tryd.underlying22 oc25 Rd.t25 enc W base spare held n [c9] y3 e3 w3
   replace m3 : (z3.map mP).sum + 1 ≤ Rows.uptoBulk y3.1 := m3
   obtain ⟨z4, r4, h4, q4⟩ := DataW.trod_int Tryd.underlying3 e4
   have m4 : 1 ≤ Rows.uptoBulk y4.1 := by rw [h4]; simp [Rows.uptoBulk]
   obtain ⟨z5, r5, h5, q5⟩ := DataW.trod_int Tryd.underlying3 e5
   have m5 : 1 ≤ Rows.uptoBulk y5.1 := by rw [h5]; simp [Rows.uptoBulk]
   simp only [List.cons.injEq, and_true] at r0 r1 r2 r3 r4 r5
   obtain ⟨rfl, rfl, rfl, rfl, rfl, rfl, rfl⟩ := r2
   subst r0 r1 r3 r4 r5
   refine ⟨⟨z0, z1, z2, z3, z4, z5⟩, k43_mk W ⟨z0, z1, z2, z3, z4, z5⟩ g3 C3, ⟨B2, B3⟩, ?_⟩
   simp only [Rows.uptoBulk, List.map_cons, List.map_nil, Rows.uptoBulkAll]
   omega
end Go.Proofs.YtlmijjekaelhcaaDoor.Open
end
section
set_option linter.unusedVariables false
set_option linter.unusedSimpArgs false
namespace Go.Proofs.YtlmijjekaelhcaaDoor.Pl
open Go.RowKit Go.Proofs.YtlmijjekaelhcaaDoorW.PrintWords Go.Proofs.YtlmijjekaelhcaaDoor.EDi Go.Proofs.YtlmijjekaelhcaaDoor.X Go.Proofs.YtlmijjekaelhcaaDoor.Open
def mC (x : S43) : Nat := (x.f1.size + 1) + mP x.f2 + ((x.f3.map mP).sum + 1) + 1
theorem le_sum {α : Type} (m : α → Nat) : ∀ {l : List α} {x : α}, x ∈ l → m x ≤ (l.map m).sum
 | [], _, h => by cases h
 | a :: l, x, h => by
  rw [List.map_cons, List.sum_cons]
  rcases List.mem_cons.1 h with rfl | h
  ·omega
  ·have := le_sum m h
   omega
theorem len_sum {α : Type} (m : α → Nat) (hm : ∀ x, 1 ≤ m x) : ∀ l : List α, l.length ≤ (l.map m).sum
 | [] => by simp
 | a :: l => by
  rw [List.map_cons, List.sum_cons, List.length_cons]
  have := len_sum m hm l
  have := hm a
  omega
theorem bp_rng {p : S25} (h : BP p) : Rng p := by
 obtain ⟨_, h1, h2, _⟩ := h
 simp [Lit.wf, IntKind.min, IntKind.max, IntKind.signed, IntKind.bits] at h1 h2
 unfold Rng I64
 omega
theorem calls_ok (l : List S43) (hB : ∀ x ∈ l, BP x.f2 ∧ ∀ q ∈ x.f3, BP q) (hs : (l.map mC).sum ≤ 1048576) : l.length ≤ 1099511627776 ∧ ∀ x ∈ l, CallOk x := by
 have h1 := len_sum mC (fun x => by unfold mC; omega) l
 refine ⟨by omega, fun x hx => ?_⟩
 have h2 := le_sum mC hx
 obtain ⟨b1, b2⟩ := hB x hx
 have h3 : mC x = (x.f1.size + 1) + mP x.f2 + ((x.f3.map mP).sum + 1) + 1 := rfl
 have h4 : mP x.f2 = (x.f2.f0.size + 1) + 1 + 1 + 1 + 1 + 1 + 1 + 1 := rfl
 have h5 := tot_le mP (fun q => by show q.f0.size + 1 ≤ (q.f0.size + 1) + 1 + 1 + 1 + 1 + 1 + 1 + 1; omega) x.f3
 refine ⟨by omega, bp_rng b1, by omega, fun q hq => bp_rng (b2 q hq), fun q hq => ?_, by omega, by omega⟩
 have h6 := le_sum mP hq
 have h7 : mP q = (q.f0.size + 1) + 1 + 1 + 1 + 1 + 1 + 1 + 1 := rfl
 omega
end Go.Proofs.YtlmijjekaelhcaaDoor.Pl
end
