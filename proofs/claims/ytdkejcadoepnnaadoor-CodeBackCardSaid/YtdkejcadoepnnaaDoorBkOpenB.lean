/-
  How a code reads (a struct of three lists), and how the row's listed table of powers of ten serves the walks.
-/
import Derived.Test.YtdkejcadoepnnaaDoorBkOpen
import Derived.Test.YtdkejcadoepnnaaDoorBkX
import Derived.Test.YtdkejcadoepnnaaDoorBkECcx0
import Derived.Lib.LaidTab
import Derived.SizedLaws
import Derived.LaidOnce
set_option linter.unusedSimpArgs false
set_option linter.unusedVariables false
namespace Go.Proofs.YtdkejcadoepnnaaDoor.Open
open Go.RowKit Go.Proofs.YtdkejcadoepnnaaDoorW.PrintWords Go.ChangeShapes Go.WideShapes Go.Proofs.YtdkejcadoepnnaaDoor.ECc Go.Proofs.YtdkejcadoepnnaaDoor.X
theorem oc3_41 : Tryd.prog.cellsOf 3 = 1 := by kernel_rfl
theorem oc41 : Tryd.prog.cellsOf 41 = 3 := by kernel_rfl
set_option maxRecDepth 100000 in
theorem Rd.t41 : Rd 41 k41 (fun p => (Lit.int .i64 p.f0).wf = true ∧ (Lit.int .i64 p.f1).wf = true ∧ (Lit.int .i64 p.f2).wf = true) (fun p => 1 + 1 + 1 + 1) := by
 intro H enc W base spare held fuel cs x h hw
 obtain ⟨xs, n, rfl, rfl, hl, hlen, hf⟩ := DataW.trod_struct Tryd.underlying41 h
 rw [oc41] at hl
 match cs, hl with
 | [c0, c1, c2], _ =>
  match xs, hlen with
  | [y0, y1, y2], _ =>
   have e0 : DataW.trod enc Tryd.prog W base spare held n 3 (List.take (Tryd.prog.cellsOf 3) (List.drop 0 [c0, c1, c2])) = some y0 := hf 0 _ rfl
   rw [oc3_41] at e0
   replace e0 : DataW.trod enc Tryd.prog W base spare held n 3 [c0] = some y0 := e0
   have e1 : DataW.trod enc Tryd.prog W base spare held n 3 (List.take (Tryd.prog.cellsOf 3) (List.drop 1 [c0, c1, c2])) = some y1 := hf 1 _ rfl
   rw [oc3_41] at e1
   replace e1 : DataW.trod enc Tryd.prog W base spare held n 3 [c1] = some y1 := e1
   have e2 : DataW.trod enc Tryd.prog W base spare held n 3 (List.take (Tryd.prog.cellsOf 3) (List.drop 2 [c0, c1, c2])) = some y2 := hf 2 _ rfl
   rw [oc3_41] at e2
   replace e2 : DataW.trod enc Tryd.prog W base spare held n 3 [c2] = some y2 := e2
   obtain ⟨z0, r0, h0, q0⟩ := DataW.trod_int Tryd.underlying3 e0
   have m0 : 1 ≤ Rows.uptoBulk y0.1 := by rw [h0]; simp [Rows.uptoBulk]
   obtain ⟨z1, r1, h1, q1⟩ := DataW.trod_int Tryd.underlying3 e1
   have m1 : 1 ≤ Rows.uptoBulk y1.1 := by rw [h1]; simp [Rows.uptoBulk]
   obtain ⟨z2, r2, h2, q2⟩ := DataW.trod_int Tryd.underlying3 e2
   have m2 : 1 ≤ Rows.uptoBulk y2.1 := by rw [h2]; simp [Rows.uptoBulk]
   simp only [List.cons.injEq, and_true] at r0 r1 r2
   subst r0 r1 r2
   refine ⟨⟨z0, z1, z2⟩, k41_mk W _ , ⟨q0, q1, q2⟩, ?_⟩
   simp only [Rows.uptoBulk, List.map_cons, List.map_nil, Rows.uptoBulkAll]
   omega
theorem xb41 : Tryd.prog.bytesOf 41 = 24 := by kernel_rfl
theorem xb66 : Tryd.prog.bytesOf 66 = 8 := by kernel_rfl
theorem xb9 : Tryd.prog.bytesOf 9 = 16 := by kernel_rfl
theorem oc22 : Tryd.prog.cellsOf 22 = 1 := by kernel_rfl
theorem oc23 : Tryd.prog.cellsOf 23 = 1 := by kernel_rfl
theorem oc24 : Tryd.prog.cellsOf 24 = 1 := by kernel_rfl
theorem oc26 : Tryd.prog.cellsOf 26 = 3 := by kernel_rfl
theorem oc66 : Tryd.prog.cellsOf 66 = 1 := by kernel_rfl
theorem oc9 : Tryd.prog.cellsOf 9 = 1 := by kernel_rfl
theorem len_sum {α : Type} (c : Nat) (hc : 1 ≤ c) : ∀ l : List α, l.length ≤ (l.map fun _ => c).sum
 | [] => Nat.le_refl _
 | a :: l => by
  have := len_sum c hc l
  rw [List.map_cons, List.sum_cons, List.length_cons]
  omega
/-- The instruction's numbers are int64. -/
abbrev BI (x : S41) : Prop := (Lit.int .i64 x.f0).wf = true ∧ (Lit.int .i64 x.f1).wf = true ∧ (Lit.int .i64 x.f2).wf = true
set_option maxRecDepth 100000 in
theorem open26 {H : Type} (enc : TypeId × Value → H) (W : World) (base : Nat) (spare : Nat → Bool) (held : Bool) (fuel : Nat) (cs : List Value) (x : DataW H × List MemPlace)
  (h : DataW.trod enc Tryd.prog W base spare held fuel 26 cs = some x) (hw : ∀ n ∈ x.1.weights Tryd.prog 26, n ≤ reachBytes) :
  ∃ (l0 : List S41) (A0 : Option Addr) (c0 : Nat) (l1 : List Int) (A1 : Option Addr) (c1 : Nat) (l2 : List ByteArray) (A2 : Option Addr) (c2 : Nat),
   cs = [.slice A0 l0.length c0, .slice A1 l1.length c1, .slice A2 l2.length c2] ∧ (l0.length ≤ c0 ∧ Kd.C k41 W A0 l0.length l0) ∧ (l1.length ≤ c1 ∧ Kd.C (Kd.int .u64) W A1 l1.length l1) ∧ (l2.length ≤ c2 ∧ Kd.C Kd.string W A2 l2.length l2) ∧
   (l0.length * 24 ≤ reachBytes ∧ ∀ a ∈ l0, BI a) ∧ (l1.length * 8 ≤ reachBytes ∧ ∀ a ∈ l1, (Lit.int .u64 a).wf = true) ∧ (l2.length * 16 ≤ reachBytes ∧ ∀ a ∈ l2, a.size ≤ reachBytes) ∧
   l0.length + l1.length + ((l2.map fun s => s.size + 1).sum) ≤ Rows.uptoBulk x.1 := by
 obtain ⟨xs, n, rfl, rfl, hl, hlen, hf⟩ := DataW.trod_struct Tryd.underlying26 h
 rw [oc26] at hl
 match cs, hl with
 | [c0, c1, c2], _ =>
  match xs, hlen with
  | [y0, y1, y2], _ =>
   have e0 : DataW.trod enc Tryd.prog W base spare held n 22 (List.take (Tryd.prog.cellsOf 22) (List.drop 0 [c0, c1, c2])) = some y0 := hf 0 _ rfl
   rw [oc22] at e0
   replace e0 : DataW.trod enc Tryd.prog W base spare held n 22 [c0] = some y0 := e0
   have e1 : DataW.trod enc Tryd.prog W base spare held n 23 (List.take (Tryd.prog.cellsOf 23) (List.drop 1 [c0, c1, c2])) = some y1 := hf 1 _ rfl
   rw [oc23] at e1
   replace e1 : DataW.trod enc Tryd.prog W base spare held n 23 [c1] = some y1 := e1
   have e2 : DataW.trod enc Tryd.prog W base spare held n 24 (List.take (Tryd.prog.cellsOf 24) (List.drop 2 [c0, c1, c2])) = some y2 := hf 2 _ rfl
   rw [oc24] at e2
   replace e2 : DataW.trod enc Tryd.prog W base spare held n 24 [c2] = some y2 := e2
   have w0 : ∀ m ∈ DataW.weights Tryd.prog 22 y0.1, m ≤ reachBytes := by
    intro m hm
    refine hw m ?_
    simp only [DataW.weights, Tryd.underlying26, List.map_cons, List.map_nil, DataW.weightsEach]
    exact List.mem_append_left _ hm
   have w1 : ∀ m ∈ DataW.weights Tryd.prog 23 y1.1, m ≤ reachBytes := by
    intro m hm
    refine hw m ?_
    simp only [DataW.weights, Tryd.underlying26, List.map_cons, List.map_nil, DataW.weightsEach]
    exact List.mem_append_right _ (List.mem_append_left _ hm)
   have w2 : ∀ m ∈ DataW.weights Tryd.prog 24 y2.1, m ≤ reachBytes := by
    intro m hm
    refine hw m ?_
    simp only [DataW.weights, Tryd.underlying26, List.map_cons, List.map_nil, DataW.weightsEach]
    exact List.mem_append_right _ (List.mem_append_right _ (List.mem_append_left _ hm))
   obtain ⟨z0, A0, d0, r0, g0, C0, b0, k0, B0, m0⟩ := Rd.row (d := k41) Tryd.underlying22 oc41 Rd.t41 enc W base spare held n [c0] y0 e0 w0
   obtain ⟨z1, A1, d1, r1, g1, C1, b1, k1, B1, m1⟩ := Rd.row (d := Kd.int .u64) Tryd.underlying23 oc66 (Rd.int Tryd.underlying66) enc W base spare held n [c1] y1 e1 w1
   obtain ⟨z2, A2, d2, r2, g2, C2, b2, k2, B2, m2⟩ := Rd.row (d := Kd.string) Tryd.underlying24 oc9 (Rd.str Tryd.underlying9) enc W base spare held n [c2] y2 e2 w2
   simp only [List.cons.injEq, and_true] at r0 r1 r2
   subst r0 r1 r2
   refine ⟨z0, A0, d0, z1, A1, d1, z2, A2, d2, rfl, ⟨g0, C0⟩, ⟨g1, C1⟩, ⟨g2, C2⟩, ⟨xb41 ▸ b0, B0⟩, ⟨xb66 ▸ b1, B1⟩, ⟨xb9 ▸ b2, B2⟩, ?_⟩
   have s0 := len_sum 4 (by omega) z0
   have s1 := len_sum 1 (by omega) z1
   replace m0 : (z0.map fun _ => 4).sum + 1 ≤ Rows.uptoBulk y0.1 := m0
   replace m1 : (z1.map fun _ => 1).sum + 1 ≤ Rows.uptoBulk y1.1 := m1
   replace m2 : (z2.map fun s => s.size + 1).sum + 1 ≤ Rows.uptoBulk y2.1 := m2
   simp only [Rows.uptoBulk, List.map_cons, List.map_nil, Rows.uptoBulkAll]
   omega
/-- The bounds, as the plain laws take them. -/
theorem bounds_i {l : List S41} (h : ∀ a ∈ l, BI a) : ∀ x ∈ l, (-9223372036854775808 ≤ x.f1 ∧ x.f1 ≤ 9223372036854775807) ∧ (-9223372036854775808 ≤ x.f2 ∧ x.f2 ≤ 9223372036854775807) := by
 intro x hx
 obtain ⟨-, h1, h2⟩ := h x hx
 simp [Lit.wf, IntKind.min, IntKind.max, IntKind.signed, IntKind.bits] at h1 h2
 omega
theorem bounds_u {l : List Int} (h : ∀ a ∈ l, (Lit.int .u64 a).wf = true) : ∀ x ∈ l, 0 ≤ x ∧ x < 2 ^ 64 := by
 intro x hx
 have h1 := h x hx
 simp [Lit.wf, IntKind.min, IntKind.max, IntKind.signed, IntKind.bits] at h1
 omega
theorem bounds_b {l : List Int} (h : ∀ a ∈ l, (Lit.int .u8 a).wf = true) : ∀ x ∈ l, 0 ≤ x ∧ x < 256 := by
 intro x hx
 have h1 := h x hx
 simp [Lit.wf, IntKind.min, IntKind.max, IntKind.signed, IntKind.bits] at h1
 omega
theorem bounds_s {l : List ByteArray} (h : ∀ a ∈ l, a.size ≤ reachBytes) : ∀ s ∈ l, s.size < 4611686018427387904 := by
 intro s hs
 have h1 := h s hs
 unfold reachBytes at h1
 omega
theorem laid_tail {P : Program} {x : String × DataW Unit} {r : List (String × DataW Unit)} {w : World} (h : laidMet P (x :: r) w) : laidMet P r w := by
 obtain ⟨ps, hl, hn, hc⟩ := h
 obtain ⟨g, t, cs, fuel, p, q, _, _, _, _, hq, rfl⟩ := hl
 exact ⟨q, hq, (List.nodup_append.1 hn).2.1, fun b off hm => hc b off (List.mem_append_right _ hm)⟩
theorem powData : (Rows.laid_internal_strconv_uint64pow10 : DataW Unit) = Lib.tabData .u64 Lib.pow10Tab := by kernel_rfl
noncomputable def tPow : TypeId := ((Tryd.prog.globals[0]?).map (·.type)).getD 0
noncomputable def ePow : TypeId := match Tryd.prog.underlying tPow with | some (.array _ e) => e | _ => 0
theorem gw_of {a b : String × DataW Unit} {rest : List (String × DataW Unit)} {W : World} (h : laidMet Tryd.prog (a :: b :: ("internal/strconv.uint64pow10", Rows.laid_internal_strconv_uint64pow10) :: rest) W) : GW W := by
 have h2 := laid_tail (laid_tail h)
 rw [powData] at h2
 exact Lib.tabIs_of_head (t := tPow) (e := ePow) (n := 20) gPow (by kernel_rfl) (by kernel_rfl) (by kernel_rfl) (by kernel_rfl) (by kernel_rfl) h2
end Go.Proofs.YtdkejcadoepnnaaDoor.Open
