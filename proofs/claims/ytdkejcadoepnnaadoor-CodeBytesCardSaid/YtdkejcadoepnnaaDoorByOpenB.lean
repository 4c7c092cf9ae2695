/-
  How a code reads (a struct of three lists), and how the row's listed table of powers of ten serves the walks.
-/
import Derived.Test.YtdkejcadoepnnaaDoorByOpen
import Derived.Test.YtdkejcadoepnnaaDoorByX
import Derived.Test.YtdkejcadoepnnaaDoorByECcx0
import Derived.Lib.LaidTab
import Derived.SizedLaws
import Derived.LaidOnce
set_option linter.unusedSimpArgs false
set_option linter.unusedVariables false
namespace Go.Proofs.YtdkejcadoepnnaaDoor.Open
open Go.RowKit Go.Proofs.YtdkejcadoepnnaaDoorW.PrintWords Go.ChangeShapes Go.WideShapes Go.Proofs.YtdkejcadoepnnaaDoor.ECc Go.Proofs.YtdkejcadoepnnaaDoor.X
theorem oc5 : Tryd.prog.cellsOf 5 = 1 := by kernel_rfl
theorem bounds_b {l : List Int} (h : ∀ a ∈ l, (Lit.int .u8 a).wf = true) : ∀ x ∈ l, 0 ≤ x ∧ x < 256 := by
 intro x hx
 have h1 := h x hx
 simp [Lit.wf, IntKind.min, IntKind.max, IntKind.signed, IntKind.bits] at h1
 omega
theorem laid_tail {P : Program} {x : String × DataW Unit} {r : List (String × DataW Unit)} {w : World} (h : laidMet P (x :: r) w) : laidMet P r w := by
 obtain ⟨ps, hl, hn, hc⟩ := h
 obtain ⟨g, t, cs, fuel, p, q, _, _, _, _, hq, rfl⟩ := hl
 exact ⟨q, hq, (List.nodup_append.1 hn).2.1, fun b off hm => hc b off (List.mem_append_right _ hm)⟩
theorem powData : (Rows.laid_internal_strconv_uint64pow10 : DataW Unit) = Lib.tabData .u64 Lib.pow10Tab := by kernel_rfl
noncomputable def tPow : TypeId := ((Tryd.prog.globals[0]?).map (·.type)).getD 0
noncomputable def ePow : TypeId := match Tryd.prog.underlying tPow with | some (.array _ e) => e | _ => 0
theorem gw_of {a b : String × DataW Unit} {rest : List (String × DataW Unit)} {W : World} (h : laidMet Tryd.prog (a :: b :: ("internal/strconv.uint64pow10", Rows.laid_internal_strconv_uint64pow10) :: rest) W) : GW W := by
 have h2 := laid_tail (laid_tail h)
 rw [powData] at h2
 exact Lib.tabIs_of_head (t := tPow) (e := ePow) (n := 20) gPow (by kernel_rfl) (by kernel_rfl) (by kernel_rfl) (by kernel_rfl) (by kernel_rfl) h2
end Go.Proofs.YtdkejcadoepnnaaDoor.Open
