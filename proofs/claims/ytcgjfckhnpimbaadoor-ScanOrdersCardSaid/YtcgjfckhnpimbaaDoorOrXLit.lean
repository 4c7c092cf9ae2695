/-
  Several texts of this session's own in one: XLitA XLitB XLitC XLit.
-/
import Derived.Test.YtcgjfckhnpimbaaDoorOrX
import Derived.Test.YtcgjfckhnpimbaaDoorOrXDef
import Derived.ScopeJumps
import Derived.WalkMore
import Derived.WalkKit
import Derived.Laws.Rows
import Derived.Deep.QuietTactic
import Derived.BigQuiet
import Derived.StillTailTactics
section
set_option linter.unusedVariables false
set_option linter.unusedSimpArgs false
namespace Go.Proofs.YtcgjfckhnpimbaaDoor.X
open Go.RowKit Go.Proofs.YtcgjfckhnpimbaaDoorW.PrintWords
def Lit : Type := Bool × ByteArray × Int × Int × Bool
/-- The results stand in their slots. -/
def Fin (w : World) (r : Bool × ByteArray × Int × Int × Bool) (a : Act) (W : World) : Prop :=
  a.tmps.getD 4 undef = .pointer (some ⟨w.heap.size, 0, none⟩) ∧ a.tmps.getD 5 undef = .int .i64 r.2.2.2.1 ∧ a.tmps.getD 6 undef = .bool r.2.2.2.2 ∧ a.defers = [] ∧
  W.heap[w.heap.size]? = some (.cells #[.bool r.1, .string r.2.1, .int .i64 r.2.2.1] 23 (0, 0)) ∧ Below w.heap.size w W
noncomputable def litBody : Code := (Tryd.f31.body.getD .skip)
noncomputable def litScope : Code := match litBody with | .seq _ (.scope c) => c | c => c
noncomputable def rest3 : Code := (findLabel litScope 3).getD .skip
def tailOf : Code → Code
  | .seq _ y => y
  | c => c
/-- The frame at a label. -/
def FrAt (s : ByteArray) (w : World) (i from_ point places exp at_ : Int) (less : Bool) (a : Act) : Prop := ∃ (u : Nat → Value), a = { tmps := #[.string s, .int .i64 i, undef, undef, .pointer (some ⟨w.heap.size, 0, none⟩), .int .i64 0, .bool false, .int .i64 from_, .int .i64 point, .int .i64 places, .int .i64 exp, .int .i64 at_, .bool less, u 13, u 14, u 15, u 16, u 17, u 18, u 19, u 20, u 21, u 22, u 23, u 24, u 25, u 26, u 27, u 28, u 29, u 30, u 31, u 32, u 33, u 34, u 35, u 36, u 37, u 38, u 39, u 40, u 41, u 42, u 43, u 44, u 45, u 46, u 47, u 48, u 49, u 50, u 51, u 52, u 53, u 54, u 55, u 56, u 57, u 58, u 59, u 60, u 61, u 62, u 63, u 64, u 65, u 66, u 67, u 68, u 69, u 70, u 71, u 72, u 73, u 74, u 75, u 76, u 77, u 78, u 79, u 80, u 81, u 82, u 83, u 84, u 85, u 86, u 87, u 88, u 89, u 90, u 91, u 92, u 93, u 94, u 95, u 96, u 97, u 98, u 99, u 100, u 101, u 102, u 103, u 104, u 105, u 106, u 107, u 108, u 109, u 110, u 111, u 112, u 113, u 114, u 115, u 116, u 117, u 118], defers := [] }
set_option maxHeartbeats 2000000 in
set_option maxRecDepth 100000 in
theorem done_ (s : ByteArray) (w : World) (neg : Bool) (dg : ByteArray) (i from_ point places exp at_ : Int) (less : Bool) (n : Nat)
    (he : -1000000000000000 ≤ exp) (he' : exp ≤ 1000000000000000) (hp : 0 ≤ places) (hp' : places ≤ 4611686018427387904) (Q : Exit → Act → World → Prop)
    (hq : ∀ a W, Fin w (neg, dg, exp - places, i, true) a W → Q .ret a W) (a : Act) (hf : FrAt s w i from_ point places exp at_ less a) (c : Code) (hc : c = tailOf rest3) :
    c.wp Tryd.prog Q a ((w.alloc (.cells #[.bool neg, .string dg, .int .i64 0] 23)).drewN n) := by
  obtain ⟨u, rfl⟩ := hf
  subst hc
  have HQ := Aside0.mk hq
  clear hq
  dsimp only [rest3, tailOf, litScope, litBody, Tryd.f31, Option.getD, findLabel, Nat.reduceBEq, if_true, if_false, Bool.false_eq_true, reduceIte]
  go_wp2
  refine HQ.out _ _ ⟨rfl, rfl, rfl, rfl, ?_, ?_⟩
  · exact blk_put (cs := #[.bool neg, .string dg, .int .i64 (exp - places)]) (blk_put (cs := #[.bool neg, .string dg, .int .i64 (exp - places)]) (blk_put (cs := #[.bool neg, .string dg, .int .i64 (exp - places)]) (blk_put (cs := #[.bool neg, .string dg, .int .i64 0]) (blk_drewN (blk_new _ _) _) 2 _ rfl) 0 _ rfl) 1 _ rfl) 2 _ rfl
  · exact below_set (below_set (below_set (below_set (pw_below_drewN (below_alloc (Below.refl _ _) _) _) (Nat.le_refl _)) (Nat.le_refl _)) (Nat.le_refl _)) (Nat.le_refl _)
end Go.Proofs.YtcgjfckhnpimbaaDoor.X
end
section
set_option linter.unusedVariables false
set_option linter.unusedSimpArgs false
namespace Go.Proofs.YtcgjfckhnpimbaaDoor.X
open Go.RowKit Go.Proofs.YtcgjfckhnpimbaaDoorW.PrintWords
end Go.Proofs.YtcgjfckhnpimbaaDoor.X
end
section
set_option linter.unusedVariables false
set_option linter.unusedSimpArgs false
namespace Go.Proofs.YtcgjfckhnpimbaaDoor.X
open Go.RowKit Go.Proofs.YtcgjfckhnpimbaaDoorW.PrintWords
end Go.Proofs.YtcgjfckhnpimbaaDoor.X
end
section
set_option linter.unusedVariables false
set_option linter.unusedSimpArgs false
namespace Go.Proofs.YtcgjfckhnpimbaaDoor.X
open Go.RowKit Go.Proofs.YtcgjfckhnpimbaaDoorW.PrintWords
end Go.Proofs.YtcgjfckhnpimbaaDoor.X
end
