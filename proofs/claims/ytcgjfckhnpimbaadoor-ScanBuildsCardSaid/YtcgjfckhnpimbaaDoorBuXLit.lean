/-
  Several texts of this session's own in one: XLitA XLitB XLitC XLit.
-/
import Derived.Test.YtcgjfckhnpimbaaDoorBuX
import Derived.Test.YtcgjfckhnpimbaaDoorBuXDef
import Derived.ScopeJumps
import Derived.WalkMore
import Derived.WalkKit
import Derived.Laws.Rows
import Derived.Deep.QuietTactic
import Derived.BigQuiet
import Derived.StillTailTactics
section
set_option linter.unusedVariables false
set_option linter.unusedSimpArgs false
namespace Go.Proofs.YtcgjfckhnpimbaaDoor.X
open Go.RowKit Go.Proofs.YtcgjfckhnpimbaaDoorW.PrintWords
def jumpTo (J : Nat → Act → World → Prop) (Q : Exit → Act → World → Prop) : Exit → Act → World → Prop
  | .goto l, a, w => J l a w
  | e, a, w => Q e a w
theorem wp_scope_labels {P : Program} {a : Act} {w : World} {Q : Exit → Act → World → Prop} {c : Code} (J : Nat → Nat → Act → World → Prop)
    (pass : ∀ l m a w, J l m a w → ∃ rest, findLabel c l = some rest ∧ rest.wp P (jumpTo (fun l' a' w' => ∃ m', m' < m ∧ J l' m' a' w') Q) a w)
    (first : c.wp P (jumpTo (fun l' a' w' => ∃ m', J l' m' a' w') Q) a w) : (Code.scope c).wp P Q a w := by
  intro b k cs
  have key : ∀ n l a w, J l n a w → ∃ rest, findLabel c l = some rest ∧ ∃ e a' w', Q e a' w' ∧ Arrives P (lone (b.at a (.code rest :: .inScope c :: k)) cs w) b k cs e a' w' := by
    intro n
    induction n using Nat.strongRecOn with
    | _ n ih =>
      intro l a w hJ
      obtain ⟨rest, hf, hw⟩ := pass l n a w hJ
      refine ⟨rest, hf, ?_⟩
      obtain ⟨e, a₁, w₁, hq, harr⟩ := hw b (.inScope c :: k) cs
      cases e with
      | normal => exact ⟨.normal, a₁, w₁, hq, Steps.trans harr (.one step_inScope)⟩
      | exit id => exact ⟨.exit id, a₁, w₁, hq, fun k' hk => harr k' (by simp [exitTo, hk])⟩
      | goto l' =>
        obtain ⟨m', hlt, hJ'⟩ := hq
        obtain ⟨rest', hf', e₂, a₂, w₂, hq₂, harr₂⟩ := ih m' hlt l' a₁ w₁ hJ'
        exact ⟨e₂, a₂, w₂, hq₂, .of_steps (harr _ (by simp [gotoIn, hf'])) harr₂⟩
      | ret => exact ⟨_, a₁, w₁, hq, harr⟩
      | panic ch => exact ⟨_, a₁, w₁, hq, harr⟩
      | outgrown => exact ⟨_, a₁, w₁, hq, harr⟩
  obtain ⟨e, a₁, w₁, hq, harr⟩ := first b (.inScope c :: k) cs
  cases e with
  | normal => exact ⟨.normal, a₁, w₁, hq, .head step_scope (Steps.trans harr (.one step_inScope))⟩
  | exit id => exact ⟨.exit id, a₁, w₁, hq, fun k' hk => .head step_scope (harr k' (by simp [exitTo, hk]))⟩
  | goto l' =>
    obtain ⟨m', hJ'⟩ := hq
    obtain ⟨rest', hf', e₂, a₂, w₂, hq₂, harr₂⟩ := key m' l' a₁ w₁ hJ'
    exact ⟨e₂, a₂, w₂, hq₂, .of_steps (.head step_scope (harr _ (by simp [gotoIn, hf']))) harr₂⟩
  | ret => exact ⟨_, a₁, w₁, hq, .of_steps (.one step_scope) harr⟩
  | panic ch => exact ⟨_, a₁, w₁, hq, .of_steps (.one step_scope) harr⟩
  | outgrown => exact ⟨_, a₁, w₁, hq, .of_steps (.one step_scope) harr⟩
theorem ret_b {a b : Bool} (h : a = b) : Ending.returned (.bool a) = .returned (.bool b) := by rw [h]
set_option maxHeartbeats 1000000 in
theorem dig_any (s : ByteArray) (i : Int) (v : Bool) (hv : dgB s i = v) (h0 : 0 ≤ i) (w : World) :
    Calls Tryd.prog 26 #[.string s, .int .i64 i] w fun e w' => e = .returned (.bool v) ∧ w = w' := by
  subst hv
  unfold dgB
  by_cases h1 : i < (s.size : Int)
  · have g1 : decide (i < (s.size : Int)) = true := decide_eq_true h1
    have p5 := eq_true h0
    have q5 := eq_true h1
    have hx := bt_at s i
    rw [g1]
    clear h1 h0
    by_cases h2 : 48 ≤ bt s i
    · have g2 : decide (48 ≤ bt s i) = true := decide_eq_true h2
      rw [g2]
      clear h2
      go_enter Tryd.func26, Tryd.ntmps26
      go_wp2
      go_ret
      exact ⟨ret_b (by simp), rfl⟩
    · have g2 : decide (48 ≤ bt s i) = false := decide_eq_false h2
      rw [g2]
      clear h2
      go_enter Tryd.func26, Tryd.ntmps26
      go_wp2
      go_ret
      exact ⟨ret_b (by simp), rfl⟩
  · have g1 : decide (i < (s.size : Int)) = false := decide_eq_false h1
    rw [g1]
    clear h1
    go_enter Tryd.func26, Tryd.ntmps26
    go_wp2
    go_ret
    exact ⟨ret_b (by simp), rfl⟩
set_option maxHeartbeats 1000000 in
theorem one_any (s : ByteArray) (i a b : Int) (v : Bool) (hv : oneB s i a b = v) (h0 : 0 ≤ i) (w : World) :
    Calls Tryd.prog 47 #[.string s, .int .i64 i, .int .u8 a, .int .u8 b] w fun e w' => e = .returned (.bool v) ∧ w = w' := by
  subst hv
  unfold oneB
  by_cases h1 : i < (s.size : Int)
  · have g1 : decide (i < (s.size : Int)) = true := decide_eq_true h1
    have p5 := eq_true h0
    have q5 := eq_true h1
    have hx := bt_at s i
    rw [g1]
    clear h1 h0
    by_cases h2 : bt s i = a
    · have g2 : (bt s i == a) = true := beq_iff_eq.mpr h2
      rw [g2]
      clear h2
      go_enter Tryd.func47, Tryd.ntmps47
      go_wp2
      go_ret
      exact ⟨ret_b (by simp), rfl⟩
    · have g2 : (bt s i == a) = false := beq_eq_false_iff_ne.mpr h2
      rw [g2]
      clear h2
      go_enter Tryd.func47, Tryd.ntmps47
      go_wp2
      go_ret
      exact ⟨ret_b (by simp), rfl⟩
  · have g1 : decide (i < (s.size : Int)) = false := decide_eq_false h1
    rw [g1]
    clear h1
    go_enter Tryd.func47, Tryd.ntmps47
    go_wp2
    go_ret
    exact ⟨ret_b (by simp), rfl⟩
def cap15 (x : Int) : Int := if x > 1000000000000000 then 1000000000000000 else x
def expRun (s : ByteArray) (i x : Int) : Int := if h : dgB s i = true then expRun s (i + 1) (cap15 (x * 10 + (bt s i - 48))) else x
termination_by ((s.size : Int) - i).toNat
decreasing_by have := dgB_lt h; omega
def Lit : Type := Bool × ByteArray × Int × Int × Bool
/-- From the exponent's first digit on. -/
def litExp (s : ByteArray) (neg : Bool) (dg : ByteArray) (places : Int) (less : Bool) (a x : Int) : Bool × ByteArray × Int × Int × Bool :=
  (neg, dg, (if less = true then - expRun s a x else expRun s a x) - places, digEnd s a, true)
def litTail (s : ByteArray) (neg : Bool) (dg : ByteArray) (places i : Int) : Bool × ByteArray × Int × Int × Bool :=
  if oneB s i 101 69 = true then
    (if dgB s (if oneB s (i + 1) 43 45 = true then i + 1 + 1 else i + 1) = true then litExp s neg dg places (oneB s (i + 1) 43 45 && (bt s (i + 1) == 45)) (if oneB s (i + 1) 43 45 = true then i + 1 + 1 else i + 1) 0
    else (neg, dg, 0 - places, i, true))
  else (neg, dg, 0 - places, i, true)
/-- The results stand in their slots. -/
def Fin (w : World) (r : Bool × ByteArray × Int × Int × Bool) (a : Act) (W : World) : Prop :=
  a.tmps.getD 4 undef = .pointer (some ⟨w.heap.size, 0, none⟩) ∧ a.tmps.getD 5 undef = .int .i64 r.2.2.2.1 ∧ a.tmps.getD 6 undef = .bool r.2.2.2.2 ∧ a.defers = [] ∧
  W.heap[w.heap.size]? = some (.cells #[.bool r.1, .string r.2.1, .int .i64 r.2.2.1] 23 (0, 0)) ∧ Below w.heap.size w W
noncomputable def litBody : Code := (Tryd.f31.body.getD .skip)
noncomputable def litScope : Code := match litBody with | .seq _ (.scope c) => c | c => c
noncomputable def rest3 : Code := (findLabel litScope 3).getD .skip
noncomputable def rest4 : Code := (findLabel litScope 4).getD .skip
noncomputable def rest1 : Code := (findLabel litScope 1).getD .skip
noncomputable def rest2 : Code := (findLabel litScope 2).getD .skip
noncomputable def rest0 : Code := (findLabel litScope 0).getD .skip
def tailOf : Code → Code
  | .seq _ y => y
  | c => c
/-- The frame at a label. -/
def FrAt (s : ByteArray) (w : World) (i from_ point places exp at_ : Int) (less : Bool) (a : Act) : Prop := ∃ (u : Nat → Value), a = { tmps := #[.string s, .int .i64 i, undef, undef, .pointer (some ⟨w.heap.size, 0, none⟩), .int .i64 0, .bool false, .int .i64 from_, .int .i64 point, .int .i64 places, .int .i64 exp, .int .i64 at_, .bool less, u 13, u 14, u 15, u 16, u 17, u 18, u 19, u 20, u 21, u 22, u 23, u 24, u 25, u 26, u 27, u 28, u 29, u 30, u 31, u 32, u 33, u 34, u 35, u 36, u 37, u 38, u 39, u 40, u 41, u 42, u 43, u 44, u 45, u 46, u 47, u 48, u 49, u 50, u 51, u 52, u 53, u 54, u 55, u 56, u 57, u 58, u 59, u 60, u 61, u 62, u 63, u 64, u 65, u 66, u 67, u 68, u 69, u 70, u 71, u 72, u 73, u 74, u 75, u 76, u 77, u 78, u 79, u 80, u 81, u 82, u 83, u 84, u 85, u 86, u 87, u 88, u 89, u 90, u 91, u 92, u 93, u 94, u 95, u 96, u 97, u 98, u 99, u 100, u 101, u 102, u 103, u 104, u 105, u 106, u 107, u 108, u 109, u 110, u 111, u 112, u 113, u 114, u 115, u 116, u 117, u 118], defers := [] }
noncomputable def rowOf (a : Act) (k : Nat) : Value := a.tmps.getD k undef
theorem fr_mk {s : ByteArray} {w : World} {i from_ point places exp at_ : Int} {less : Bool} {a : Act} (h : a = (fun (u : Nat → Value) => { tmps := #[.string s, .int .i64 i, undef, undef, .pointer (some ⟨w.heap.size, 0, none⟩), .int .i64 0, .bool false, .int .i64 from_, .int .i64 point, .int .i64 places, .int .i64 exp, .int .i64 at_, .bool less, u 13, u 14, u 15, u 16, u 17, u 18, u 19, u 20, u 21, u 22, u 23, u 24, u 25, u 26, u 27, u 28, u 29, u 30, u 31, u 32, u 33, u 34, u 35, u 36, u 37, u 38, u 39, u 40, u 41, u 42, u 43, u 44, u 45, u 46, u 47, u 48, u 49, u 50, u 51, u 52, u 53, u 54, u 55, u 56, u 57, u 58, u 59, u 60, u 61, u 62, u 63, u 64, u 65, u 66, u 67, u 68, u 69, u 70, u 71, u 72, u 73, u 74, u 75, u 76, u 77, u 78, u 79, u 80, u 81, u 82, u 83, u 84, u 85, u 86, u 87, u 88, u 89, u 90, u 91, u 92, u 93, u 94, u 95, u 96, u 97, u 98, u 99, u 100, u 101, u 102, u 103, u 104, u 105, u 106, u 107, u 108, u 109, u 110, u 111, u 112, u 113, u 114, u 115, u 116, u 117, u 118], defers := [] }) (rowOf a)) : FrAt s w i from_ point places exp at_ less a := ⟨_, h⟩
theorem expRun_yes {s : ByteArray} {i x : Int} (h : dgB s i = true) : expRun s i x = expRun s (i + 1) (cap15 (x * 10 + (bt s i - 48))) := by rw [expRun, dif_pos h]
theorem expRun_no {s : ByteArray} {i x : Int} (h : dgB s i = false) : expRun s i x = x := by rw [expRun, dif_neg (by simp [h])]
set_option maxHeartbeats 2000000 in
set_option maxRecDepth 100000 in
theorem done_ (s : ByteArray) (w : World) (neg : Bool) (dg : ByteArray) (i from_ point places exp at_ : Int) (less : Bool) (n : Nat)
    (he : -1000000000000000 ≤ exp) (he' : exp ≤ 1000000000000000) (hp : 0 ≤ places) (hp' : places ≤ 4611686018427387904) (Q : Exit → Act → World → Prop)
    (hq : ∀ a W, Fin w (neg, dg, exp - places, i, true) a W → Q .ret a W) (a : Act) (hf : FrAt s w i from_ point places exp at_ less a) (c : Code) (hc : c = tailOf rest3) :
    c.wp Tryd.prog Q a ((w.alloc (.cells #[.bool neg, .string dg, .int .i64 0] 23)).drewN n) := by
  obtain ⟨u, rfl⟩ := hf
  subst hc
  have HQ := Aside0.mk hq
  clear hq
  dsimp only [rest3, tailOf, litScope, litBody, Tryd.f31, Option.getD, findLabel, Nat.reduceBEq, if_true, if_false, Bool.false_eq_true, reduceIte]
  go_wp2
  refine HQ.out _ _ ⟨rfl, rfl, rfl, rfl, ?_, ?_⟩
  · exact blk_put (cs := #[.bool neg, .string dg, .int .i64 (exp - places)]) (blk_put (cs := #[.bool neg, .string dg, .int .i64 (exp - places)]) (blk_put (cs := #[.bool neg, .string dg, .int .i64 (exp - places)]) (blk_put (cs := #[.bool neg, .string dg, .int .i64 0]) (blk_drewN (blk_new _ _) _) 2 _ rfl) 0 _ rfl) 1 _ rfl) 2 _ rfl
  · exact below_set (below_set (below_set (below_set (pw_below_drewN (below_alloc (Below.refl _ _) _) _) (Nat.le_refl _)) (Nat.le_refl _)) (Nat.le_refl _)) (Nat.le_refl _)
theorem litExp_more {s : ByteArray} {neg less : Bool} {dg : ByteArray} {places a x y : Int} (h : dgB s a = true) (hy : cap15 (x * 10 + (bt s a - 48)) = y) :
    litExp s neg dg places less a x = litExp s neg dg places less (a + 1) y := by
  unfold litExp
  rw [expRun_yes h, digEnd_yes h, hy]
theorem litExp_last {s : ByteArray} {neg less : Bool} {dg : ByteArray} {places a x y : Int} (h : dgB s a = true) (hn : dgB s (a + 1) = false) (hy : cap15 (x * 10 + (bt s a - 48)) = y) :
    litExp s neg dg places less a x = (neg, dg, (if less = true then - y else y) - places, a + 1, true) := by
  unfold litExp
  rw [expRun_yes h, digEnd_yes h, hy, expRun_no hn, digEnd_no hn]
/-- Behind a jump to the label 4. -/
def At4 (s : ByteArray) (w : World) (r : Bool × ByteArray × Int × Int × Bool) (m : Nat) (a : Act) (W : World) : Prop :=
  ∃ (neg : Bool) (dg : ByteArray) (i from_ point places exp at_ : Int) (less : Bool) (n : Nat), FrAt s w i from_ point places exp at_ less a ∧ W = ((w.alloc (.cells #[.bool neg, .string dg, .int .i64 0] 23)).drewN n) ∧
    r = litExp s neg dg places less at_ exp ∧ 0 ≤ exp ∧ exp ≤ 1000000000000000 ∧ 0 ≤ places ∧ places ≤ 4611686018427387904 ∧ 0 ≤ at_ ∧ dgB s at_ = true ∧ m = ((s.size : Int) - at_).toNat
set_option maxHeartbeats 4000000 in
set_option maxRecDepth 100000 in
theorem exp_000 (s : ByteArray) (hs : (s.size : Int) ≤ 4611686018427387904) (w : World) (neg : Bool) (dg : ByteArray) (i from_ point places exp at_ : Int) (n : Nat)
    (he : 0 ≤ exp) (he' : exp ≤ 1000000000000000) (hp : 0 ≤ places) (hp' : places ≤ 4611686018427387904) (ha : 0 ≤ at_) (hd : dgB s at_ = true) (hn : dgB s (at_ + 1) = false)
    (hc : ¬ exp * 10 + (bt s at_ - 48) > 1000000000000000) (Q : Exit → Act → World → Prop)
    (hq : ∀ a W, Fin w (litExp s neg dg places false at_ exp) a W → Q .ret a W)
    (hg : ∀ m a W, m < ((s.size : Int) - at_).toNat → At4 s w (litExp s neg dg places false at_ exp) m a W → Q (.goto 4) a W) (a : Act) (hf : FrAt s w i from_ point places exp at_ false a) (c : Code) (hc4 : c = tailOf rest4) :
    c.wp Tryd.prog Q a ((w.alloc (.cells #[.bool neg, .string dg, .int .i64 0] 23)).drewN n) := by
  obtain ⟨u, rfl⟩ := hf
  subst hc4
  have hy : cap15 (exp * 10 + (bt s at_ - 48)) = (exp * 10 + (bt s at_ - 48)) := by unfold cap15; rw [if_neg hc]
  have HQ := Aside0.mk hq
  have HG := Aside0.mk hg
  clear hq hg
  have hlt := dgB_lt hd
  have hb1 := (dgB_byte hd).1
  have hb2 := (dgB_byte hd).2
  have HD := Aside0.mk hd
  have HY := Aside0.mk hy
  have HN := Aside0.mk hn
  clear hd hy hn
  have p5 := eq_true ha
  have q5 := eq_true hlt
  have hx := bt_at s at_
  dsimp only [rest4, tailOf, litScope, litBody, Tryd.f31, Option.getD, findLabel, Nat.reduceBEq, if_true, if_false, Bool.false_eq_true, reduceIte]
  go_wp2_with (go_at_call 26; refine (dig_any s (at_ + 1) false HN.out (by omega) _).mono ?_; rintro e w' ⟨rfl, rfl⟩)
  refine wp_label ?_
  rename_i K hK
  refine hK _ _ (done_ s w neg dg (at_ + 1) from_ point places (exp * 10 + (bt s at_ - 48)) (at_ + 1) false n (by omega) (by omega) hp hp' _ ?_ _ (fr_mk rfl) _ rfl)
  intro a W hF
  refine HQ.out a W ?_
  rw [litExp_last HD.out HN.out HY.out]
  exact hF
set_option maxHeartbeats 4000000 in
set_option maxRecDepth 100000 in
theorem exp_001 (s : ByteArray) (hs : (s.size : Int) ≤ 4611686018427387904) (w : World) (neg : Bool) (dg : ByteArray) (i from_ point places exp at_ : Int) (n : Nat)
    (he : 0 ≤ exp) (he' : exp ≤ 1000000000000000) (hp : 0 ≤ places) (hp' : places ≤ 4611686018427387904) (ha : 0 ≤ at_) (hd : dgB s at_ = true) (hn : dgB s (at_ + 1) = true)
    (hc : ¬ exp * 10 + (bt s at_ - 48) > 1000000000000000) (Q : Exit → Act → World → Prop)
    (hq : ∀ a W, Fin w (litExp s neg dg places false at_ exp) a W → Q .ret a W)
    (hg : ∀ m a W, m < ((s.size : Int) - at_).toNat → At4 s w (litExp s neg dg places false at_ exp) m a W → Q (.goto 4) a W) (a : Act) (hf : FrAt s w i from_ point places exp at_ false a) (c : Code) (hc4 : c = tailOf rest4) :
    c.wp Tryd.prog Q a ((w.alloc (.cells #[.bool neg, .string dg, .int .i64 0] 23)).drewN n) := by
  obtain ⟨u, rfl⟩ := hf
  subst hc4
  have hy : cap15 (exp * 10 + (bt s at_ - 48)) = (exp * 10 + (bt s at_ - 48)) := by unfold cap15; rw [if_neg hc]
  have HQ := Aside0.mk hq
  have HG := Aside0.mk hg
  clear hq hg
  have hlt := dgB_lt hd
  have hb1 := (dgB_byte hd).1
  have hb2 := (dgB_byte hd).2
  have HD := Aside0.mk hd
  have HY := Aside0.mk hy
  have HN := Aside0.mk hn
  clear hd hy hn
  have p5 := eq_true ha
  have q5 := eq_true hlt
  have hx := bt_at s at_
  dsimp only [rest4, tailOf, litScope, litBody, Tryd.f31, Option.getD, findLabel, Nat.reduceBEq, if_true, if_false, Bool.false_eq_true, reduceIte]
  go_wp2_with (go_at_call 26; refine (dig_any s (at_ + 1) true HN.out (by omega) _).mono ?_; rintro e w' ⟨rfl, rfl⟩)
  go_step3
  refine HG.out _ _ _ ?_ ⟨neg, dg, i, from_, point, places, (exp * 10 + (bt s at_ - 48)), at_ + 1, false, n, (fr_mk rfl), rfl, litExp_more HD.out HY.out, by omega, by omega, hp, hp', by omega, HN.out, rfl⟩
  omega
set_option maxHeartbeats 4000000 in
set_option maxRecDepth 100000 in
theorem exp_010 (s : ByteArray) (hs : (s.size : Int) ≤ 4611686018427387904) (w : World) (neg : Bool) (dg : ByteArray) (i from_ point places exp at_ : Int) (n : Nat)
    (he : 0 ≤ exp) (he' : exp ≤ 1000000000000000) (hp : 0 ≤ places) (hp' : places ≤ 4611686018427387904) (ha : 0 ≤ at_) (hd : dgB s at_ = true) (hn : dgB s (at_ + 1) = false)
    (hc : ¬ exp * 10 + (bt s at_ - 48) > 1000000000000000) (Q : Exit → Act → World → Prop)
    (hq : ∀ a W, Fin w (litExp s neg dg places true at_ exp) a W → Q .ret a W)
    (hg : ∀ m a W, m < ((s.size : Int) - at_).toNat → At4 s w (litExp s neg dg places true at_ exp) m a W → Q (.goto 4) a W) (a : Act) (hf : FrAt s w i from_ point places exp at_ true a) (c : Code) (hc4 : c = tailOf rest4) :
    c.wp Tryd.prog Q a ((w.alloc (.cells #[.bool neg, .string dg, .int .i64 0] 23)).drewN n) := by
  obtain ⟨u, rfl⟩ := hf
  subst hc4
  have hy : cap15 (exp * 10 + (bt s at_ - 48)) = (exp * 10 + (bt s at_ - 48)) := by unfold cap15; rw [if_neg hc]
  have HQ := Aside0.mk hq
  have HG := Aside0.mk hg
  clear hq hg
  have hlt := dgB_lt hd
  have hb1 := (dgB_byte hd).1
  have hb2 := (dgB_byte hd).2
  have HD := Aside0.mk hd
  have HY := Aside0.mk hy
  have HN := Aside0.mk hn
  clear hd hy hn
  have p5 := eq_true ha
  have q5 := eq_true hlt
  have hx := bt_at s at_
  dsimp only [rest4, tailOf, litScope, litBody, Tryd.f31, Option.getD, findLabel, Nat.reduceBEq, if_true, if_false, Bool.false_eq_true, reduceIte]
  go_wp2_with (go_at_call 26; refine (dig_any s (at_ + 1) false HN.out (by omega) _).mono ?_; rintro e w' ⟨rfl, rfl⟩)
  refine wp_label ?_
  rename_i K hK
  refine hK _ _ (done_ s w neg dg (at_ + 1) from_ point places (-(exp * 10 + (bt s at_ - 48))) (at_ + 1) true n (by omega) (by omega) hp hp' _ ?_ _ (fr_mk rfl) _ rfl)
  intro a W hF
  refine HQ.out a W ?_
  rw [litExp_last HD.out HN.out HY.out]
  exact hF
set_option maxHeartbeats 4000000 in
set_option maxRecDepth 100000 in
theorem exp_011 (s : ByteArray) (hs : (s.size : Int) ≤ 4611686018427387904) (w : World) (neg : Bool) (dg : ByteArray) (i from_ point places exp at_ : Int) (n : Nat)
    (he : 0 ≤ exp) (he' : exp ≤ 1000000000000000) (hp : 0 ≤ places) (hp' : places ≤ 4611686018427387904) (ha : 0 ≤ at_) (hd : dgB s at_ = true) (hn : dgB s (at_ + 1) = true)
    (hc : ¬ exp * 10 + (bt s at_ - 48) > 1000000000000000) (Q : Exit → Act → World → Prop)
    (hq : ∀ a W, Fin w (litExp s neg dg places true at_ exp) a W → Q .ret a W)
    (hg : ∀ m a W, m < ((s.size : Int) - at_).toNat → At4 s w (litExp s neg dg places true at_ exp) m a W → Q (.goto 4) a W) (a : Act) (hf : FrAt s w i from_ point places exp at_ true a) (c : Code) (hc4 : c = tailOf rest4) :
    c.wp Tryd.prog Q a ((w.alloc (.cells #[.bool neg, .string dg, .int .i64 0] 23)).drewN n) := by
  obtain ⟨u, rfl⟩ := hf
  subst hc4
  have hy : cap15 (exp * 10 + (bt s at_ - 48)) = (exp * 10 + (bt s at_ - 48)) := by unfold cap15; rw [if_neg hc]
  have HQ := Aside0.mk hq
  have HG := Aside0.mk hg
  clear hq hg
  have hlt := dgB_lt hd
  have hb1 := (dgB_byte hd).1
  have hb2 := (dgB_byte hd).2
  have HD := Aside0.mk hd
  have HY := Aside0.mk hy
  have HN := Aside0.mk hn
  clear hd hy hn
  have p5 := eq_true ha
  have q5 := eq_true hlt
  have hx := bt_at s at_
  dsimp only [rest4, tailOf, litScope, litBody, Tryd.f31, Option.getD, findLabel, Nat.reduceBEq, if_true, if_false, Bool.false_eq_true, reduceIte]
  go_wp2_with (go_at_call 26; refine (dig_any s (at_ + 1) true HN.out (by omega) _).mono ?_; rintro e w' ⟨rfl, rfl⟩)
  go_step3
  refine HG.out _ _ _ ?_ ⟨neg, dg, i, from_, point, places, (exp * 10 + (bt s at_ - 48)), at_ + 1, true, n, (fr_mk rfl), rfl, litExp_more HD.out HY.out, by omega, by omega, hp, hp', by omega, HN.out, rfl⟩
  omega
set_option maxHeartbeats 4000000 in
set_option maxRecDepth 100000 in
theorem exp_100 (s : ByteArray) (hs : (s.size : Int) ≤ 4611686018427387904) (w : World) (neg : Bool) (dg : ByteArray) (i from_ point places exp at_ : Int) (n : Nat)
    (he : 0 ≤ exp) (he' : exp ≤ 1000000000000000) (hp : 0 ≤ places) (hp' : places ≤ 4611686018427387904) (ha : 0 ≤ at_) (hd : dgB s at_ = true) (hn : dgB s (at_ + 1) = false)
    (hc :  exp * 10 + (bt s at_ - 48) > 1000000000000000) (Q : Exit → Act → World → Prop)
    (hq : ∀ a W, Fin w (litExp s neg dg places false at_ exp) a W → Q .ret a W)
    (hg : ∀ m a W, m < ((s.size : Int) - at_).toNat → At4 s w (litExp s neg dg places false at_ exp) m a W → Q (.goto 4) a W) (a : Act) (hf : FrAt s w i from_ point places exp at_ false a) (c : Code) (hc4 : c = tailOf rest4) :
    c.wp Tryd.prog Q a ((w.alloc (.cells #[.bool neg, .string dg, .int .i64 0] 23)).drewN n) := by
  obtain ⟨u, rfl⟩ := hf
  subst hc4
  have hy : cap15 (exp * 10 + (bt s at_ - 48)) = 1000000000000000 := by unfold cap15; rw [if_pos hc]
  have HQ := Aside0.mk hq
  have HG := Aside0.mk hg
  clear hq hg
  have hlt := dgB_lt hd
  have hb1 := (dgB_byte hd).1
  have hb2 := (dgB_byte hd).2
  have HD := Aside0.mk hd
  have HY := Aside0.mk hy
  have HN := Aside0.mk hn
  clear hd hy hn
  have p5 := eq_true ha
  have q5 := eq_true hlt
  have hx := bt_at s at_
  dsimp only [rest4, tailOf, litScope, litBody, Tryd.f31, Option.getD, findLabel, Nat.reduceBEq, if_true, if_false, Bool.false_eq_true, reduceIte]
  go_wp2_with (go_at_call 26; refine (dig_any s (at_ + 1) false HN.out (by omega) _).mono ?_; rintro e w' ⟨rfl, rfl⟩)
  refine wp_label ?_
  rename_i K hK
  refine hK _ _ (done_ s w neg dg (at_ + 1) from_ point places 1000000000000000 (at_ + 1) false n (by omega) (by omega) hp hp' _ ?_ _ (fr_mk rfl) _ rfl)
  intro a W hF
  refine HQ.out a W ?_
  rw [litExp_last HD.out HN.out HY.out]
  exact hF
set_option maxHeartbeats 4000000 in
set_option maxRecDepth 100000 in
theorem exp_101 (s : ByteArray) (hs : (s.size : Int) ≤ 4611686018427387904) (w : World) (neg : Bool) (dg : ByteArray) (i from_ point places exp at_ : Int) (n : Nat)
    (he : 0 ≤ exp) (he' : exp ≤ 1000000000000000) (hp : 0 ≤ places) (hp' : places ≤ 4611686018427387904) (ha : 0 ≤ at_) (hd : dgB s at_ = true) (hn : dgB s (at_ + 1) = true)
    (hc :  exp * 10 + (bt s at_ - 48) > 1000000000000000) (Q : Exit → Act → World → Prop)
    (hq : ∀ a W, Fin w (litExp s neg dg places false at_ exp) a W → Q .ret a W)
    (hg : ∀ m a W, m < ((s.size : Int) - at_).toNat → At4 s w (litExp s neg dg places false at_ exp) m a W → Q (.goto 4) a W) (a : Act) (hf : FrAt s w i from_ point places exp at_ false a) (c : Code) (hc4 : c = tailOf rest4) :
    c.wp Tryd.prog Q a ((w.alloc (.cells #[.bool neg, .string dg, .int .i64 0] 23)).drewN n) := by
  obtain ⟨u, rfl⟩ := hf
  subst hc4
  have hy : cap15 (exp * 10 + (bt s at_ - 48)) = 1000000000000000 := by unfold cap15; rw [if_pos hc]
  have HQ := Aside0.mk hq
  have HG := Aside0.mk hg
  clear hq hg
  have hlt := dgB_lt hd
  have hb1 := (dgB_byte hd).1
  have hb2 := (dgB_byte hd).2
  have HD := Aside0.mk hd
  have HY := Aside0.mk hy
  have HN := Aside0.mk hn
  clear hd hy hn
  have p5 := eq_true ha
  have q5 := eq_true hlt
  have hx := bt_at s at_
  dsimp only [rest4, tailOf, litScope, litBody, Tryd.f31, Option.getD, findLabel, Nat.reduceBEq, if_true, if_false, Bool.false_eq_true, reduceIte]
  go_wp2_with (go_at_call 26; refine (dig_any s (at_ + 1) true HN.out (by omega) _).mono ?_; rintro e w' ⟨rfl, rfl⟩)
  go_step3
  refine HG.out _ _ _ ?_ ⟨neg, dg, i, from_, point, places, 1000000000000000, at_ + 1, false, n, (fr_mk rfl), rfl, litExp_more HD.out HY.out, by omega, by omega, hp, hp', by omega, HN.out, rfl⟩
  omega
set_option maxHeartbeats 4000000 in
set_option maxRecDepth 100000 in
theorem exp_110 (s : ByteArray) (hs : (s.size : Int) ≤ 4611686018427387904) (w : World) (neg : Bool) (dg : ByteArray) (i from_ point places exp at_ : Int) (n : Nat)
    (he : 0 ≤ exp) (he' : exp ≤ 1000000000000000) (hp : 0 ≤ places) (hp' : places ≤ 4611686018427387904) (ha : 0 ≤ at_) (hd : dgB s at_ = true) (hn : dgB s (at_ + 1) = false)
    (hc :  exp * 10 + (bt s at_ - 48) > 1000000000000000) (Q : Exit → Act → World → Prop)
    (hq : ∀ a W, Fin w (litExp s neg dg places true at_ exp) a W → Q .ret a W)
    (hg : ∀ m a W, m < ((s.size : Int) - at_).toNat → At4 s w (litExp s neg dg places true at_ exp) m a W → Q (.goto 4) a W) (a : Act) (hf : FrAt s w i from_ point places exp at_ true a) (c : Code) (hc4 : c = tailOf rest4) :
    c.wp Tryd.prog Q a ((w.alloc (.cells #[.bool neg, .string dg, .int .i64 0] 23)).drewN n) := by
  obtain ⟨u, rfl⟩ := hf
  subst hc4
  have hy : cap15 (exp * 10 + (bt s at_ - 48)) = 1000000000000000 := by unfold cap15; rw [if_pos hc]
  have HQ := Aside0.mk hq
  have HG := Aside0.mk hg
  clear hq hg
  have hlt := dgB_lt hd
  have hb1 := (dgB_byte hd).1
  have hb2 := (dgB_byte hd).2
  have HD := Aside0.mk hd
  have HY := Aside0.mk hy
  have HN := Aside0.mk hn
  clear hd hy hn
  have p5 := eq_true ha
  have q5 := eq_true hlt
  have hx := bt_at s at_
  dsimp only [rest4, tailOf, litScope, litBody, Tryd.f31, Option.getD, findLabel, Nat.reduceBEq, if_true, if_false, Bool.false_eq_true, reduceIte]
  go_wp2_with (go_at_call 26; refine (dig_any s (at_ + 1) false HN.out (by omega) _).mono ?_; rintro e w' ⟨rfl, rfl⟩)
  refine wp_label ?_
  rename_i K hK
  refine hK _ _ (done_ s w neg dg (at_ + 1) from_ point places (-1000000000000000) (at_ + 1) true n (by omega) (by omega) hp hp' _ ?_ _ (fr_mk rfl) _ rfl)
  intro a W hF
  refine HQ.out a W ?_
  rw [litExp_last HD.out HN.out HY.out]
  exact hF
set_option maxHeartbeats 4000000 in
set_option maxRecDepth 100000 in
theorem exp_111 (s : ByteArray) (hs : (s.size : Int) ≤ 4611686018427387904) (w : World) (neg : Bool) (dg : ByteArray) (i from_ point places exp at_ : Int) (n : Nat)
    (he : 0 ≤ exp) (he' : exp ≤ 1000000000000000) (hp : 0 ≤ places) (hp' : places ≤ 4611686018427387904) (ha : 0 ≤ at_) (hd : dgB s at_ = true) (hn : dgB s (at_ + 1) = true)
    (hc :  exp * 10 + (bt s at_ - 48) > 1000000000000000) (Q : Exit → Act → World → Prop)
    (hq : ∀ a W, Fin w (litExp s neg dg places true at_ exp) a W → Q .ret a W)
    (hg : ∀ m a W, m < ((s.size : Int) - at_).toNat → At4 s w (litExp s neg dg places true at_ exp) m a W → Q (.goto 4) a W) (a : Act) (hf : FrAt s w i from_ point places exp at_ true a) (c : Code) (hc4 : c = tailOf rest4) :
    c.wp Tryd.prog Q a ((w.alloc (.cells #[.bool neg, .string dg, .int .i64 0] 23)).drewN n) := by
  obtain ⟨u, rfl⟩ := hf
  subst hc4
  have hy : cap15 (exp * 10 + (bt s at_ - 48)) = 1000000000000000 := by unfold cap15; rw [if_pos hc]
  have HQ := Aside0.mk hq
  have HG := Aside0.mk hg
  clear hq hg
  have hlt := dgB_lt hd
  have hb1 := (dgB_byte hd).1
  have hb2 := (dgB_byte hd).2
  have HD := Aside0.mk hd
  have HY := Aside0.mk hy
  have HN := Aside0.mk hn
  clear hd hy hn
  have p5 := eq_true ha
  have q5 := eq_true hlt
  have hx := bt_at s at_
  dsimp only [rest4, tailOf, litScope, litBody, Tryd.f31, Option.getD, findLabel, Nat.reduceBEq, if_true, if_false, Bool.false_eq_true, reduceIte]
  go_wp2_with (go_at_call 26; refine (dig_any s (at_ + 1) true HN.out (by omega) _).mono ?_; rintro e w' ⟨rfl, rfl⟩)
  go_step3
  refine HG.out _ _ _ ?_ ⟨neg, dg, i, from_, point, places, 1000000000000000, at_ + 1, true, n, (fr_mk rfl), rfl, litExp_more HD.out HY.out, by omega, by omega, hp, hp', by omega, HN.out, rfl⟩
  omega
theorem exp_ (s : ByteArray) (hs : (s.size : Int) ≤ 4611686018427387904) (w : World) (neg : Bool) (dg : ByteArray) (i from_ point places exp at_ : Int) (less : Bool) (n : Nat)
    (he : 0 ≤ exp) (he' : exp ≤ 1000000000000000) (hp : 0 ≤ places) (hp' : places ≤ 4611686018427387904) (ha : 0 ≤ at_) (hd : dgB s at_ = true) (Q : Exit → Act → World → Prop)
    (hq : ∀ a W, Fin w (litExp s neg dg places less at_ exp) a W → Q .ret a W)
    (hg : ∀ m a W, m < ((s.size : Int) - at_).toNat → At4 s w (litExp s neg dg places less at_ exp) m a W → Q (.goto 4) a W) (a : Act) (hf : FrAt s w i from_ point places exp at_ less a) (c : Code) (hc : c = tailOf rest4) :
    c.wp Tryd.prog Q a ((w.alloc (.cells #[.bool neg, .string dg, .int .i64 0] 23)).drewN n) := by
  by_cases h : exp * 10 + (bt s at_ - 48) > 1000000000000000 <;> cases less <;> cases hn : dgB s (at_ + 1)
  · exact exp_100 s hs w neg dg i from_ point places exp at_ n he he' hp hp' ha hd hn h Q hq hg a hf c hc
  · exact exp_101 s hs w neg dg i from_ point places exp at_ n he he' hp hp' ha hd hn h Q hq hg a hf c hc
  · exact exp_110 s hs w neg dg i from_ point places exp at_ n he he' hp hp' ha hd hn h Q hq hg a hf c hc
  · exact exp_111 s hs w neg dg i from_ point places exp at_ n he he' hp hp' ha hd hn h Q hq hg a hf c hc
  · exact exp_000 s hs w neg dg i from_ point places exp at_ n he he' hp hp' ha hd hn h Q hq hg a hf c hc
  · exact exp_001 s hs w neg dg i from_ point places exp at_ n he he' hp hp' ha hd hn h Q hq hg a hf c hc
  · exact exp_010 s hs w neg dg i from_ point places exp at_ n he he' hp hp' ha hd hn h Q hq hg a hf c hc
  · exact exp_011 s hs w neg dg i from_ point places exp at_ n he he' hp hp' ha hd hn h Q hq hg a hf c hc
end Go.Proofs.YtcgjfckhnpimbaaDoor.X
end
section
set_option linter.unusedVariables false
set_option linter.unusedSimpArgs false
namespace Go.Proofs.YtcgjfckhnpimbaaDoor.X
open Go.RowKit Go.Proofs.YtcgjfckhnpimbaaDoorW.PrintWords
def digs (s : ByteArray) (from_ point i : Int) : ByteArray := if 0 ≤ point then s.extract from_.toNat point.toNat ++ s.extract (point + 1).toNat i.toNat else s.extract from_.toNat i.toNat
def litM (s : ByteArray) (neg : Bool) (from_ point places i : Int) : Bool × ByteArray × Int × Int × Bool :=
  if i = from_ then (false, ⟨#[]⟩, 0, 0, false) else litTail s neg (digs s from_ point i) places i
/-- Behind a jump to the label 3. -/
def At3 (s : ByteArray) (w : World) (r : Bool × ByteArray × Int × Int × Bool) (m : Nat) (a : Act) (W : World) : Prop :=
  ∃ (neg : Bool) (dg : ByteArray) (i from_ point places exp at_ : Int) (less : Bool) (n : Nat), FrAt s w i from_ point places exp at_ less a ∧ W = ((w.alloc (.cells #[.bool neg, .string dg, .int .i64 0] 23)).drewN n) ∧
    r = (neg, dg, exp - places, i, true) ∧ -1000000000000000 ≤ exp ∧ exp ≤ 1000000000000000 ∧ 0 ≤ places ∧ places ≤ 4611686018427387904 ∧ m = 0
theorem litTail_n {s : ByteArray} {neg : Bool} {dg : ByteArray} {places i : Int} (h1 : oneB s i 101 69 = false) : litTail s neg dg places i = (neg, dg, 0 - places, i, true) := by
  unfold litTail
  rw [h1]
  rfl
theorem litTail_z {s : ByteArray} {neg : Bool} {dg : ByteArray} {places i : Int} (h1 : oneB s i 101 69 = true) (h2 : oneB s (i + 1) 43 45 = false) (h4 : dgB s (i + 1) = false) : litTail s neg dg places i = (neg, dg, 0 - places, i, true) := by
  simp [litTail, h1, h2, h4]
theorem litTail_s {s : ByteArray} {neg : Bool} {dg : ByteArray} {places i : Int} (h1 : oneB s i 101 69 = true) (h2 : oneB s (i + 1) 43 45 = true) (h4 : dgB s (i + 1 + 1) = false) : litTail s neg dg places i = (neg, dg, 0 - places, i, true) := by
  unfold litTail
  rw [h1, h2, if_pos rfl, if_pos rfl, h4, if_neg (by decide)]
theorem litTail_zd {s : ByteArray} {neg : Bool} {dg : ByteArray} {places i : Int} (h1 : oneB s i 101 69 = true) (h2 : oneB s (i + 1) 43 45 = false) (h4 : dgB s (i + 1) = true) : litTail s neg dg places i = litExp s neg dg places false (i + 1) 0 := by
  simp [litTail, h1, h2, h4]
theorem litTail_sd {s : ByteArray} {neg b : Bool} {dg : ByteArray} {places i : Int} (h1 : oneB s i 101 69 = true) (h2 : oneB s (i + 1) 43 45 = true) (h3 : (bt s (i + 1) == 45) = b) (h4 : dgB s (i + 1 + 1) = true) : litTail s neg dg places i = litExp s neg dg places b (i + 1 + 1) 0 := by
  unfold litTail
  rw [h1, h2, if_pos rfl, if_pos rfl, h4, if_pos rfl, Bool.true_and, h3]
set_option maxHeartbeats 2000000 in
set_option maxRecDepth 100000 in
theorem mant_none (s : ByteArray) (w : World) (neg : Bool) (i point places : Int) (Q : Exit → Act → World → Prop)
    (hq : ∀ a W, Fin w (false, ⟨#[]⟩, 0, 0, false) a W → Q .ret a W) (a : Act) (hf : FrAt s w i i point places 0 0 false a) (c : Code) (hc : c = tailOf rest1) :
    c.wp Tryd.prog Q a (w.alloc (.cells #[.bool neg, .string ⟨#[]⟩, .int .i64 0] 23)) := by
  obtain ⟨u, rfl⟩ := hf
  subst hc
  have HQ := Aside0.mk hq
  clear hq
  dsimp only [rest1, tailOf, litScope, litBody, Tryd.f31, Option.getD, findLabel, Nat.reduceBEq, if_true, if_false, Bool.false_eq_true, reduceIte]
  go_wp2
  refine HQ.out _ _ ⟨rfl, rfl, rfl, rfl, ?_, ?_⟩
  · exact blk_new _ _
  · exact below_alloc (Below.refl _ _) _
set_option maxHeartbeats 4000000 in
set_option maxRecDepth 100000 in
theorem mant_o_n (s : ByteArray) (hs : (s.size : Int) ≤ 4611686018427387904) (w : World) (neg : Bool) (i from_ point places : Int) (h0 : 0 ≤ from_) (h1 : from_ < i) (h2 : i ≤ (s.size : Int)) (hne : (i == from_) = false) (hpt : decide (0 ≤ point) = false)
    (hp : 0 ≤ places) (hp' : places ≤ 4611686018427387904) (h4 : oneB s i 101 69 = false) (r : Bool × ByteArray × Int × Int × Bool) (hr : litTail s neg (digs s from_ point i) places i = r) (Q : Exit → Act → World → Prop)
    (hq : ∀ a W, Fin w r a W → Q .ret a W) (hg : ∀ a W, At3 s w r 0 a W → Q (.goto 3) a W) (hg4 : ∀ m a W, m ≤ s.size → At4 s w r m a W → Q (.goto 4) a W) (a : Act) (hf : FrAt s w i from_ point places 0 0 false a) (c : Code) (hc : c = tailOf rest1) :
    c.wp Tryd.prog Q a (w.alloc (.cells #[.bool neg, .string ⟨#[]⟩, .int .i64 0] 23)) := by
  obtain ⟨u, rfl⟩ := hf
  subst hc
  have HG2 := Aside0.mk (show digs s from_ point i = (s.extract from_.toNat i.toNat) from by unfold digs; rw [if_neg (of_decide_eq_false hpt)])
  have HQ := Aside0.mk hq
  have HG := Aside0.mk hg
  have HG4 := Aside0.mk hg4
  have HR := Aside0.mk hr
  have HE := Aside0.mk h4
  clear hq hg hg4 hr h4
  dsimp only [rest1, tailOf, litScope, litBody, Tryd.f31, Option.getD, findLabel, Nat.reduceBEq, if_true, if_false, Bool.false_eq_true, reduceIte]
  have e0 := eq_true h0
  have e1 : (from_ ≤ i) = True := eq_true (by omega)
  have e2 := eq_true h2
  go_wp2_with (first | (go_at_call 47; (with_reducible refine (one_any s i 101 69 false HE.out (by omega) _).mono ?_); rintro e w' ⟨rfl, rfl⟩))
  go_step3
  exact HG.out _ _ ⟨neg, (s.extract from_.toNat i.toNat), i, from_, point, places, 0, 0, false, 0, (fr_mk rfl), rfl, (by rw [← HR.out, HG2.out, litTail_n HE.out]), by omega, by omega, hp, hp', rfl⟩
set_option maxHeartbeats 4000000 in
set_option maxRecDepth 100000 in
theorem mant_o_zn (s : ByteArray) (hs : (s.size : Int) ≤ 4611686018427387904) (w : World) (neg : Bool) (i from_ point places : Int) (h0 : 0 ≤ from_) (h1 : from_ < i) (h2 : i ≤ (s.size : Int)) (hne : (i == from_) = false) (hpt : decide (0 ≤ point) = false)
    (hp : 0 ≤ places) (hp' : places ≤ 4611686018427387904) (h4 : oneB s i 101 69 = true) (h5 : oneB s (i + 1) 43 45 = false) (h7 : dgB s (i + 1) = false) (r : Bool × ByteArray × Int × Int × Bool) (hr : litTail s neg (digs s from_ point i) places i = r) (Q : Exit → Act → World → Prop)
    (hq : ∀ a W, Fin w r a W → Q .ret a W) (hg : ∀ a W, At3 s w r 0 a W → Q (.goto 3) a W) (hg4 : ∀ m a W, m ≤ s.size → At4 s w r m a W → Q (.goto 4) a W) (a : Act) (hf : FrAt s w i from_ point places 0 0 false a) (c : Code) (hc : c = tailOf rest1) :
    c.wp Tryd.prog Q a (w.alloc (.cells #[.bool neg, .string ⟨#[]⟩, .int .i64 0] 23)) := by
  obtain ⟨u, rfl⟩ := hf
  subst hc
  have HG2 := Aside0.mk (show digs s from_ point i = (s.extract from_.toNat i.toNat) from by unfold digs; rw [if_neg (of_decide_eq_false hpt)])
  have HQ := Aside0.mk hq
  have HG := Aside0.mk hg
  have HG4 := Aside0.mk hg4
  have HR := Aside0.mk hr
  have HE := Aside0.mk h4
  have HF := Aside0.mk h5
  have hlt := oneB_lt h4
  have HD := Aside0.mk h7
  clear hq hg hg4 hr h4 h5 h7
  dsimp only [rest1, tailOf, litScope, litBody, Tryd.f31, Option.getD, findLabel, Nat.reduceBEq, if_true, if_false, Bool.false_eq_true, reduceIte]
  have e0 := eq_true h0
  have e1 : (from_ ≤ i) = True := eq_true (by omega)
  have e2 := eq_true h2
  go_wp2_with (first | (go_at_call 47; (with_reducible refine (one_any s i 101 69 true HE.out (by omega) _).mono ?_); rintro e w' ⟨rfl, rfl⟩) | (go_at_call 47; (with_reducible refine (one_any s (i + 1) 43 45 false HF.out (by omega) _).mono ?_); rintro e w' ⟨rfl, rfl⟩) | (go_at_call 26; (with_reducible refine (dig_any s (i + 1) false HD.out (by omega) _).mono ?_); rintro e w' ⟨rfl, rfl⟩))
  go_step3
  exact HG.out _ _ ⟨neg, (s.extract from_.toNat i.toNat), i, from_, point, places, 0, (i + 1), false, 0, (fr_mk rfl), rfl, (by rw [← HR.out, HG2.out, litTail_z HE.out HF.out HD.out]), by omega, by omega, hp, hp', rfl⟩
set_option maxHeartbeats 4000000 in
set_option maxRecDepth 100000 in
theorem mant_o_zd (s : ByteArray) (hs : (s.size : Int) ≤ 4611686018427387904) (w : World) (neg : Bool) (i from_ point places : Int) (h0 : 0 ≤ from_) (h1 : from_ < i) (h2 : i ≤ (s.size : Int)) (hne : (i == from_) = false) (hpt : decide (0 ≤ point) = false)
    (hp : 0 ≤ places) (hp' : places ≤ 4611686018427387904) (h4 : oneB s i 101 69 = true) (h5 : oneB s (i + 1) 43 45 = false) (h7 : dgB s (i + 1) = true) (r : Bool × ByteArray × Int × Int × Bool) (hr : litTail s neg (digs s from_ point i) places i = r) (Q : Exit → Act → World → Prop)
    (hq : ∀ a W, Fin w r a W → Q .ret a W) (hg : ∀ a W, At3 s w r 0 a W → Q (.goto 3) a W) (hg4 : ∀ m a W, m ≤ s.size → At4 s w r m a W → Q (.goto 4) a W) (a : Act) (hf : FrAt s w i from_ point places 0 0 false a) (c : Code) (hc : c = tailOf rest1) :
    c.wp Tryd.prog Q a (w.alloc (.cells #[.bool neg, .string ⟨#[]⟩, .int .i64 0] 23)) := by
  obtain ⟨u, rfl⟩ := hf
  subst hc
  have HG2 := Aside0.mk (show digs s from_ point i = (s.extract from_.toNat i.toNat) from by unfold digs; rw [if_neg (of_decide_eq_false hpt)])
  have HQ := Aside0.mk hq
  have HG := Aside0.mk hg
  have HG4 := Aside0.mk hg4
  have HR := Aside0.mk hr
  have HE := Aside0.mk h4
  have HF := Aside0.mk h5
  have hlt := oneB_lt h4
  have HD := Aside0.mk h7
  clear hq hg hg4 hr h4 h5 h7
  dsimp only [rest1, tailOf, litScope, litBody, Tryd.f31, Option.getD, findLabel, Nat.reduceBEq, if_true, if_false, Bool.false_eq_true, reduceIte]
  have e0 := eq_true h0
  have e1 : (from_ ≤ i) = True := eq_true (by omega)
  have e2 := eq_true h2
  go_wp2_with (first | (go_at_call 47; (with_reducible refine (one_any s i 101 69 true HE.out (by omega) _).mono ?_); rintro e w' ⟨rfl, rfl⟩) | (go_at_call 47; (with_reducible refine (one_any s (i + 1) 43 45 false HF.out (by omega) _).mono ?_); rintro e w' ⟨rfl, rfl⟩) | (go_at_call 26; (with_reducible refine (dig_any s (i + 1) true HD.out (by omega) _).mono ?_); rintro e w' ⟨rfl, rfl⟩))
  refine wp_label ?_
  rename_i K hK
  have hre : litExp s neg (s.extract from_.toNat i.toNat) places false (i + 1) 0 = r := (by rw [← HR.out, HG2.out, litTail_zd HE.out HF.out HD.out])
  refine hK _ _ (exp_ s hs w neg (s.extract from_.toNat i.toNat) i from_ point places 0 (i + 1) false 0 (by omega) (by omega) hp hp' (by omega) HD.out _ ?_ ?_ _ (fr_mk rfl) _ rfl)
  · rw [hre]
    exact HQ.out
  · rw [hre]
    intro m a W hm h
    exact HG4.out m a W (by omega) h
set_option maxHeartbeats 4000000 in
set_option maxRecDepth 100000 in
theorem mant_o_pn (s : ByteArray) (hs : (s.size : Int) ≤ 4611686018427387904) (w : World) (neg : Bool) (i from_ point places : Int) (h0 : 0 ≤ from_) (h1 : from_ < i) (h2 : i ≤ (s.size : Int)) (hne : (i == from_) = false) (hpt : decide (0 ≤ point) = false)
    (hp : 0 ≤ places) (hp' : places ≤ 4611686018427387904) (h4 : oneB s i 101 69 = true) (h5 : oneB s (i + 1) 43 45 = true) (h6 : (bt s (i + 1) == 45) = false) (h7 : dgB s (i + 1 + 1) = false) (r : Bool × ByteArray × Int × Int × Bool) (hr : litTail s neg (digs s from_ point i) places i = r) (Q : Exit → Act → World → Prop)
    (hq : ∀ a W, Fin w r a W → Q .ret a W) (hg : ∀ a W, At3 s w r 0 a W → Q (.goto 3) a W) (hg4 : ∀ m a W, m ≤ s.size → At4 s w r m a W → Q (.goto 4) a W) (a : Act) (hf : FrAt s w i from_ point places 0 0 false a) (c : Code) (hc : c = tailOf rest1) :
    c.wp Tryd.prog Q a (w.alloc (.cells #[.bool neg, .string ⟨#[]⟩, .int .i64 0] 23)) := by
  obtain ⟨u, rfl⟩ := hf
  subst hc
  have HG2 := Aside0.mk (show digs s from_ point i = (s.extract from_.toNat i.toNat) from by unfold digs; rw [if_neg (of_decide_eq_false hpt)])
  have HQ := Aside0.mk hq
  have HG := Aside0.mk hg
  have HG4 := Aside0.mk hg4
  have HR := Aside0.mk hr
  have HE := Aside0.mk h4
  have HF := Aside0.mk h5
  have hlt := oneB_lt h4
  have hlt2 := oneB_lt h5
  have p5 : (0 ≤ i + 1) = True := eq_true (by omega)
  have q5 : (i + 1 < (s.size : Int)) = True := eq_true hlt2
  have hx := bt_at s (i + 1)
  have HD := Aside0.mk h7
  clear hq hg hg4 hr h4 h5 h7
  dsimp only [rest1, tailOf, litScope, litBody, Tryd.f31, Option.getD, findLabel, Nat.reduceBEq, if_true, if_false, Bool.false_eq_true, reduceIte]
  have e0 := eq_true h0
  have e1 : (from_ ≤ i) = True := eq_true (by omega)
  have e2 := eq_true h2
  go_wp2_with (first | (go_at_call 47; (with_reducible refine (one_any s i 101 69 true HE.out (by omega) _).mono ?_); rintro e w' ⟨rfl, rfl⟩) | (go_at_call 47; (with_reducible refine (one_any s (i + 1) 43 45 true HF.out (by omega) _).mono ?_); rintro e w' ⟨rfl, rfl⟩) | (go_at_call 26; (with_reducible refine (dig_any s (i + 1 + 1) false HD.out (by omega) _).mono ?_); rintro e w' ⟨rfl, rfl⟩))
  go_step3
  exact HG.out _ _ ⟨neg, (s.extract from_.toNat i.toNat), i, from_, point, places, 0, (i + 1 + 1), false, 0, (fr_mk rfl), rfl, (by rw [← HR.out, HG2.out, litTail_s HE.out HF.out HD.out]), by omega, by omega, hp, hp', rfl⟩
set_option maxHeartbeats 4000000 in
set_option maxRecDepth 100000 in
theorem mant_o_pd (s : ByteArray) (hs : (s.size : Int) ≤ 4611686018427387904) (w : World) (neg : Bool) (i from_ point places : Int) (h0 : 0 ≤ from_) (h1 : from_ < i) (h2 : i ≤ (s.size : Int)) (hne : (i == from_) = false) (hpt : decide (0 ≤ point) = false)
    (hp : 0 ≤ places) (hp' : places ≤ 4611686018427387904) (h4 : oneB s i 101 69 = true) (h5 : oneB s (i + 1) 43 45 = true) (h6 : (bt s (i + 1) == 45) = false) (h7 : dgB s (i + 1 + 1) = true) (r : Bool × ByteArray × Int × Int × Bool) (hr : litTail s neg (digs s from_ point i) places i = r) (Q : Exit → Act → World → Prop)
    (hq : ∀ a W, Fin w r a W → Q .ret a W) (hg : ∀ a W, At3 s w r 0 a W → Q (.goto 3) a W) (hg4 : ∀ m a W, m ≤ s.size → At4 s w r m a W → Q (.goto 4) a W) (a : Act) (hf : FrAt s w i from_ point places 0 0 false a) (c : Code) (hc : c = tailOf rest1) :
    c.wp Tryd.prog Q a (w.alloc (.cells #[.bool neg, .string ⟨#[]⟩, .int .i64 0] 23)) := by
  obtain ⟨u, rfl⟩ := hf
  subst hc
  have HG2 := Aside0.mk (show digs s from_ point i = (s.extract from_.toNat i.toNat) from by unfold digs; rw [if_neg (of_decide_eq_false hpt)])
  have HQ := Aside0.mk hq
  have HG := Aside0.mk hg
  have HG4 := Aside0.mk hg4
  have HR := Aside0.mk hr
  have HE := Aside0.mk h4
  have HF := Aside0.mk h5
  have hlt := oneB_lt h4
  have hlt2 := oneB_lt h5
  have p5 : (0 ≤ i + 1) = True := eq_true (by omega)
  have q5 : (i + 1 < (s.size : Int)) = True := eq_true hlt2
  have hx := bt_at s (i + 1)
  have HD := Aside0.mk h7
  clear hq hg hg4 hr h4 h5 h7
  dsimp only [rest1, tailOf, litScope, litBody, Tryd.f31, Option.getD, findLabel, Nat.reduceBEq, if_true, if_false, Bool.false_eq_true, reduceIte]
  have e0 := eq_true h0
  have e1 : (from_ ≤ i) = True := eq_true (by omega)
  have e2 := eq_true h2
  go_wp2_with (first | (go_at_call 47; (with_reducible refine (one_any s i 101 69 true HE.out (by omega) _).mono ?_); rintro e w' ⟨rfl, rfl⟩) | (go_at_call 47; (with_reducible refine (one_any s (i + 1) 43 45 true HF.out (by omega) _).mono ?_); rintro e w' ⟨rfl, rfl⟩) | (go_at_call 26; (with_reducible refine (dig_any s (i + 1 + 1) true HD.out (by omega) _).mono ?_); rintro e w' ⟨rfl, rfl⟩))
  refine wp_label ?_
  rename_i K hK
  have hre : litExp s neg (s.extract from_.toNat i.toNat) places false (i + 1 + 1) 0 = r := (by rw [← HR.out, HG2.out, litTail_sd HE.out HF.out h6 HD.out])
  refine hK _ _ (exp_ s hs w neg (s.extract from_.toNat i.toNat) i from_ point places 0 (i + 1 + 1) false 0 (by omega) (by omega) hp hp' (by omega) HD.out _ ?_ ?_ _ (fr_mk rfl) _ rfl)
  · rw [hre]
    exact HQ.out
  · rw [hre]
    intro m a W hm h
    exact HG4.out m a W (by omega) h
set_option maxHeartbeats 4000000 in
set_option maxRecDepth 100000 in
theorem mant_o_mn (s : ByteArray) (hs : (s.size : Int) ≤ 4611686018427387904) (w : World) (neg : Bool) (i from_ point places : Int) (h0 : 0 ≤ from_) (h1 : from_ < i) (h2 : i ≤ (s.size : Int)) (hne : (i == from_) = false) (hpt : decide (0 ≤ point) = false)
    (hp : 0 ≤ places) (hp' : places ≤ 4611686018427387904) (h4 : oneB s i 101 69 = true) (h5 : oneB s (i + 1) 43 45 = true) (h6 : (bt s (i + 1) == 45) = true) (h7 : dgB s (i + 1 + 1) = false) (r : Bool × ByteArray × Int × Int × Bool) (hr : litTail s neg (digs s from_ point i) places i = r) (Q : Exit → Act → World → Prop)
    (hq : ∀ a W, Fin w r a W → Q .ret a W) (hg : ∀ a W, At3 s w r 0 a W → Q (.goto 3) a W) (hg4 : ∀ m a W, m ≤ s.size → At4 s w r m a W → Q (.goto 4) a W) (a : Act) (hf : FrAt s w i from_ point places 0 0 false a) (c : Code) (hc : c = tailOf rest1) :
    c.wp Tryd.prog Q a (w.alloc (.cells #[.bool neg, .string ⟨#[]⟩, .int .i64 0] 23)) := by
  obtain ⟨u, rfl⟩ := hf
  subst hc
  have HG2 := Aside0.mk (show digs s from_ point i = (s.extract from_.toNat i.toNat) from by unfold digs; rw [if_neg (of_decide_eq_false hpt)])
  have HQ := Aside0.mk hq
  have HG := Aside0.mk hg
  have HG4 := Aside0.mk hg4
  have HR := Aside0.mk hr
  have HE := Aside0.mk h4
  have HF := Aside0.mk h5
  have hlt := oneB_lt h4
  have hlt2 := oneB_lt h5
  have p5 : (0 ≤ i + 1) = True := eq_true (by omega)
  have q5 : (i + 1 < (s.size : Int)) = True := eq_true hlt2
  have hx := bt_at s (i + 1)
  have HD := Aside0.mk h7
  clear hq hg hg4 hr h4 h5 h7
  dsimp only [rest1, tailOf, litScope, litBody, Tryd.f31, Option.getD, findLabel, Nat.reduceBEq, if_true, if_false, Bool.false_eq_true, reduceIte]
  have e0 := eq_true h0
  have e1 : (from_ ≤ i) = True := eq_true (by omega)
  have e2 := eq_true h2
  go_wp2_with (first | (go_at_call 47; (with_reducible refine (one_any s i 101 69 true HE.out (by omega) _).mono ?_); rintro e w' ⟨rfl, rfl⟩) | (go_at_call 47; (with_reducible refine (one_any s (i + 1) 43 45 true HF.out (by omega) _).mono ?_); rintro e w' ⟨rfl, rfl⟩) | (go_at_call 26; (with_reducible refine (dig_any s (i + 1 + 1) false HD.out (by omega) _).mono ?_); rintro e w' ⟨rfl, rfl⟩))
  go_step3
  exact HG.out _ _ ⟨neg, (s.extract from_.toNat i.toNat), i, from_, point, places, 0, (i + 1 + 1), true, 0, (fr_mk rfl), rfl, (by rw [← HR.out, HG2.out, litTail_s HE.out HF.out HD.out]), by omega, by omega, hp, hp', rfl⟩
set_option maxHeartbeats 4000000 in
set_option maxRecDepth 100000 in
theorem mant_o_md (s : ByteArray) (hs : (s.size : Int) ≤ 4611686018427387904) (w : World) (neg : Bool) (i from_ point places : Int) (h0 : 0 ≤ from_) (h1 : from_ < i) (h2 : i ≤ (s.size : Int)) (hne : (i == from_) = false) (hpt : decide (0 ≤ point) = false)
    (hp : 0 ≤ places) (hp' : places ≤ 4611686018427387904) (h4 : oneB s i 101 69 = true) (h5 : oneB s (i + 1) 43 45 = true) (h6 : (bt s (i + 1) == 45) = true) (h7 : dgB s (i + 1 + 1) = true) (r : Bool × ByteArray × Int × Int × Bool) (hr : litTail s neg (digs s from_ point i) places i = r) (Q : Exit → Act → World → Prop)
    (hq : ∀ a W, Fin w r a W → Q .ret a W) (hg : ∀ a W, At3 s w r 0 a W → Q (.goto 3) a W) (hg4 : ∀ m a W, m ≤ s.size → At4 s w r m a W → Q (.goto 4) a W) (a : Act) (hf : FrAt s w i from_ point places 0 0 false a) (c : Code) (hc : c = tailOf rest1) :
    c.wp Tryd.prog Q a (w.alloc (.cells #[.bool neg, .string ⟨#[]⟩, .int .i64 0] 23)) := by
  obtain ⟨u, rfl⟩ := hf
  subst hc
  have HG2 := Aside0.mk (show digs s from_ point i = (s.extract from_.toNat i.toNat) from by unfold digs; rw [if_neg (of_decide_eq_false hpt)])
  have HQ := Aside0.mk hq
  have HG := Aside0.mk hg
  have HG4 := Aside0.mk hg4
  have HR := Aside0.mk hr
  have HE := Aside0.mk h4
  have HF := Aside0.mk h5
  have hlt := oneB_lt h4
  have hlt2 := oneB_lt h5
  have p5 : (0 ≤ i + 1) = True := eq_true (by omega)
  have q5 : (i + 1 < (s.size : Int)) = True := eq_true hlt2
  have hx := bt_at s (i + 1)
  have HD := Aside0.mk h7
  clear hq hg hg4 hr h4 h5 h7
  dsimp only [rest1, tailOf, litScope, litBody, Tryd.f31, Option.getD, findLabel, Nat.reduceBEq, if_true, if_false, Bool.false_eq_true, reduceIte]
  have e0 := eq_true h0
  have e1 : (from_ ≤ i) = True := eq_true (by omega)
  have e2 := eq_true h2
  go_wp2_with (first | (go_at_call 47; (with_reducible refine (one_any s i 101 69 true HE.out (by omega) _).mono ?_); rintro e w' ⟨rfl, rfl⟩) | (go_at_call 47; (with_reducible refine (one_any s (i + 1) 43 45 true HF.out (by omega) _).mono ?_); rintro e w' ⟨rfl, rfl⟩) | (go_at_call 26; (with_reducible refine (dig_any s (i + 1 + 1) true HD.out (by omega) _).mono ?_); rintro e w' ⟨rfl, rfl⟩))
  refine wp_label ?_
  rename_i K hK
  have hre : litExp s neg (s.extract from_.toNat i.toNat) places true (i + 1 + 1) 0 = r := (by rw [← HR.out, HG2.out, litTail_sd HE.out HF.out h6 HD.out])
  refine hK _ _ (exp_ s hs w neg (s.extract from_.toNat i.toNat) i from_ point places 0 (i + 1 + 1) true 0 (by omega) (by omega) hp hp' (by omega) HD.out _ ?_ ?_ _ (fr_mk rfl) _ rfl)
  · rw [hre]
    exact HQ.out
  · rw [hre]
    intro m a W hm h
    exact HG4.out m a W (by omega) h
set_option maxHeartbeats 4000000 in
set_option maxRecDepth 100000 in
theorem mant_p_n (s : ByteArray) (hs : (s.size : Int) ≤ 4611686018427387904) (w : World) (neg : Bool) (i from_ point places : Int) (h0 : 0 ≤ from_) (h1 : from_ ≤ point) (h1' : point < i) (h2 : i ≤ (s.size : Int)) (hne : (i == from_) = false) (hpt : decide (0 ≤ point) = true)
    (hp : 0 ≤ places) (hp' : places ≤ 4611686018427387904) (h4 : oneB s i 101 69 = false) (r : Bool × ByteArray × Int × Int × Bool) (hr : litTail s neg (digs s from_ point i) places i = r) (Q : Exit → Act → World → Prop)
    (hq : ∀ a W, Fin w r a W → Q .ret a W) (hg : ∀ a W, At3 s w r 0 a W → Q (.goto 3) a W) (hg4 : ∀ m a W, m ≤ s.size → At4 s w r m a W → Q (.goto 4) a W) (a : Act) (hf : FrAt s w i from_ point places 0 0 false a) (c : Code) (hc : c = tailOf rest1) :
    c.wp Tryd.prog Q a (w.alloc (.cells #[.bool neg, .string ⟨#[]⟩, .int .i64 0] 23)) := by
  obtain ⟨u, rfl⟩ := hf
  subst hc
  have HG2 := Aside0.mk (show digs s from_ point i = (s.extract from_.toNat point.toNat ++ s.extract (point + 1).toNat i.toNat) from by unfold digs; rw [if_pos (of_decide_eq_true hpt)])
  have HQ := Aside0.mk hq
  have HG := Aside0.mk hg
  have HG4 := Aside0.mk hg4
  have HR := Aside0.mk hr
  have HE := Aside0.mk h4
  clear hq hg hg4 hr h4
  dsimp only [rest1, tailOf, litScope, litBody, Tryd.f31, Option.getD, findLabel, Nat.reduceBEq, if_true, if_false, Bool.false_eq_true, reduceIte]
  have e0 := eq_true h0
  have e1 : (from_ ≤ i) = True := eq_true (by omega)
  have e2 := eq_true h2
  have e3 := eq_true h1
  have e4 : (point ≤ (s.size : Int)) = True := eq_true (by omega)
  have e5 : (0 ≤ point + 1) = True := eq_true (by omega)
  have e6 : (point + 1 ≤ i) = True := eq_true (by omega)
  have e7 : IntKind.i64.wrap (point + 1) = point + 1 := IntWalk.i64_in _ (by omega)
  have e8 : (9223372036854775807 < point.toNat - from_.toNat + (i.toNat - (point + 1).toNat)) = False := eq_false (by omega)
  go_upto_region 18 with (fail)
  generalize hW0 : w.alloc _ = W0
  go_still_tail 11, (by kernel_rfl)
  change wpList _ _ _ _ _ W0.drew
  subst hW0
  clear e7 e8
  go_wp2_with (first | (go_at_call 47; (with_reducible refine (one_any s i 101 69 false HE.out (by omega) _).mono ?_); rintro e w' ⟨rfl, rfl⟩))
  go_step3
  exact HG.out _ _ ⟨neg, (s.extract from_.toNat point.toNat ++ s.extract (point + 1).toNat i.toNat), i, from_, point, places, 0, 0, false, 1, (fr_mk rfl), rfl, (by rw [← HR.out, HG2.out, litTail_n HE.out]), by omega, by omega, hp, hp', rfl⟩
set_option maxHeartbeats 4000000 in
set_option maxRecDepth 100000 in
theorem mant_p_zn (s : ByteArray) (hs : (s.size : Int) ≤ 4611686018427387904) (w : World) (neg : Bool) (i from_ point places : Int) (h0 : 0 ≤ from_) (h1 : from_ ≤ point) (h1' : point < i) (h2 : i ≤ (s.size : Int)) (hne : (i == from_) = false) (hpt : decide (0 ≤ point) = true)
    (hp : 0 ≤ places) (hp' : places ≤ 4611686018427387904) (h4 : oneB s i 101 69 = true) (h5 : oneB s (i + 1) 43 45 = false) (h7 : dgB s (i + 1) = false) (r : Bool × ByteArray × Int × Int × Bool) (hr : litTail s neg (digs s from_ point i) places i = r) (Q : Exit → Act → World → Prop)
    (hq : ∀ a W, Fin w r a W → Q .ret a W) (hg : ∀ a W, At3 s w r 0 a W → Q (.goto 3) a W) (hg4 : ∀ m a W, m ≤ s.size → At4 s w r m a W → Q (.goto 4) a W) (a : Act) (hf : FrAt s w i from_ point places 0 0 false a) (c : Code) (hc : c = tailOf rest1) :
    c.wp Tryd.prog Q a (w.alloc (.cells #[.bool neg, .string ⟨#[]⟩, .int .i64 0] 23)) := by
  obtain ⟨u, rfl⟩ := hf
  subst hc
  have HG2 := Aside0.mk (show digs s from_ point i = (s.extract from_.toNat point.toNat ++ s.extract (point + 1).toNat i.toNat) from by unfold digs; rw [if_pos (of_decide_eq_true hpt)])
  have HQ := Aside0.mk hq
  have HG := Aside0.mk hg
  have HG4 := Aside0.mk hg4
  have HR := Aside0.mk hr
  have HE := Aside0.mk h4
  have HF := Aside0.mk h5
  have hlt := oneB_lt h4
  have HD := Aside0.mk h7
  clear hq hg hg4 hr h4 h5 h7
  dsimp only [rest1, tailOf, litScope, litBody, Tryd.f31, Option.getD, findLabel, Nat.reduceBEq, if_true, if_false, Bool.false_eq_true, reduceIte]
  have e0 := eq_true h0
  have e1 : (from_ ≤ i) = True := eq_true (by omega)
  have e2 := eq_true h2
  have e3 := eq_true h1
  have e4 : (point ≤ (s.size : Int)) = True := eq_true (by omega)
  have e5 : (0 ≤ point + 1) = True := eq_true (by omega)
  have e6 : (point + 1 ≤ i) = True := eq_true (by omega)
  have e7 : IntKind.i64.wrap (point + 1) = point + 1 := IntWalk.i64_in _ (by omega)
  have e8 : (9223372036854775807 < point.toNat - from_.toNat + (i.toNat - (point + 1).toNat)) = False := eq_false (by omega)
  go_upto_region 18 with (fail)
  generalize hW0 : w.alloc _ = W0
  go_still_tail 11, (by kernel_rfl)
  change wpList _ _ _ _ _ W0.drew
  subst hW0
  clear e7 e8
  go_wp2_with (first | (go_at_call 47; (with_reducible refine (one_any s i 101 69 true HE.out (by omega) _).mono ?_); rintro e w' ⟨rfl, rfl⟩) | (go_at_call 47; (with_reducible refine (one_any s (i + 1) 43 45 false HF.out (by omega) _).mono ?_); rintro e w' ⟨rfl, rfl⟩) | (go_at_call 26; (with_reducible refine (dig_any s (i + 1) false HD.out (by omega) _).mono ?_); rintro e w' ⟨rfl, rfl⟩))
  go_step3
  exact HG.out _ _ ⟨neg, (s.extract from_.toNat point.toNat ++ s.extract (point + 1).toNat i.toNat), i, from_, point, places, 0, (i + 1), false, 1, (fr_mk rfl), rfl, (by rw [← HR.out, HG2.out, litTail_z HE.out HF.out HD.out]), by omega, by omega, hp, hp', rfl⟩
set_option maxHeartbeats 4000000 in
set_option maxRecDepth 100000 in
theorem mant_p_zd (s : ByteArray) (hs : (s.size : Int) ≤ 4611686018427387904) (w : World) (neg : Bool) (i from_ point places : Int) (h0 : 0 ≤ from_) (h1 : from_ ≤ point) (h1' : point < i) (h2 : i ≤ (s.size : Int)) (hne : (i == from_) = false) (hpt : decide (0 ≤ point) = true)
    (hp : 0 ≤ places) (hp' : places ≤ 4611686018427387904) (h4 : oneB s i 101 69 = true) (h5 : oneB s (i + 1) 43 45 = false) (h7 : dgB s (i + 1) = true) (r : Bool × ByteArray × Int × Int × Bool) (hr : litTail s neg (digs s from_ point i) places i = r) (Q : Exit → Act → World → Prop)
    (hq : ∀ a W, Fin w r a W → Q .ret a W) (hg : ∀ a W, At3 s w r 0 a W → Q (.goto 3) a W) (hg4 : ∀ m a W, m ≤ s.size → At4 s w r m a W → Q (.goto 4) a W) (a : Act) (hf : FrAt s w i from_ point places 0 0 false a) (c : Code) (hc : c = tailOf rest1) :
    c.wp Tryd.prog Q a (w.alloc (.cells #[.bool neg, .string ⟨#[]⟩, .int .i64 0] 23)) := by
  obtain ⟨u, rfl⟩ := hf
  subst hc
  have HG2 := Aside0.mk (show digs s from_ point i = (s.extract from_.toNat point.toNat ++ s.extract (point + 1).toNat i.toNat) from by unfold digs; rw [if_pos (of_decide_eq_true hpt)])
  have HQ := Aside0.mk hq
  have HG := Aside0.mk hg
  have HG4 := Aside0.mk hg4
  have HR := Aside0.mk hr
  have HE := Aside0.mk h4
  have HF := Aside0.mk h5
  have hlt := oneB_lt h4
  have HD := Aside0.mk h7
  clear hq hg hg4 hr h4 h5 h7
  dsimp only [rest1, tailOf, litScope, litBody, Tryd.f31, Option.getD, findLabel, Nat.reduceBEq, if_true, if_false, Bool.false_eq_true, reduceIte]
  have e0 := eq_true h0
  have e1 : (from_ ≤ i) = True := eq_true (by omega)
  have e2 := eq_true h2
  have e3 := eq_true h1
  have e4 : (point ≤ (s.size : Int)) = True := eq_true (by omega)
  have e5 : (0 ≤ point + 1) = True := eq_true (by omega)
  have e6 : (point + 1 ≤ i) = True := eq_true (by omega)
  have e7 : IntKind.i64.wrap (point + 1) = point + 1 := IntWalk.i64_in _ (by omega)
  have e8 : (9223372036854775807 < point.toNat - from_.toNat + (i.toNat - (point + 1).toNat)) = False := eq_false (by omega)
  go_upto_region 18 with (fail)
  generalize hW0 : w.alloc _ = W0
  go_still_tail 11, (by kernel_rfl)
  change wpList _ _ _ _ _ W0.drew
  subst hW0
  clear e7 e8
  go_wp2_with (first | (go_at_call 47; (with_reducible refine (one_any s i 101 69 true HE.out (by omega) _).mono ?_); rintro e w' ⟨rfl, rfl⟩) | (go_at_call 47; (with_reducible refine (one_any s (i + 1) 43 45 false HF.out (by omega) _).mono ?_); rintro e w' ⟨rfl, rfl⟩) | (go_at_call 26; (with_reducible refine (dig_any s (i + 1) true HD.out (by omega) _).mono ?_); rintro e w' ⟨rfl, rfl⟩))
  refine wp_label ?_
  rename_i K hK
  have hre : litExp s neg (s.extract from_.toNat point.toNat ++ s.extract (point + 1).toNat i.toNat) places false (i + 1) 0 = r := (by rw [← HR.out, HG2.out, litTail_zd HE.out HF.out HD.out])
  refine hK _ _ (exp_ s hs w neg (s.extract from_.toNat point.toNat ++ s.extract (point + 1).toNat i.toNat) i from_ point places 0 (i + 1) false 1 (by omega) (by omega) hp hp' (by omega) HD.out _ ?_ ?_ _ (fr_mk rfl) _ rfl)
  · rw [hre]
    exact HQ.out
  · rw [hre]
    intro m a W hm h
    exact HG4.out m a W (by omega) h
set_option maxHeartbeats 4000000 in
set_option maxRecDepth 100000 in
theorem mant_p_pn (s : ByteArray) (hs : (s.size : Int) ≤ 4611686018427387904) (w : World) (neg : Bool) (i from_ point places : Int) (h0 : 0 ≤ from_) (h1 : from_ ≤ point) (h1' : point < i) (h2 : i ≤ (s.size : Int)) (hne : (i == from_) = false) (hpt : decide (0 ≤ point) = true)
    (hp : 0 ≤ places) (hp' : places ≤ 4611686018427387904) (h4 : oneB s i 101 69 = true) (h5 : oneB s (i + 1) 43 45 = true) (h6 : (bt s (i + 1) == 45) = false) (h7 : dgB s (i + 1 + 1) = false) (r : Bool × ByteArray × Int × Int × Bool) (hr : litTail s neg (digs s from_ point i) places i = r) (Q : Exit → Act → World → Prop)
    (hq : ∀ a W, Fin w r a W → Q .ret a W) (hg : ∀ a W, At3 s w r 0 a W → Q (.goto 3) a W) (hg4 : ∀ m a W, m ≤ s.size → At4 s w r m a W → Q (.goto 4) a W) (a : Act) (hf : FrAt s w i from_ point places 0 0 false a) (c : Code) (hc : c = tailOf rest1) :
    c.wp Tryd.prog Q a (w.alloc (.cells #[.bool neg, .string ⟨#[]⟩, .int .i64 0] 23)) := by
  obtain ⟨u, rfl⟩ := hf
  subst hc
  have HG2 := Aside0.mk (show digs s from_ point i = (s.extract from_.toNat point.toNat ++ s.extract (point + 1).toNat i.toNat) from by unfold digs; rw [if_pos (of_decide_eq_true hpt)])
  have HQ := Aside0.mk hq
  have HG := Aside0.mk hg
  have HG4 := Aside0.mk hg4
  have HR := Aside0.mk hr
  have HE := Aside0.mk h4
  have HF := Aside0.mk h5
  have hlt := oneB_lt h4
  have hlt2 := oneB_lt h5
  have p5 : (0 ≤ i + 1) = True := eq_true (by omega)
  have q5 : (i + 1 < (s.size : Int)) = True := eq_true hlt2
  have hx := bt_at s (i + 1)
  have HD := Aside0.mk h7
  clear hq hg hg4 hr h4 h5 h7
  dsimp only [rest1, tailOf, litScope, litBody, Tryd.f31, Option.getD, findLabel, Nat.reduceBEq, if_true, if_false, Bool.false_eq_true, reduceIte]
  have e0 := eq_true h0
  have e1 : (from_ ≤ i) = True := eq_true (by omega)
  have e2 := eq_true h2
  have e3 := eq_true h1
  have e4 : (point ≤ (s.size : Int)) = True := eq_true (by omega)
  have e5 : (0 ≤ point + 1) = True := eq_true (by omega)
  have e6 : (point + 1 ≤ i) = True := eq_true (by omega)
  have e7 : IntKind.i64.wrap (point + 1) = point + 1 := IntWalk.i64_in _ (by omega)
  have e8 : (9223372036854775807 < point.toNat - from_.toNat + (i.toNat - (point + 1).toNat)) = False := eq_false (by omega)
  go_upto_region 18 with (fail)
  generalize hW0 : w.alloc _ = W0
  go_still_tail 11, (by kernel_rfl)
  change wpList _ _ _ _ _ W0.drew
  subst hW0
  clear e7 e8
  go_wp2_with (first | (go_at_call 47; (with_reducible refine (one_any s i 101 69 true HE.out (by omega) _).mono ?_); rintro e w' ⟨rfl, rfl⟩) | (go_at_call 47; (with_reducible refine (one_any s (i + 1) 43 45 true HF.out (by omega) _).mono ?_); rintro e w' ⟨rfl, rfl⟩) | (go_at_call 26; (with_reducible refine (dig_any s (i + 1 + 1) false HD.out (by omega) _).mono ?_); rintro e w' ⟨rfl, rfl⟩))
  go_step3
  exact HG.out _ _ ⟨neg, (s.extract from_.toNat point.toNat ++ s.extract (point + 1).toNat i.toNat), i, from_, point, places, 0, (i + 1 + 1), false, 1, (fr_mk rfl), rfl, (by rw [← HR.out, HG2.out, litTail_s HE.out HF.out HD.out]), by omega, by omega, hp, hp', rfl⟩
set_option maxHeartbeats 4000000 in
set_option maxRecDepth 100000 in
theorem mant_p_pd (s : ByteArray) (hs : (s.size : Int) ≤ 4611686018427387904) (w : World) (neg : Bool) (i from_ point places : Int) (h0 : 0 ≤ from_) (h1 : from_ ≤ point) (h1' : point < i) (h2 : i ≤ (s.size : Int)) (hne : (i == from_) = false) (hpt : decide (0 ≤ point) = true)
    (hp : 0 ≤ places) (hp' : places ≤ 4611686018427387904) (h4 : oneB s i 101 69 = true) (h5 : oneB s (i + 1) 43 45 = true) (h6 : (bt s (i + 1) == 45) = false) (h7 : dgB s (i + 1 + 1) = true) (r : Bool × ByteArray × Int × Int × Bool) (hr : litTail s neg (digs s from_ point i) places i = r) (Q : Exit → Act → World → Prop)
    (hq : ∀ a W, Fin w r a W → Q .ret a W) (hg : ∀ a W, At3 s w r 0 a W → Q (.goto 3) a W) (hg4 : ∀ m a W, m ≤ s.size → At4 s w r m a W → Q (.goto 4) a W) (a : Act) (hf : FrAt s w i from_ point places 0 0 false a) (c : Code) (hc : c = tailOf rest1) :
    c.wp Tryd.prog Q a (w.alloc (.cells #[.bool neg, .string ⟨#[]⟩, .int .i64 0] 23)) := by
  obtain ⟨u, rfl⟩ := hf
  subst hc
  have HG2 := Aside0.mk (show digs s from_ point i = (s.extract from_.toNat point.toNat ++ s.extract (point + 1).toNat i.toNat) from by unfold digs; rw [if_pos (of_decide_eq_true hpt)])
  have HQ := Aside0.mk hq
  have HG := Aside0.mk hg
  have HG4 := Aside0.mk hg4
  have HR := Aside0.mk hr
  have HE := Aside0.mk h4
  have HF := Aside0.mk h5
  have hlt := oneB_lt h4
  have hlt2 := oneB_lt h5
  have p5 : (0 ≤ i + 1) = True := eq_true (by omega)
  have q5 : (i + 1 < (s.size : Int)) = True := eq_true hlt2
  have hx := bt_at s (i + 1)
  have HD := Aside0.mk h7
  clear hq hg hg4 hr h4 h5 h7
  dsimp only [rest1, tailOf, litScope, litBody, Tryd.f31, Option.getD, findLabel, Nat.reduceBEq, if_true, if_false, Bool.false_eq_true, reduceIte]
  have e0 := eq_true h0
  have e1 : (from_ ≤ i) = True := eq_true (by omega)
  have e2 := eq_true h2
  have e3 := eq_true h1
  have e4 : (point ≤ (s.size : Int)) = True := eq_true (by omega)
  have e5 : (0 ≤ point + 1) = True := eq_true (by omega)
  have e6 : (point + 1 ≤ i) = True := eq_true (by omega)
  have e7 : IntKind.i64.wrap (point + 1) = point + 1 := IntWalk.i64_in _ (by omega)
  have e8 : (9223372036854775807 < point.toNat - from_.toNat + (i.toNat - (point + 1).toNat)) = False := eq_false (by omega)
  go_upto_region 18 with (fail)
  generalize hW0 : w.alloc _ = W0
  go_still_tail 11, (by kernel_rfl)
  change wpList _ _ _ _ _ W0.drew
  subst hW0
  clear e7 e8
  go_wp2_with (first | (go_at_call 47; (with_reducible refine (one_any s i 101 69 true HE.out (by omega) _).mono ?_); rintro e w' ⟨rfl, rfl⟩) | (go_at_call 47; (with_reducible refine (one_any s (i + 1) 43 45 true HF.out (by omega) _).mono ?_); rintro e w' ⟨rfl, rfl⟩) | (go_at_call 26; (with_reducible refine (dig_any s (i + 1 + 1) true HD.out (by omega) _).mono ?_); rintro e w' ⟨rfl, rfl⟩))
  refine wp_label ?_
  rename_i K hK
  have hre : litExp s neg (s.extract from_.toNat point.toNat ++ s.extract (point + 1).toNat i.toNat) places false (i + 1 + 1) 0 = r := (by rw [← HR.out, HG2.out, litTail_sd HE.out HF.out h6 HD.out])
  refine hK _ _ (exp_ s hs w neg (s.extract from_.toNat point.toNat ++ s.extract (point + 1).toNat i.toNat) i from_ point places 0 (i + 1 + 1) false 1 (by omega) (by omega) hp hp' (by omega) HD.out _ ?_ ?_ _ (fr_mk rfl) _ rfl)
  · rw [hre]
    exact HQ.out
  · rw [hre]
    intro m a W hm h
    exact HG4.out m a W (by omega) h
set_option maxHeartbeats 4000000 in
set_option maxRecDepth 100000 in
theorem mant_p_mn (s : ByteArray) (hs : (s.size : Int) ≤ 4611686018427387904) (w : World) (neg : Bool) (i from_ point places : Int) (h0 : 0 ≤ from_) (h1 : from_ ≤ point) (h1' : point < i) (h2 : i ≤ (s.size : Int)) (hne : (i == from_) = false) (hpt : decide (0 ≤ point) = true)
    (hp : 0 ≤ places) (hp' : places ≤ 4611686018427387904) (h4 : oneB s i 101 69 = true) (h5 : oneB s (i + 1) 43 45 = true) (h6 : (bt s (i + 1) == 45) = true) (h7 : dgB s (i + 1 + 1) = false) (r : Bool × ByteArray × Int × Int × Bool) (hr : litTail s neg (digs s from_ point i) places i = r) (Q : Exit → Act → World → Prop)
    (hq : ∀ a W, Fin w r a W → Q .ret a W) (hg : ∀ a W, At3 s w r 0 a W → Q (.goto 3) a W) (hg4 : ∀ m a W, m ≤ s.size → At4 s w r m a W → Q (.goto 4) a W) (a : Act) (hf : FrAt s w i from_ point places 0 0 false a) (c : Code) (hc : c = tailOf rest1) :
    c.wp Tryd.prog Q a (w.alloc (.cells #[.bool neg, .string ⟨#[]⟩, .int .i64 0] 23)) := by
  obtain ⟨u, rfl⟩ := hf
  subst hc
  have HG2 := Aside0.mk (show digs s from_ point i = (s.extract from_.toNat point.toNat ++ s.extract (point + 1).toNat i.toNat) from by unfold digs; rw [if_pos (of_decide_eq_true hpt)])
  have HQ := Aside0.mk hq
  have HG := Aside0.mk hg
  have HG4 := Aside0.mk hg4
  have HR := Aside0.mk hr
  have HE := Aside0.mk h4
  have HF := Aside0.mk h5
  have hlt := oneB_lt h4
  have hlt2 := oneB_lt h5
  have p5 : (0 ≤ i + 1) = True := eq_true (by omega)
  have q5 : (i + 1 < (s.size : Int)) = True := eq_true hlt2
  have hx := bt_at s (i + 1)
  have HD := Aside0.mk h7
  clear hq hg hg4 hr h4 h5 h7
  dsimp only [rest1, tailOf, litScope, litBody, Tryd.f31, Option.getD, findLabel, Nat.reduceBEq, if_true, if_false, Bool.false_eq_true, reduceIte]
  have e0 := eq_true h0
  have e1 : (from_ ≤ i) = True := eq_true (by omega)
  have e2 := eq_true h2
  have e3 := eq_true h1
  have e4 : (point ≤ (s.size : Int)) = True := eq_true (by omega)
  have e5 : (0 ≤ point + 1) = True := eq_true (by omega)
  have e6 : (point + 1 ≤ i) = True := eq_true (by omega)
  have e7 : IntKind.i64.wrap (point + 1) = point + 1 := IntWalk.i64_in _ (by omega)
  have e8 : (9223372036854775807 < point.toNat - from_.toNat + (i.toNat - (point + 1).toNat)) = False := eq_false (by omega)
  go_upto_region 18 with (fail)
  generalize hW0 : w.alloc _ = W0
  go_still_tail 11, (by kernel_rfl)
  change wpList _ _ _ _ _ W0.drew
  subst hW0
  clear e7 e8
  go_wp2_with (first | (go_at_call 47; (with_reducible refine (one_any s i 101 69 true HE.out (by omega) _).mono ?_); rintro e w' ⟨rfl, rfl⟩) | (go_at_call 47; (with_reducible refine (one_any s (i + 1) 43 45 true HF.out (by omega) _).mono ?_); rintro e w' ⟨rfl, rfl⟩) | (go_at_call 26; (with_reducible refine (dig_any s (i + 1 + 1) false HD.out (by omega) _).mono ?_); rintro e w' ⟨rfl, rfl⟩))
  go_step3
  exact HG.out _ _ ⟨neg, (s.extract from_.toNat point.toNat ++ s.extract (point + 1).toNat i.toNat), i, from_, point, places, 0, (i + 1 + 1), true, 1, (fr_mk rfl), rfl, (by rw [← HR.out, HG2.out, litTail_s HE.out HF.out HD.out]), by omega, by omega, hp, hp', rfl⟩
set_option maxHeartbeats 4000000 in
set_option maxRecDepth 100000 in
theorem mant_p_md (s : ByteArray) (hs : (s.size : Int) ≤ 4611686018427387904) (w : World) (neg : Bool) (i from_ point places : Int) (h0 : 0 ≤ from_) (h1 : from_ ≤ point) (h1' : point < i) (h2 : i ≤ (s.size : Int)) (hne : (i == from_) = false) (hpt : decide (0 ≤ point) = true)
    (hp : 0 ≤ places) (hp' : places ≤ 4611686018427387904) (h4 : oneB s i 101 69 = true) (h5 : oneB s (i + 1) 43 45 = true) (h6 : (bt s (i + 1) == 45) = true) (h7 : dgB s (i + 1 + 1) = true) (r : Bool × ByteArray × Int × Int × Bool) (hr : litTail s neg (digs s from_ point i) places i = r) (Q : Exit → Act → World → Prop)
    (hq : ∀ a W, Fin w r a W → Q .ret a W) (hg : ∀ a W, At3 s w r 0 a W → Q (.goto 3) a W) (hg4 : ∀ m a W, m ≤ s.size → At4 s w r m a W → Q (.goto 4) a W) (a : Act) (hf : FrAt s w i from_ point places 0 0 false a) (c : Code) (hc : c = tailOf rest1) :
    c.wp Tryd.prog Q a (w.alloc (.cells #[.bool neg, .string ⟨#[]⟩, .int .i64 0] 23)) := by
  obtain ⟨u, rfl⟩ := hf
  subst hc
  have HG2 := Aside0.mk (show digs s from_ point i = (s.extract from_.toNat point.toNat ++ s.extract (point + 1).toNat i.toNat) from by unfold digs; rw [if_pos (of_decide_eq_true hpt)])
  have HQ := Aside0.mk hq
  have HG := Aside0.mk hg
  have HG4 := Aside0.mk hg4
  have HR := Aside0.mk hr
  have HE := Aside0.mk h4
  have HF := Aside0.mk h5
  have hlt := oneB_lt h4
  have hlt2 := oneB_lt h5
  have p5 : (0 ≤ i + 1) = True := eq_true (by omega)
  have q5 : (i + 1 < (s.size : Int)) = True := eq_true hlt2
  have hx := bt_at s (i + 1)
  have HD := Aside0.mk h7
  clear hq hg hg4 hr h4 h5 h7
  dsimp only [rest1, tailOf, litScope, litBody, Tryd.f31, Option.getD, findLabel, Nat.reduceBEq, if_true, if_false, Bool.false_eq_true, reduceIte]
  have e0 := eq_true h0
  have e1 : (from_ ≤ i) = True := eq_true (by omega)
  have e2 := eq_true h2
  have e3 := eq_true h1
  have e4 : (point ≤ (s.size : Int)) = True := eq_true (by omega)
  have e5 : (0 ≤ point + 1) = True := eq_true (by omega)
  have e6 : (point + 1 ≤ i) = True := eq_true (by omega)
  have e7 : IntKind.i64.wrap (point + 1) = point + 1 := IntWalk.i64_in _ (by omega)
  have e8 : (9223372036854775807 < point.toNat - from_.toNat + (i.toNat - (point + 1).toNat)) = False := eq_false (by omega)
  go_upto_region 18 with (fail)
  generalize hW0 : w.alloc _ = W0
  go_still_tail 11, (by kernel_rfl)
  change wpList _ _ _ _ _ W0.drew
  subst hW0
  clear e7 e8
  go_wp2_with (first | (go_at_call 47; (with_reducible refine (one_any s i 101 69 true HE.out (by omega) _).mono ?_); rintro e w' ⟨rfl, rfl⟩) | (go_at_call 47; (with_reducible refine (one_any s (i + 1) 43 45 true HF.out (by omega) _).mono ?_); rintro e w' ⟨rfl, rfl⟩) | (go_at_call 26; (with_reducible refine (dig_any s (i + 1 + 1) true HD.out (by omega) _).mono ?_); rintro e w' ⟨rfl, rfl⟩))
  refine wp_label ?_
  rename_i K hK
  have hre : litExp s neg (s.extract from_.toNat point.toNat ++ s.extract (point + 1).toNat i.toNat) places true (i + 1 + 1) 0 = r := (by rw [← HR.out, HG2.out, litTail_sd HE.out HF.out h6 HD.out])
  refine hK _ _ (exp_ s hs w neg (s.extract from_.toNat point.toNat ++ s.extract (point + 1).toNat i.toNat) i from_ point places 0 (i + 1 + 1) true 1 (by omega) (by omega) hp hp' (by omega) HD.out _ ?_ ?_ _ (fr_mk rfl) _ rfl)
  · rw [hre]
    exact HQ.out
  · rw [hre]
    intro m a W hm h
    exact HG4.out m a W (by omega) h
end Go.Proofs.YtcgjfckhnpimbaaDoor.X
end
section
set_option linter.unusedVariables false
set_option linter.unusedSimpArgs false
namespace Go.Proofs.YtcgjfckhnpimbaaDoor.X
open Go.RowKit Go.Proofs.YtcgjfckhnpimbaaDoorW.PrintWords
theorem mant_ (s : ByteArray) (hs : (s.size : Int) ≤ 4611686018427387904) (w : World) (neg : Bool) (i from_ point places : Int) (h0 : 0 ≤ from_) (h1 : from_ ≤ i) (h2 : i ≤ (s.size : Int)) (hpt : point < 0 ∨ (from_ ≤ point ∧ point < i))
    (hp : 0 ≤ places) (hp' : places ≤ 4611686018427387904) (r : Bool × ByteArray × Int × Int × Bool) (hr : litM s neg from_ point places i = r) (Q : Exit → Act → World → Prop)
    (hq : ∀ a W, Fin w r a W → Q .ret a W) (hg : ∀ a W, At3 s w r 0 a W → Q (.goto 3) a W) (hg4 : ∀ m a W, m ≤ s.size → At4 s w r m a W → Q (.goto 4) a W) (a : Act) (hf : FrAt s w i from_ point places 0 0 false a) (c : Code) (hc : c = tailOf rest1) :
    c.wp Tryd.prog Q a (w.alloc (.cells #[.bool neg, .string ⟨#[]⟩, .int .i64 0] 23)) := by
  unfold litM at hr
  by_cases e : i = from_
  · subst e
    rw [if_pos rfl] at hr
    subst hr
    exact mant_none s w neg i point places Q hq a hf c hc
  · rw [if_neg e] at hr
    have hne : (i == from_) = false := beq_eq_false_iff_ne.mpr e
    rcases hpt with hpt | ⟨hpa, hpb⟩
    · have hpd : decide (0 ≤ point) = false := decide_eq_false (by omega)
      have h1' : from_ < i := by omega
      cases h4 : oneB s i 101 69
      · exact mant_o_n s hs w neg i from_ point places h0 h1' h2 hne hpd hp hp' h4 r hr Q hq hg hg4 a hf c hc
      · cases h5 : oneB s (i + 1) 43 45
        · cases h7 : dgB s (i + 1)
          · exact mant_o_zn s hs w neg i from_ point places h0 h1' h2 hne hpd hp hp' h4 h5 h7 r hr Q hq hg hg4 a hf c hc
          · exact mant_o_zd s hs w neg i from_ point places h0 h1' h2 hne hpd hp hp' h4 h5 h7 r hr Q hq hg hg4 a hf c hc
        · cases h6 : (bt s (i + 1) == 45) <;> cases h7 : dgB s (i + 1 + 1)
          · exact mant_o_pn s hs w neg i from_ point places h0 h1' h2 hne hpd hp hp' h4 h5 h6 h7 r hr Q hq hg hg4 a hf c hc
          · exact mant_o_pd s hs w neg i from_ point places h0 h1' h2 hne hpd hp hp' h4 h5 h6 h7 r hr Q hq hg hg4 a hf c hc
          · exact mant_o_mn s hs w neg i from_ point places h0 h1' h2 hne hpd hp hp' h4 h5 h6 h7 r hr Q hq hg hg4 a hf c hc
          · exact mant_o_md s hs w neg i from_ point places h0 h1' h2 hne hpd hp hp' h4 h5 h6 h7 r hr Q hq hg hg4 a hf c hc
    · have hpd : decide (0 ≤ point) = true := decide_eq_true (by omega)
      cases h4 : oneB s i 101 69
      · exact mant_p_n s hs w neg i from_ point places h0 hpa hpb h2 hne hpd hp hp' h4 r hr Q hq hg hg4 a hf c hc
      · cases h5 : oneB s (i + 1) 43 45
        · cases h7 : dgB s (i + 1)
          · exact mant_p_zn s hs w neg i from_ point places h0 hpa hpb h2 hne hpd hp hp' h4 h5 h7 r hr Q hq hg hg4 a hf c hc
          · exact mant_p_zd s hs w neg i from_ point places h0 hpa hpb h2 hne hpd hp hp' h4 h5 h7 r hr Q hq hg hg4 a hf c hc
        · cases h6 : (bt s (i + 1) == 45) <;> cases h7 : dgB s (i + 1 + 1)
          · exact mant_p_pn s hs w neg i from_ point places h0 hpa hpb h2 hne hpd hp hp' h4 h5 h6 h7 r hr Q hq hg hg4 a hf c hc
          · exact mant_p_pd s hs w neg i from_ point places h0 hpa hpb h2 hne hpd hp hp' h4 h5 h6 h7 r hr Q hq hg hg4 a hf c hc
          · exact mant_p_mn s hs w neg i from_ point places h0 hpa hpb h2 hne hpd hp hp' h4 h5 h6 h7 r hr Q hq hg hg4 a hf c hc
          · exact mant_p_md s hs w neg i from_ point places h0 hpa hpb h2 hne hpd hp hp' h4 h5 h6 h7 r hr Q hq hg hg4 a hf c hc
def litB (s : ByteArray) (neg : Bool) (from_ point places i : Int) : Bool × ByteArray × Int × Int × Bool := litM s neg from_ point (places + (digEnd s (i + 1) - (i + 1))) (digEnd s (i + 1))
/-- Behind a jump to the label 2. -/
def At2 (s : ByteArray) (w : World) (r : Bool × ByteArray × Int × Int × Bool) (m : Nat) (a : Act) (W : World) : Prop :=
  ∃ (neg : Bool) (i from_ point places : Int), FrAt s w i from_ point places 0 0 false a ∧ W = (w.alloc (.cells #[.bool neg, .string ⟨#[]⟩, .int .i64 0] 23)) ∧
    r = litB s neg from_ point places i ∧ 0 ≤ from_ ∧ from_ ≤ point ∧ point ≤ i ∧ i < (s.size : Int) ∧ 0 ≤ places ∧ places ≤ i ∧ m = s.size + 2 + ((s.size : Int) - i).toNat
/-- Behind a jump to the label 1. -/
def At1 (s : ByteArray) (w : World) (r : Bool × ByteArray × Int × Int × Bool) (m : Nat) (a : Act) (W : World) : Prop :=
  ∃ (neg : Bool) (i from_ point places : Int), FrAt s w i from_ point places 0 0 false a ∧ W = (w.alloc (.cells #[.bool neg, .string ⟨#[]⟩, .int .i64 0] 23)) ∧
    r = litM s neg from_ point places i ∧ 0 ≤ from_ ∧ from_ ≤ i ∧ i ≤ (s.size : Int) ∧ (point < 0 ∨ (from_ ≤ point ∧ point < i)) ∧ 0 ≤ places ∧ places ≤ i ∧ m = s.size + 1
theorem litB_yes {s : ByteArray} {neg : Bool} {from_ point places i : Int} (h : dgB s (i + 1) = true) : litB s neg from_ point places i = litB s neg from_ point (places + 1) (i + 1) := by
  unfold litB
  rw [digEnd_yes h]
  congr 1
  omega
theorem litB_no {s : ByteArray} {neg : Bool} {from_ point places i : Int} (h : dgB s (i + 1) = false) : litB s neg from_ point places i = litM s neg from_ point places (i + 1) := by
  unfold litB
  rw [digEnd_no h]
  congr 1
  omega
set_option maxHeartbeats 4000000 in
set_option maxRecDepth 100000 in
theorem behind_yes (s : ByteArray) (hs : (s.size : Int) ≤ 4611686018427387904) (w : World) (neg : Bool) (i from_ point places : Int) (h0 : 0 ≤ from_) (h1 : from_ ≤ point) (h1' : point ≤ i) (h2 : i < (s.size : Int))
    (hp : 0 ≤ places) (hp' : places ≤ i) (hd : dgB s (i + 1) = true) (r : Bool × ByteArray × Int × Int × Bool) (hr : litB s neg from_ point places i = r) (Q : Exit → Act → World → Prop)
    (hg2 : ∀ m a W, m < s.size + 2 + ((s.size : Int) - i).toNat → At2 s w r m a W → Q (.goto 2) a W) (a : Act) (hf : FrAt s w i from_ point places 0 0 false a) (c : Code) (hc : c = tailOf rest2) :
    c.wp Tryd.prog Q a (w.alloc (.cells #[.bool neg, .string ⟨#[]⟩, .int .i64 0] 23)) := by
  obtain ⟨u, rfl⟩ := hf
  subst hc
  have HG := Aside0.mk hg2
  have HD := Aside0.mk hd
  have HR := Aside0.mk hr
  have hlt := dgB_lt hd
  clear hg2 hd hr
  dsimp only [rest2, tailOf, litScope, litBody, Tryd.f31, Option.getD, findLabel, Nat.reduceBEq, if_true, if_false, Bool.false_eq_true, reduceIte]
  go_wp2_with (go_at_call 26; (with_reducible refine (dig_any s (i + 1) true HD.out (by omega) _).mono ?_); rintro e w' ⟨rfl, rfl⟩)
  go_step3
  refine HG.out _ _ _ ?_ ⟨neg, i + 1, from_, point, places + 1, (fr_mk rfl), rfl, by rw [← HR.out, litB_yes HD.out], h0, h1, by omega, by omega, by omega, by omega, rfl⟩
  omega
set_option maxHeartbeats 4000000 in
set_option maxRecDepth 100000 in
theorem behind_no (s : ByteArray) (hs : (s.size : Int) ≤ 4611686018427387904) (w : World) (neg : Bool) (i from_ point places : Int) (h0 : 0 ≤ from_) (h1 : from_ ≤ point) (h1' : point ≤ i) (h2 : i < (s.size : Int))
    (hp : 0 ≤ places) (hp' : places ≤ i) (hd : dgB s (i + 1) = false) (r : Bool × ByteArray × Int × Int × Bool) (hr : litB s neg from_ point places i = r) (Q : Exit → Act → World → Prop)
    (hq : ∀ a W, Fin w r a W → Q .ret a W) (hg : ∀ a W, At3 s w r 0 a W → Q (.goto 3) a W) (hg4 : ∀ m a W, m ≤ s.size → At4 s w r m a W → Q (.goto 4) a W) (a : Act) (hf : FrAt s w i from_ point places 0 0 false a) (c : Code) (hc : c = tailOf rest2) :
    c.wp Tryd.prog Q a (w.alloc (.cells #[.bool neg, .string ⟨#[]⟩, .int .i64 0] 23)) := by
  obtain ⟨u, rfl⟩ := hf
  subst hc
  have HQ := Aside0.mk hq
  have HG := Aside0.mk hg
  have HG4 := Aside0.mk hg4
  have HD := Aside0.mk hd
  have HR := Aside0.mk hr
  clear hq hg hg4 hd hr
  dsimp only [rest2, tailOf, litScope, litBody, Tryd.f31, Option.getD, findLabel, Nat.reduceBEq, if_true, if_false, Bool.false_eq_true, reduceIte]
  go_wp2_with (go_at_call 26; (with_reducible refine (dig_any s (i + 1) false HD.out (by omega) _).mono ?_); rintro e w' ⟨rfl, rfl⟩)
  refine wp_label ?_
  rename_i K hK
  exact hK _ _ (mant_ s hs w neg (i + 1) from_ point places h0 (by omega) (by omega) (.inr ⟨h1, by omega⟩) hp (by omega) r (by rw [← HR.out, litB_no HD.out]) _ HQ.out HG.out HG4.out _ (fr_mk rfl) _ rfl)
def litA (s : ByteArray) (neg : Bool) (from_ i : Int) : Bool × ByteArray × Int × Int × Bool :=
  if (oneB s (digEnd s i) 46 46 && !(digEnd s i == from_ && !dgB s (digEnd s i + 1))) = true then litB s neg from_ (digEnd s i) 0 (digEnd s i)
  else litM s neg from_ (-1) 0 (digEnd s i)
/-- Behind a jump to the label 0. -/
def At0 (s : ByteArray) (w : World) (r : Bool × ByteArray × Int × Int × Bool) (m : Nat) (a : Act) (W : World) : Prop :=
  ∃ (neg : Bool) (i from_ : Int), FrAt s w i from_ (-1) 0 0 0 false a ∧ W = (w.alloc (.cells #[.bool neg, .string ⟨#[]⟩, .int .i64 0] 23)) ∧
    r = litA s neg from_ i ∧ 0 ≤ from_ ∧ from_ ≤ i ∧ i ≤ (s.size : Int) ∧ m = s.size + s.size + 4 + ((s.size : Int) - i).toNat
theorem litA_yes {s : ByteArray} {neg : Bool} {from_ i : Int} (h : dgB s i = true) : litA s neg from_ i = litA s neg from_ (i + 1) := by
  unfold litA
  rw [digEnd_yes h]
theorem litA_no {s : ByteArray} {neg : Bool} {from_ i : Int} (h : dgB s i = false) (g : (oneB s i 46 46 && !(i == from_ && !dgB s (i + 1))) = false) : litA s neg from_ i = litM s neg from_ (-1) 0 i := by
  unfold litA
  rw [digEnd_no h, g, if_neg (by decide)]
theorem litA_pt {s : ByteArray} {neg : Bool} {from_ i : Int} (h : dgB s i = false) (g : (oneB s i 46 46 && !(i == from_ && !dgB s (i + 1))) = true) : litA s neg from_ i = litB s neg from_ i 0 i := by
  unfold litA
  rw [digEnd_no h, g, if_pos rfl]
set_option maxHeartbeats 4000000 in
set_option maxRecDepth 100000 in
theorem ahead_yes (s : ByteArray) (hs : (s.size : Int) ≤ 4611686018427387904) (w : World) (neg : Bool) (i from_ : Int) (h0 : 0 ≤ from_) (h1 : from_ ≤ i) (h2 : i ≤ (s.size : Int)) (hd : dgB s i = true) (r : Bool × ByteArray × Int × Int × Bool) (hr : litA s neg from_ i = r) (Q : Exit → Act → World → Prop)
    (hg0 : ∀ m a W, m < s.size + s.size + 4 + ((s.size : Int) - i).toNat → At0 s w r m a W → Q (.goto 0) a W) (a : Act) (hf : FrAt s w i from_ (-1) 0 0 0 false a) (c : Code) (hc : c = tailOf rest0) :
    c.wp Tryd.prog Q a (w.alloc (.cells #[.bool neg, .string ⟨#[]⟩, .int .i64 0] 23)) := by
  obtain ⟨u, rfl⟩ := hf
  subst hc
  have HG := Aside0.mk hg0
  have HD := Aside0.mk hd
  have HR := Aside0.mk hr
  have hlt := dgB_lt hd
  clear hg0 hd hr
  dsimp only [rest0, tailOf, litScope, litBody, Tryd.f31, Option.getD, findLabel, Nat.reduceBEq, if_true, if_false, Bool.false_eq_true, reduceIte]
  go_wp2_with (go_at_call 26; (with_reducible refine (dig_any s i true HD.out (by omega) _).mono ?_); rintro e w' ⟨rfl, rfl⟩)
  go_step3
  refine HG.out _ _ _ ?_ ⟨neg, i + 1, from_, (fr_mk rfl), rfl, by rw [← HR.out, litA_yes HD.out], h0, by omega, by omega, rfl⟩
  omega
set_option maxHeartbeats 4000000 in
set_option maxRecDepth 100000 in
theorem ahead_o (s : ByteArray) (hs : (s.size : Int) ≤ 4611686018427387904) (w : World) (neg : Bool) (i from_ : Int) (h0 : 0 ≤ from_) (h1 : from_ ≤ i) (h2 : i ≤ (s.size : Int)) (hd : dgB s i = false) (h5 : oneB s i 46 46 = false) (r : Bool × ByteArray × Int × Int × Bool) (hr : litA s neg from_ i = r) (Q : Exit → Act → World → Prop)
    (hq : ∀ a W, Fin w r a W → Q .ret a W) (hg : ∀ a W, At3 s w r 0 a W → Q (.goto 3) a W) (hg4 : ∀ m a W, m ≤ s.size → At4 s w r m a W → Q (.goto 4) a W) (hg2 : ∀ m a W, m < s.size + s.size + 4 → At2 s w r m a W → Q (.goto 2) a W) (hg1 : ∀ a W, At1 s w r (s.size + 1) a W → Q (.goto 1) a W) (a : Act) (hf : FrAt s w i from_ (-1) 0 0 0 false a) (c : Code) (hc : c = tailOf rest0) :
    c.wp Tryd.prog Q a (w.alloc (.cells #[.bool neg, .string ⟨#[]⟩, .int .i64 0] 23)) := by
  obtain ⟨u, rfl⟩ := hf
  subst hc
  have HQ := Aside0.mk hq
  have HG := Aside0.mk hg
  have HG4 := Aside0.mk hg4
  have HG2 := Aside0.mk hg2
  have HG1 := Aside0.mk hg1
  have HD := Aside0.mk hd
  have HR := Aside0.mk hr
  have HF := Aside0.mk h5
  clear hq hg hg4 hd hr hg2 hg1 h5
  dsimp only [rest0, tailOf, litScope, litBody, Tryd.f31, Option.getD, findLabel, Nat.reduceBEq, if_true, if_false, Bool.false_eq_true, reduceIte]
  go_wp2_with (first | (go_at_call 26; (with_reducible refine (dig_any s i false HD.out (by omega) _).mono ?_); rintro e w' ⟨rfl, rfl⟩) | (go_at_call 47; (with_reducible refine (one_any s i 46 46 false HF.out (by omega) _).mono ?_); rintro e w' ⟨rfl, rfl⟩))
  go_step3
  exact HG1.out _ _ ⟨neg, i, from_, -1, 0, (fr_mk rfl), rfl, (by rw [← HR.out, litA_no HD.out (by simp [HF.out])]), h0, h1, h2, .inl (by omega), by omega, by omega, rfl⟩
set_option maxHeartbeats 4000000 in
set_option maxRecDepth 100000 in
theorem ahead_f (s : ByteArray) (hs : (s.size : Int) ≤ 4611686018427387904) (w : World) (neg : Bool) (i from_ : Int) (h0 : 0 ≤ from_) (h1 : from_ ≤ i) (h2 : i ≤ (s.size : Int)) (hd : dgB s i = false) (h5 : oneB s i 46 46 = true) (h6 : (i == from_) = true) (h7 : dgB s (i + 1) = false) (r : Bool × ByteArray × Int × Int × Bool) (hr : litA s neg from_ i = r) (Q : Exit → Act → World → Prop)
    (hq : ∀ a W, Fin w r a W → Q .ret a W) (hg : ∀ a W, At3 s w r 0 a W → Q (.goto 3) a W) (hg4 : ∀ m a W, m ≤ s.size → At4 s w r m a W → Q (.goto 4) a W) (hg2 : ∀ m a W, m < s.size + s.size + 4 → At2 s w r m a W → Q (.goto 2) a W) (hg1 : ∀ a W, At1 s w r (s.size + 1) a W → Q (.goto 1) a W) (a : Act) (hf : FrAt s w i from_ (-1) 0 0 0 false a) (c : Code) (hc : c = tailOf rest0) :
    c.wp Tryd.prog Q a (w.alloc (.cells #[.bool neg, .string ⟨#[]⟩, .int .i64 0] 23)) := by
  obtain ⟨u, rfl⟩ := hf
  subst hc
  have HQ := Aside0.mk hq
  have HG := Aside0.mk hg
  have HG4 := Aside0.mk hg4
  have HG2 := Aside0.mk hg2
  have HG1 := Aside0.mk hg1
  have HD := Aside0.mk hd
  have HR := Aside0.mk hr
  have HF := Aside0.mk h5
  have hlt := oneB_lt h5
  have HE := Aside0.mk h7
  clear hq hg hg4 hd hr hg2 hg1 h5 h7
  dsimp only [rest0, tailOf, litScope, litBody, Tryd.f31, Option.getD, findLabel, Nat.reduceBEq, if_true, if_false, Bool.false_eq_true, reduceIte]
  go_wp2_with (first | (go_at_call 26; (with_reducible refine (dig_any s i false HD.out (by omega) _).mono ?_); rintro e w' ⟨rfl, rfl⟩) | (go_at_call 47; (with_reducible refine (one_any s i 46 46 true HF.out (by omega) _).mono ?_); rintro e w' ⟨rfl, rfl⟩) | (go_at_call 26; (with_reducible refine (dig_any s (i + 1) false HE.out (by omega) _).mono ?_); rintro e w' ⟨rfl, rfl⟩))
  go_step3
  exact HG1.out _ _ ⟨neg, i, from_, -1, 0, (fr_mk rfl), rfl, (by rw [← HR.out, litA_no HD.out (by simp [HF.out, h6, HE.out])]), h0, h1, h2, .inl (by omega), by omega, by omega, rfl⟩
set_option maxHeartbeats 4000000 in
set_option maxRecDepth 100000 in
theorem ahead_a (s : ByteArray) (hs : (s.size : Int) ≤ 4611686018427387904) (w : World) (neg : Bool) (i from_ : Int) (h0 : 0 ≤ from_) (h1 : from_ ≤ i) (h2 : i ≤ (s.size : Int)) (hd : dgB s i = false) (h5 : oneB s i 46 46 = true) (h6 : (i == from_) = true) (h7 : dgB s (i + 1) = true) (r : Bool × ByteArray × Int × Int × Bool) (hr : litA s neg from_ i = r) (Q : Exit → Act → World → Prop)
    (hq : ∀ a W, Fin w r a W → Q .ret a W) (hg : ∀ a W, At3 s w r 0 a W → Q (.goto 3) a W) (hg4 : ∀ m a W, m ≤ s.size → At4 s w r m a W → Q (.goto 4) a W) (hg2 : ∀ m a W, m < s.size + s.size + 4 → At2 s w r m a W → Q (.goto 2) a W) (hg1 : ∀ a W, At1 s w r (s.size + 1) a W → Q (.goto 1) a W) (a : Act) (hf : FrAt s w i from_ (-1) 0 0 0 false a) (c : Code) (hc : c = tailOf rest0) :
    c.wp Tryd.prog Q a (w.alloc (.cells #[.bool neg, .string ⟨#[]⟩, .int .i64 0] 23)) := by
  obtain ⟨u, rfl⟩ := hf
  subst hc
  have HQ := Aside0.mk hq
  have HG := Aside0.mk hg
  have HG4 := Aside0.mk hg4
  have HG2 := Aside0.mk hg2
  have HG1 := Aside0.mk hg1
  have HD := Aside0.mk hd
  have HR := Aside0.mk hr
  have HF := Aside0.mk h5
  have hlt := oneB_lt h5
  have HE := Aside0.mk h7
  clear hq hg hg4 hd hr hg2 hg1 h5 h7
  dsimp only [rest0, tailOf, litScope, litBody, Tryd.f31, Option.getD, findLabel, Nat.reduceBEq, if_true, if_false, Bool.false_eq_true, reduceIte]
  go_wp2_with (first | (go_at_call 26; (with_reducible refine (dig_any s i false HD.out (by omega) _).mono ?_); rintro e w' ⟨rfl, rfl⟩) | (go_at_call 47; (with_reducible refine (one_any s i 46 46 true HF.out (by omega) _).mono ?_); rintro e w' ⟨rfl, rfl⟩) | (go_at_call 26; (with_reducible refine (dig_any s (i + 1) true HE.out (by omega) _).mono ?_); rintro e w' ⟨rfl, rfl⟩))
  refine wp_label ?_
  rename_i K hK
  have hrb : litB s neg from_ i 0 i = r := by rw [← HR.out, litA_pt HD.out (by simp [HF.out, h6, HE.out])]
  cases h8 : dgB s (i + 1)
  · exact hK _ _ (behind_no s hs w neg i from_ i 0 h0 h1 (Int.le_refl _) hlt (Int.le_refl _) (by omega) h8 r hrb _ HQ.out HG.out HG4.out _ (fr_mk rfl) _ rfl)
  · exact hK _ _ (behind_yes s hs w neg i from_ i 0 h0 h1 (Int.le_refl _) hlt (Int.le_refl _) (by omega) h8 r hrb _ (fun m a W hm h => HG2.out m a W (by omega) h) _ (fr_mk rfl) _ rfl)
set_option maxHeartbeats 4000000 in
set_option maxRecDepth 100000 in
theorem ahead_b (s : ByteArray) (hs : (s.size : Int) ≤ 4611686018427387904) (w : World) (neg : Bool) (i from_ : Int) (h0 : 0 ≤ from_) (h1 : from_ ≤ i) (h2 : i ≤ (s.size : Int)) (hd : dgB s i = false) (h5 : oneB s i 46 46 = true) (h6 : (i == from_) = false) (r : Bool × ByteArray × Int × Int × Bool) (hr : litA s neg from_ i = r) (Q : Exit → Act → World → Prop)
    (hq : ∀ a W, Fin w r a W → Q .ret a W) (hg : ∀ a W, At3 s w r 0 a W → Q (.goto 3) a W) (hg4 : ∀ m a W, m ≤ s.size → At4 s w r m a W → Q (.goto 4) a W) (hg2 : ∀ m a W, m < s.size + s.size + 4 → At2 s w r m a W → Q (.goto 2) a W) (hg1 : ∀ a W, At1 s w r (s.size + 1) a W → Q (.goto 1) a W) (a : Act) (hf : FrAt s w i from_ (-1) 0 0 0 false a) (c : Code) (hc : c = tailOf rest0) :
    c.wp Tryd.prog Q a (w.alloc (.cells #[.bool neg, .string ⟨#[]⟩, .int .i64 0] 23)) := by
  obtain ⟨u, rfl⟩ := hf
  subst hc
  have HQ := Aside0.mk hq
  have HG := Aside0.mk hg
  have HG4 := Aside0.mk hg4
  have HG2 := Aside0.mk hg2
  have HG1 := Aside0.mk hg1
  have HD := Aside0.mk hd
  have HR := Aside0.mk hr
  have HF := Aside0.mk h5
  have hlt := oneB_lt h5
  clear hq hg hg4 hd hr hg2 hg1 h5
  dsimp only [rest0, tailOf, litScope, litBody, Tryd.f31, Option.getD, findLabel, Nat.reduceBEq, if_true, if_false, Bool.false_eq_true, reduceIte]
  go_wp2_with (first | (go_at_call 26; (with_reducible refine (dig_any s i false HD.out (by omega) _).mono ?_); rintro e w' ⟨rfl, rfl⟩) | (go_at_call 47; (with_reducible refine (one_any s i 46 46 true HF.out (by omega) _).mono ?_); rintro e w' ⟨rfl, rfl⟩))
  refine wp_label ?_
  rename_i K hK
  have hrb : litB s neg from_ i 0 i = r := by rw [← HR.out, litA_pt HD.out (by simp [HF.out, h6])]
  cases h8 : dgB s (i + 1)
  · exact hK _ _ (behind_no s hs w neg i from_ i 0 h0 h1 (Int.le_refl _) hlt (Int.le_refl _) (by omega) h8 r hrb _ HQ.out HG.out HG4.out _ (fr_mk rfl) _ rfl)
  · exact hK _ _ (behind_yes s hs w neg i from_ i 0 h0 h1 (Int.le_refl _) hlt (Int.le_refl _) (by omega) h8 r hrb _ (fun m a W hm h => HG2.out m a W (by omega) h) _ (fr_mk rfl) _ rfl)
end Go.Proofs.YtcgjfckhnpimbaaDoor.X
end
section
set_option linter.unusedVariables false
set_option linter.unusedSimpArgs false
namespace Go.Proofs.YtcgjfckhnpimbaaDoor.X
open Go.RowKit Go.Proofs.YtcgjfckhnpimbaaDoorW.PrintWords
def litF (s : ByteArray) (i : Int) : Bool × ByteArray × Int × Int × Bool :=
  if oneB s i 43 45 = true then litA s (bt s i == 45) (i + 1) (i + 1) else litA s false i i
def xLiteral.f (s : ByteArray) (i : Int) : Option (Bool × ByteArray × Int × Int × Bool) :=
  if 0 ≤ i ∧ i ≤ (s.size : Int) ∧ (s.size : Int) ≤ 4611686018427387904 then some (litF s i) else none
/-- What holds at a jump. -/
def JJ (s : ByteArray) (w : World) (r : Bool × ByteArray × Int × Int × Bool) : Nat → Nat → Act → World → Prop
  | 0, m, a, W => At0 s w r m a W
  | 1, m, a, W => At1 s w r m a W
  | 2, m, a, W => At2 s w r m a W
  | 3, m, a, W => At3 s w r m a W
  | 4, m, a, W => At4 s w r m a W ∧ m ≤ s.size
  | _, _, _, _ => False
theorem fl0 : findLabel litScope 0 = some (.seq .skip (tailOf rest0)) := by kernel_rfl
theorem fl1 : findLabel litScope 1 = some (.seq .skip (tailOf rest1)) := by kernel_rfl
theorem fl2 : findLabel litScope 2 = some (.seq .skip (tailOf rest2)) := by kernel_rfl
theorem fl3 : findLabel litScope 3 = some (.seq .skip (tailOf rest3)) := by kernel_rfl
theorem fl4 : findLabel litScope 4 = some (.seq .skip (tailOf rest4)) := by kernel_rfl
theorem wp_skip_seq {P : Program} {y : Code} {Q : Exit → Act → World → Prop} {a : Act} {w : World} (h : y.wp P Q a w) : (Code.seq .skip y).wp P Q a w := wp_seq (wp_skip h)
theorem ahead_ (s : ByteArray) (hs : (s.size : Int) ≤ 4611686018427387904) (w : World) (neg : Bool) (i from_ : Int) (h0 : 0 ≤ from_) (h1 : from_ ≤ i) (h2 : i ≤ (s.size : Int)) (r : Bool × ByteArray × Int × Int × Bool) (hr : litA s neg from_ i = r) (Q : Exit → Act → World → Prop)
    (hq : ∀ a W, Fin w r a W → Q .ret a W) (hg : ∀ a W, At3 s w r 0 a W → Q (.goto 3) a W) (hg4 : ∀ m a W, m ≤ s.size → At4 s w r m a W → Q (.goto 4) a W) (hg2 : ∀ m a W, m < s.size + s.size + 4 → At2 s w r m a W → Q (.goto 2) a W) (hg1 : ∀ a W, At1 s w r (s.size + 1) a W → Q (.goto 1) a W)
    (hg0 : ∀ m a W, m < s.size + s.size + 4 + ((s.size : Int) - i).toNat → At0 s w r m a W → Q (.goto 0) a W) (a : Act) (hf : FrAt s w i from_ (-1) 0 0 0 false a) (c : Code) (hc : c = tailOf rest0) :
    c.wp Tryd.prog Q a (w.alloc (.cells #[.bool neg, .string ⟨#[]⟩, .int .i64 0] 23)) := by
  cases hd : dgB s i
  · cases h5 : oneB s i 46 46
    · exact ahead_o s hs w neg i from_ h0 h1 h2 hd h5 r hr Q hq hg hg4 hg2 hg1 a hf c hc
    · cases h6 : (i == from_)
      · exact ahead_b s hs w neg i from_ h0 h1 h2 hd h5 h6 r hr Q hq hg hg4 hg2 hg1 a hf c hc
      · cases h7 : dgB s (i + 1)
        · exact ahead_f s hs w neg i from_ h0 h1 h2 hd h5 h6 h7 r hr Q hq hg hg4 hg2 hg1 a hf c hc
        · exact ahead_a s hs w neg i from_ h0 h1 h2 hd h5 h6 h7 r hr Q hq hg hg4 hg2 hg1 a hf c hc
  · exact ahead_yes s hs w neg i from_ h0 h1 h2 hd r hr Q hg0 a hf c hc
theorem pass_ (s : ByteArray) (hs : (s.size : Int) ≤ 4611686018427387904) (w : World) (r : Bool × ByteArray × Int × Int × Bool) (Q : Exit → Act → World → Prop) (hq : ∀ a W, Fin w r a W → Q .ret a W) :
    ∀ l m a W, JJ s w r l m a W → ∃ rest, findLabel litScope l = some rest ∧ rest.wp Tryd.prog (jumpTo (fun l' a' w' => ∃ m', m' < m ∧ JJ s w r l' m' a' w') Q) a W := by
  intro l m a W h
  match l, h with
  | 0, h =>
    obtain ⟨neg, i, from_, hf, rfl, hr, h0, h1, h2, rfl⟩ := h
    refine ⟨_, fl0, wp_skip_seq ?_⟩
    exact ahead_ s hs w neg i from_ h0 h1 h2 r hr.symm _ (by exact hq) (by exact fun a W h => ⟨0, by omega, h⟩) (by exact fun m a W hm h => ⟨m, by omega, h, hm⟩) (by exact fun m a W hm h => ⟨m, by omega, h⟩) (by exact fun a W h => ⟨_, by omega, h⟩) (by exact fun m a W hm h => ⟨m, hm, h⟩) a hf _ rfl
  | 1, h =>
    obtain ⟨neg, i, from_, point, places, hf, rfl, hr, h0, h1, h2, hpt, hp, hp', rfl⟩ := h
    refine ⟨_, fl1, wp_skip_seq ?_⟩
    exact mant_ s hs w neg i from_ point places h0 h1 h2 hpt hp (by omega) r hr.symm _ (by exact hq) (by exact fun a W h => ⟨0, by omega, h⟩) (by exact fun m a W hm h => ⟨m, by omega, h, hm⟩) a hf _ rfl
  | 2, h =>
    obtain ⟨neg, i, from_, point, places, hf, rfl, hr, h0, h1, h1', h2, hp, hp', rfl⟩ := h
    refine ⟨_, fl2, wp_skip_seq ?_⟩
    cases hd : dgB s (i + 1)
    · exact behind_no s hs w neg i from_ point places h0 h1 h1' h2 hp hp' hd r hr.symm _ (by exact hq) (by exact fun a W h => ⟨0, by omega, h⟩) (by exact fun m a W hm h => ⟨m, by omega, h, hm⟩) a hf _ rfl
    · exact behind_yes s hs w neg i from_ point places h0 h1 h1' h2 hp hp' hd r hr.symm _ (by exact fun m a W hm h => ⟨m, hm, h⟩) a hf _ rfl
  | 3, h =>
    obtain ⟨neg, dg, i, from_, point, places, exp, at_, less, n, hf, rfl, hr, h0, h1, hp, hp', rfl⟩ := h
    refine ⟨_, fl3, wp_skip_seq ?_⟩
    exact done_ s w neg dg i from_ point places exp at_ less n h0 h1 hp hp' _ (by rw [← hr]; exact hq) a hf _ rfl
  | 4, ⟨h, hm4⟩ =>
    obtain ⟨neg, dg, i, from_, point, places, exp, at_, less, n, hf, rfl, hr, h0, h1, hp, hp', ha, hd, rfl⟩ := h
    refine ⟨_, fl4, wp_skip_seq ?_⟩
    exact exp_ s hs w neg dg i from_ point places exp at_ less n h0 h1 hp hp' ha hd _ (by rw [← hr]; exact hq) (by rw [← hr]; exact fun m a W hm h => ⟨m, hm, h, by omega⟩) a hf _ rfl
  | k + 5, h => exact h.elim
theorem fin_post (w : World) (r : Bool × ByteArray × Int × Int × Bool) (a : Act) (W : World) (h : Fin w r a W) : bodyPost Tryd.prog Tryd.f31 (fun e w' => e = .returned (.tuple #[.agg #[.bool r.1, .string r.2.1, .int .i64 r.2.2.1], .int .i64 r.2.2.2.1, .bool r.2.2.2.2]) ∧ Below w.heap.size w w') .ret a W := by
  obtain ⟨f1, f2, f3, f4, f5, f6⟩ := h
  refine bodyPost_ret (v := .tuple #[.agg #[.bool r.1, .string r.2.1, .int .i64 r.2.2.1], .int .i64 r.2.2.2.1, .bool r.2.2.2.2]) ?_ f4 ⟨rfl, f6⟩
  rw [results_ctt rfl a.tmps W w.heap.size 23 _ (0, 0) _ f1 f5 Tryd.underlying23 rfl (by kernel_rfl), f2, f3]
set_option maxHeartbeats 4000000 in
set_option maxRecDepth 100000 in
theorem lit_z (s : ByteArray) (i : Int) (h0 : 0 ≤ i) (h2 : i ≤ (s.size : Int)) (hs : (s.size : Int) ≤ 4611686018427387904) (h5 : oneB s i 43 45 = false) (r : Bool × ByteArray × Int × Int × Bool) (hr : litA s false i i = r) (w : World) :
    Calls Tryd.prog 31 #[.string s, .int .i64 i] w fun e w' => e = .returned (.tuple #[.agg #[.bool r.1, .string r.2.1, .int .i64 r.2.2.1], .int .i64 r.2.2.2.1, .bool r.2.2.2.2]) ∧ Below w.heap.size w w' := by
  have HR := Aside0.mk hr
  have HF := Aside0.mk h5
  have HS := Aside0.mk hs
  
  clear hr h5
  go_enter Tryd.func31, Tryd.ntmps31
  go_wp2
  refine wp_scope_labels (JJ s w r) (pass_ s hs w r _ ?_) ?_
  · exact fin_post w r
  · go_wp2_with (go_at_call 47; (with_reducible refine (one_any s i 43 45 false HF.out (by omega) _).mono ?_); rintro e w' ⟨rfl, rfl⟩)
    refine wp_label ?_
    rename_i K hK
    refine hK _ _ (ahead_ s HS.out w false i i (by omega) (Int.le_refl _) (by omega) r HR.out _ ?_ (by exact fun a W h => ⟨0, h⟩) (by exact fun m a W hm h => ⟨m, h, hm⟩) (by exact fun m a W hm h => ⟨m, h⟩) (by exact fun a W h => ⟨_, h⟩) (by exact fun m a W hm h => ⟨m, h⟩) _ (fr_mk rfl) _ rfl)
    exact fin_post w r
set_option maxHeartbeats 4000000 in
set_option maxRecDepth 100000 in
theorem lit_p (s : ByteArray) (i : Int) (h0 : 0 ≤ i) (h2 : i ≤ (s.size : Int)) (hs : (s.size : Int) ≤ 4611686018427387904) (h5 : oneB s i 43 45 = true) (h6 : (bt s i == 45) = false) (r : Bool × ByteArray × Int × Int × Bool) (hr : litA s false (i + 1) (i + 1) = r) (w : World) :
    Calls Tryd.prog 31 #[.string s, .int .i64 i] w fun e w' => e = .returned (.tuple #[.agg #[.bool r.1, .string r.2.1, .int .i64 r.2.2.1], .int .i64 r.2.2.2.1, .bool r.2.2.2.2]) ∧ Below w.heap.size w w' := by
  have HR := Aside0.mk hr
  have HF := Aside0.mk h5
  have HS := Aside0.mk hs
  have hlt := oneB_lt h5
  have p5 := eq_true h0
  have q5 := eq_true hlt
  have hx := bt_at s i
  clear hr h5
  go_enter Tryd.func31, Tryd.ntmps31
  go_wp2
  refine wp_scope_labels (JJ s w r) (pass_ s hs w r _ ?_) ?_
  · exact fin_post w r
  · go_wp2_with (go_at_call 47; (with_reducible refine (one_any s i 43 45 true HF.out (by omega) _).mono ?_); rintro e w' ⟨rfl, rfl⟩)
    refine wp_label ?_
    rename_i K hK
    refine hK _ _ (ahead_ s HS.out w false (i + 1) (i + 1) (by omega) (Int.le_refl _) (by omega) r HR.out _ ?_ (by exact fun a W h => ⟨0, h⟩) (by exact fun m a W hm h => ⟨m, h, hm⟩) (by exact fun m a W hm h => ⟨m, h⟩) (by exact fun a W h => ⟨_, h⟩) (by exact fun m a W hm h => ⟨m, h⟩) _ (fr_mk rfl) _ rfl)
    exact fin_post w r
set_option maxHeartbeats 4000000 in
set_option maxRecDepth 100000 in
theorem lit_m (s : ByteArray) (i : Int) (h0 : 0 ≤ i) (h2 : i ≤ (s.size : Int)) (hs : (s.size : Int) ≤ 4611686018427387904) (h5 : oneB s i 43 45 = true) (h6 : (bt s i == 45) = true) (r : Bool × ByteArray × Int × Int × Bool) (hr : litA s true (i + 1) (i + 1) = r) (w : World) :
    Calls Tryd.prog 31 #[.string s, .int .i64 i] w fun e w' => e = .returned (.tuple #[.agg #[.bool r.1, .string r.2.1, .int .i64 r.2.2.1], .int .i64 r.2.2.2.1, .bool r.2.2.2.2]) ∧ Below w.heap.size w w' := by
  have HR := Aside0.mk hr
  have HF := Aside0.mk h5
  have HS := Aside0.mk hs
  have hlt := oneB_lt h5
  have p5 := eq_true h0
  have q5 := eq_true hlt
  have hx := bt_at s i
  clear hr h5
  go_enter Tryd.func31, Tryd.ntmps31
  go_wp2
  refine wp_scope_labels (JJ s w r) (pass_ s hs w r _ ?_) ?_
  · exact fin_post w r
  · go_wp2_with (go_at_call 47; (with_reducible refine (one_any s i 43 45 true HF.out (by omega) _).mono ?_); rintro e w' ⟨rfl, rfl⟩)
    refine wp_label ?_
    rename_i K hK
    refine hK _ _ (ahead_ s HS.out w true (i + 1) (i + 1) (by omega) (Int.le_refl _) (by omega) r HR.out _ ?_ (by exact fun a W h => ⟨0, h⟩) (by exact fun m a W hm h => ⟨m, h, hm⟩) (by exact fun m a W hm h => ⟨m, h⟩) (by exact fun a W h => ⟨_, h⟩) (by exact fun m a W hm h => ⟨m, h⟩) _ (fr_mk rfl) _ rfl)
    exact fin_post w r
theorem xLiteral.calls (a0 : ByteArray) (a1 : Int) (r1 : Bool) (r2 : ByteArray) (r3 r4 : Int) (r5 : Bool) (w : World) (h : xLiteral.f a0 a1 = some (r1, r2, r3, r4, r5)) :
    Calls Tryd.prog 31 #[.string a0, .int .i64 a1] w fun e w' => e = .returned (.tuple #[.agg #[.bool r1, .string r2, .int .i64 r3], .int .i64 r4, .bool r5]) ∧ Below w.heap.size w w' := by
  unfold xLiteral.f at h
  split at h
  · rename_i hc
    obtain ⟨h0, h2, hs⟩ := hc
    have hr := Option.some.inj h
    unfold litF at hr
    cases h5 : oneB a0 a1 43 45
    · rw [h5, if_neg (by decide)] at hr
      exact lit_z a0 a1 h0 h2 hs h5 (r1, r2, r3, r4, r5) hr w
    · rw [h5, if_pos rfl] at hr
      cases h6 : (bt a0 a1 == 45)
      · rw [h6] at hr
        exact lit_p a0 a1 h0 h2 hs h5 h6 (r1, r2, r3, r4, r5) hr w
      · rw [h6] at hr
        exact lit_m a0 a1 h0 h2 hs h5 h6 (r1, r2, r3, r4, r5) hr w
  · cases h
end Go.Proofs.YtcgjfckhnpimbaaDoor.X
end
