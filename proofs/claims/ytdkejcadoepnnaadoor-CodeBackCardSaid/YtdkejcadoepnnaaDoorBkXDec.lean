/-
  Several texts of this session's own in one: ECcx11 XDec.
-/
import Derived.Test.YtdkejcadoepnnaaDoorBkA0
import Derived.Test.YtdkejcadoepnnaaDoorBkECcx0
import Derived.Test.YtdkejcadoepnnaaDoorBkECcx10
import Derived.Test.YtdkejcadoepnnaaDoorBkECrx5
import Derived.Defers
import Derived.Recover
section
namespace Go.Proofs.YtdkejcadoepnnaaDoor.ECc
open Go.RowKit Go.Proofs.YtdkejcadoepnnaaDoorW.PrintWords Go.Proofs.YtdkejcadoepnnaaDoorW.PrintLast Go.Proofs.YtdkejcadoepnnaaDoorW.PrintMore
attribute [local go_sem] max2_int min2_int max_two min_two max_three min_three max_four min_four
set_option linter.unusedVariables false
def c_Check.l0 : Nat → Int → Int → Int → List Int → Int → Int → Option (Int × Int × Int)
 | 0, _, _, _, _, _, _ => none
 | k + 1, x6, x7, x8, x17, x18, x19 => if x19 < x18 then (if 0 ≤ x19 then (if x19 < (x17.length : Int) then (c_Check.l0 k x6 x7 (mx x8 (rd x17 x19)) x17 x18 (wrap64 (x19 + 1))) else (none)) else (none)) else (some (x8, x6, x7))
def c_Check.f (k : Nat) (l0_0 : List (S41)) (l0_1 : List Int) (l0_2 : List ByteArray) : Option (Int × Int × Int) := (c_Heights.f k l0_0 l0_1 l0_2).bind fun bt170 => (c_Check.l0 k bt170.2.1 bt170.2.2 0 bt170.1 (bt170.1.length : Int) 0)
set_option maxHeartbeats 8000000 in
set_option maxRecDepth 100000 in
theorem c_Check.calls (k : Nat) (A0_0 : Option Addr) (c0_0 : Nat) (l0_0 : List (S41)) (A0_1 : Option Addr) (c0_1 : Nat) (l0_1 : List Int) (A0_2 : Option Addr) (c0_2 : Nat) (l0_2 : List ByteArray) (r1 : Int) (r2 : Int) (r3 : Int) (w : World) (hr0_0 : Kd.C k41 w A0_0 l0_0.length l0_0) (hc0_0 : l0_0.length ≤ c0_0) (hr0_1 : Kd.C (Kd.int .u64) w A0_1 l0_1.length l0_1) (hc0_1 : l0_1.length ≤ c0_1) (hr0_2 : Kd.C Kd.string w A0_2 l0_2.length l0_2) (hc0_2 : l0_2.length ≤ c0_2) (h : c_Check.f k l0_0 l0_1 l0_2 = some (r1, r2, r3)) :
  Calls Tryd.prog 13 #[.agg #[.slice A0_0 l0_0.length c0_0, .slice A0_1 l0_1.length c0_1, .slice A0_2 l0_2.length c0_2]] w fun e w' => e = .returned (.tuple #[.int .i64 r1, .int .i64 r2, .int .i64 r3]) ∧ Below w.heap.size w w' := by
 have hu26 := Tryd.underlying26
 have HR0_0 := am hr0_0
 have HC0_0 := am hc0_0
 clear hr0_0 hc0_0
 have HR0_1 := am hr0_1
 have HC0_1 := am hc0_1
 clear hr0_1 hc0_1
 have HR0_2 := am hr0_2
 have HC0_2 := am hc0_2
 clear hr0_2 hc0_2
 have HB := am (Below.refl w.heap.size w)
 have H : ((c_Heights.f k l0_0 l0_1 l0_2).bind fun bt170 => (c_Check.l0 k bt170.2.1 bt170.2.2 0 bt170.1 (bt170.1.length : Int) 0)) = some (r1, r2, r3) := h
 clear h
 replace H := Option.bind_eq_some_iff.mp H
 obtain ⟨⟨t170, t173, t174⟩, A20, H⟩ := H
 replace H : (c_Check.l0 k t173 t174 0 t170 (t170.length : Int) 0) = some (r1, r2, r3) := H
 have A2 := am A20
 clear A20
 have H' := am H
 clear H
 go_enter Tryd.func13, Tryd.ntmps13
 go_wp2_with (first | ((with_reducible refine gate_dst (N := 1) rfl ?_); refine box_event ?hg (N := 1) ?hd (cs := #[.slice A0_0 l0_0.length c0_0, .slice A0_1 l0_1.length c0_1, .slice A0_2 l0_2.length c0_2]) (t := 26) ?hr ?_; (case hd => rfl); (case hg => rfl); (case hr => first | (go_simp; done) | (go_simp; rfl)); intro gb169 hg w3 hbox hb; have n0_ := am (below_step bl hb); have n1_ := am (hbox); have n2_ := am ((by rw [hg]; exact (below_size bl) : w.heap.size ≤ gb169)); have n3_ := n2_; clear HB; have HB := n0_; have BK169 := n1_; have GW169 := n2_; have GE169 := n3_; clear n0_ n1_ n2_ n3_; clear hb hbox hg; obtain ⟨⟨hcz4_0, hcz4_1, hcz4_2⟩, hfz4_0, hfz4_1, hfz4_2⟩ := blkAll3 BK169) | ((with_reducible refine gate_callee (f := 12) rfl ?_); refine goesL_ (some 13) rfl rfl Tryd.func12 (by kernel_rfl) rfl #[.agg #[.slice A0_0 l0_0.length c0_0, .slice A0_1 l0_1.length c0_1, .slice A0_2 l0_2.length c0_2]] rfl ls ?_; (with_reducible refine (c_Heights.calls k _ _ l0_0 _ _ l0_1 _ _ l0_2 t170 t173 t174 _ ?side1 ?side2 ?side3 ?side4 ?side5 ?side6 A2.out).mono ?_); (case side1 => repeat (first | exact (Kd.C_below HR0_0.out HB.out) | (with_reducible refine Kd.C_alloc ?_ _) | (with_reducible refine Kd.C_drewN ?_ _) | (with_reducible refine Kd.C_drew ?_))); (case side2 => exact HC0_0.out); (case side3 => repeat (first | exact (Kd.C_below HR0_1.out HB.out) | (with_reducible refine Kd.C_alloc ?_ _) | (with_reducible refine Kd.C_drewN ?_ _) | (with_reducible refine Kd.C_drew ?_))); (case side4 => exact HC0_1.out); (case side5 => repeat (first | exact (Kd.C_below HR0_2.out HB.out) | (with_reducible refine Kd.C_alloc ?_ _) | (with_reducible refine Kd.C_drewN ?_ _) | (with_reducible refine Kd.C_drew ?_))); (case side6 => exact HC0_2.out); rintro e w5 ⟨v171, rfl, ho0, hb⟩; refine ⟨_, rfl, ?_⟩; have n0_ := am (Kd.R_lower ho0 (below_size bs)); have n1_ := am (blk_below (bu BK169.out) hb); have n2_ := am (below_step bs hb); clear BK169; clear HB; have HO172 := n0_; have BK169 := n1_; have HB := n2_; clear n0_ n1_ n2_; (try clear hb); (try clear hb2); (try clear hk); (try clear hi); (try clear ho0); obtain ⟨Ao6, co6, eo6⟩ := Kd.R_slice HO172.out; subst eo6))
 go_loopg [8, 19] k (fun kq v8 v19 w' => ∃ (x8_1 : Int) (x19_1 : Int), v8 = .int .i64 x8_1 ∧ v19 = .int .i64 x19_1 ∧ Aside0 (c_Check.l0 kq t173 t174 x8_1 t170 (t170.length : Int) x19_1 = some (r1, r2, r3)) ∧ Aside0 (kq ≤ k) ∧ Aside0 (Kd.R (Kd.int .i64) 3 w' w.heap.size (fun _ => True) (.slice Ao6 t170.length co6) t170) ∧ Aside0 (w'.heap[gb169]? = some (.cells #[(.slice A0_0 l0_0.length c0_0), (.slice A0_1 l0_1.length c0_1), (.slice A0_2 l0_2.length c0_2)] 26 (0, 0))) ∧ Aside0 (Below w.heap.size w w'))
 case atStart => exact ⟨(0), (0), tv, tv, H', ⟨Nat.le_refl _⟩, ⟨by (with_reducible repeat (first | apply Kd.R_alloc | apply Kd.R_drewN | apply Kd.R_drew)); exact HO172.out⟩, ⟨by refine bu ?_; exact BK169.out⟩, ⟨bs⟩⟩
 case round =>
  clear H'
  try clear c1
  try clear p2
  try clear hcz4_0 hcz4_1 hcz4_2
  try clear hfz4_0 hfz4_1 hfz4_2
  obtain ⟨x8_1, x19_1, rfl, rfl, HA, HK1, HO_17, BK169, HB⟩ := hrel
  cases gk with
  | zero => exact absurd HA.out (by simp [c_Check.l0])
  | succ k1 =>
   have H := HA.out
   clear HA
   simp only [c_Check.l0] at H
   by_cases c7 : x19_1 < (t170.length : Int)
   rotate_left
   ·rw [if_neg c7] at H
    have c7b0 := decide_eq_false c7
    clear c7
    simp only [Option.some.injEq, Prod.mk.injEq] at H
    obtain ⟨rfl, rfl, rfl⟩ := H
    go_wp2
    go_ret3
    exact ⟨er, bs⟩
   rw [if_pos c7] at H
   have c7b0 := decide_eq_true c7
   clear c7
   by_cases c8 : 0 ≤ x19_1
   rotate_left
   ·rw [if_neg c8] at H
    exact absurd H (by simp)
   rw [if_pos c8] at H
   have c8b0 := decide_eq_true c8
   clear c8
   by_cases c9 : x19_1 < (t170.length : Int)
   rotate_left
   ·rw [if_neg c9] at H
    exact absurd H (by simp)
   rw [if_pos c9] at H
   have c9b0 := decide_eq_true c9
   clear c9
   obtain ⟨ji10, hji10⟩ : ∃ j_ : Int, (mx x8_1 (rd t170 x19_1)) = j_ := ⟨_, rfl⟩
   replace H : (c_Check.l0 k1 t173 t174 ji10 t170 (t170.length : Int) (wrap64 (x19_1 + 1))) = some (r1, r2, r3) := by first | (rw [hji10] at H; exact H) | (simp only [hji10] at H ⊢; exact H)
   have hji10_ : (if x8_1 < (rd t170 x19_1) then (rd t170 x19_1) else x8_1) = ji10 := hji10
   have H' := am H
   clear H
   have p175 : 0 ≤ (x19_1 : Int) := of_decide_eq_true od
   have q175 : x19_1 < (t170.length : Int) := of_decide_eq_true od
   obtain ⟨ad175, e175, hx175_0⟩ := Kd.at_int (Kd.R_reads' HO_17.out).2.2 x19_1 p175 q175
   cases e175
   replace p175 := eq_true p175
   replace q175 := eq_true q175
   go_wp2
   go_roundg k1
   case measure => have := HK1.out; omega
   case rel => exact ⟨(ji10), (wrap64 (x19_1 + 1)), (by first | rfl | (simp; done) | (simp only [← hji10] <;> (first | rfl | simp)) | (simp [*]; done)), tv, H', ⟨by have := HK1.out; omega⟩, ⟨by (with_reducible repeat (first | apply Kd.R_alloc | apply Kd.R_drewN | apply Kd.R_drew)); exact HO_17.out⟩, ⟨by refine bu ?_; exact BK169.out⟩, ⟨bs⟩⟩
end Go.Proofs.YtdkejcadoepnnaaDoor.ECc
end
section
set_option linter.unusedVariables false
set_option linter.unusedSimpArgs false
namespace Go.Proofs.YtdkejcadoepnnaaDoor.X
open Go.RowKit Go.Proofs.YtdkejcadoepnnaaDoorW.PrintWords Go.Proofs.YtdkejcadoepnnaaDoorW.PrintLast Go.Proofs.YtdkejcadoepnnaaDoorW.PrintMore Go.Proofs.YtdkejcadoepnnaaDoor.ECc
def decK (k : Nat) (l : List Int) : Option (List S41 × List Int × List ByteArray × Int × Int) :=
 (r_code.f k l 0 l).bind fun r => if r.2.2.2.1 = 1 then some ([], [], [], r.2.2.2.2.1, 261) else
  (c_Check.f k r.1 r.2.1 r.2.2.1).bind fun c => if c.2.2 = 0 then some (r.1, r.2.1, r.2.2.1, 0, 0) else some ([], [], [], c.2.1, c.2.2)
open Classical in
noncomputable def xDecode.f (l : List Int) : Option (List S41 × List Int × List ByteArray × Int × Int) :=
 if h : ∃ x, ∃ n, ∀ k, n ≤ k → decK k l = some x then some h.choose else none
theorem xDecode.f_of {l : List Int} {x : List S41 × List Int × List ByteArray × Int × Int} (h : ∃ n, ∀ k, n ≤ k → decK k l = some x) : xDecode.f l = some x := by
 have hx : ∃ x, ∃ n, ∀ k, n ≤ k → decK k l = some x := ⟨x, h⟩
 unfold xDecode.f
 rw [dif_pos hx]
 obtain ⟨n, hn⟩ := h
 obtain ⟨m, hm⟩ := hx.choose_spec
 rw [← hm (max n m) (by omega), hn (max n m) (by omega)]
theorem xDecode.k_of {l : List Int} {x : List S41 × List Int × List ByteArray × Int × Int} (h : xDecode.f l = some x) : ∃ k, decK k l = some x := by
 unfold xDecode.f at h
 by_cases hx : ∃ x, ∃ n, ∀ k, n ≤ k → decK k l = some x
 ·rw [dif_pos hx] at h
  obtain ⟨m, hm⟩ := hx.choose_spec
  exact ⟨m, (hm m (Nat.le_refl _)).trans h⟩
 ·rw [dif_neg hx] at h
  cases h
theorem assert_yes (v : Value) (w : World) : (Instr.typeAssert (.iface 91 v) 20 91 true).run Tryd.prog w = .ok (.tuple #[v, .bool true]) w := by kernel_rfl
theorem assert_no (w : World) : (Instr.typeAssert .nilIface 20 91 true).run Tryd.prog w = .ok (.tuple #[.int .i64 0, .bool false]) w := by kernel_rfl
/-- What the closure leaves behind a panic. -/
def caught (w : World) (a b c : Nat) (p : Int) : World :=
 ((((w.setCell ⟨a, 0, none⟩ (.slice none 0 0)).setCell ⟨a, 1, none⟩ (.slice none 0 0)).setCell ⟨a, 2, none⟩ (.slice none 0 0)).setCell ⟨b, 0, none⟩ (.int .i64 p)).setCell ⟨c, 0, none⟩ (.int .i64 261)
theorem catch_panicking (a b c : Nat) (p : Int) (older : List PanicEntry) (w : World) (v0 v1 v2 : Value) (x y : Int)
  (ha : w.heap[a]? = some (.cells #[v0, v1, v2] 26 (0, 0))) (hb : w.heap[b]? = some (.cells #[.int .i64 x] 3 (0, 0))) (hc : w.heap[c]? = some (.cells #[.int .i64 y] 29 (0, 0)))
  (hab : a ≠ b) (hac : a ≠ c) (hbc : b ≠ c) :
  CallsD Tryd.prog 41 #[.pointer (some ⟨a, 0, none⟩), .pointer (some ⟨b, 0, none⟩), .pointer (some ⟨c, 0, none⟩)] (.panicking ({ v := .iface 91 (.int .i64 p), recovered := false } :: older)) w fun e u' w' =>
   e = .returned (.tuple #[]) ∧ u' = .panicking ({ v := .iface 91 (.int .i64 p), recovered := true } :: older) ∧ w' = caught w a b c p := by
 have hu26 := Tryd.underlying26
 have a0 : w.cell? ⟨a, 0, none⟩ = some v0 := (blk_cell ha 0).trans rfl
 have a1 : w.cell? ⟨a, 1, none⟩ = some v1 := (blk_cell ha 1).trans rfl
 have a2 : w.cell? ⟨a, 2, none⟩ = some v2 := (blk_cell ha 2).trans rfl
 have b0 : w.cell? ⟨b, 0, none⟩ = some (.int .i64 x) := (blk_cell hb 0).trans rfl
 have c0 : w.cell? ⟨c, 0, none⟩ = some (.int .i64 y) := (blk_cell hc 0).trans rfl
 have fa0 := blk_frozen ha 0
 have fa1 := blk_frozen ha 1
 have fa2 := blk_frozen ha 2
 have fb0 := blk_frozen hb 0
 have fc0 := blk_frozen hc 0
 have hba := hab.symm
 have hca := hac.symm
 have hcb := hbc.symm
 have ty := assert_yes
 refine callsD_of_wpS Tryd.func41 rfl fun c₀ cs hu => ?_
 apply wpS_seq
 apply wpS_region
 simp [wpOpsS, go_sem, recoverD, hu, Tryd.ntmps41, Exit.thenS, ty, Array.replicate, Act.put]
 apply wpS_seq
 apply wpS_region
 simp [wpOpsS, go_sem, Exit.thenS, Act.put]
 refine wpS_cond (t := true) (by simp [Act.eval]) ?_
 simp only [if_true]
 apply wpS_region
 simp [wpOpsS, go_sem, hu26, a0, a1, a2, b0, c0, fa0, fa1, fa2, fb0, fc0, hab, hba, hac, hca, hbc, hcb, bodyPostS, results, Tryd.results41, Act.put]
 rfl
theorem catch_idle (a b c : Nat) (w : World) :
  CallsD Tryd.prog 41 #[.pointer (some ⟨a, 0, none⟩), .pointer (some ⟨b, 0, none⟩), .pointer (some ⟨c, 0, none⟩)] .returning w fun e u' w' => e = .returned (.tuple #[]) ∧ u' = .returning ∧ w' = w := by
 have ty := assert_no
 refine callsD_of_wpS Tryd.func41 rfl fun c₀ cs hu => ?_
 apply wpS_seq
 apply wpS_region
 simp [wpOpsS, go_sem, recoverD, hu, Tryd.ntmps41, Exit.thenS, ty, Array.replicate, Act.put]
 apply wpS_seq
 apply wpS_region
 simp [wpOpsS, go_sem, Exit.thenS, Act.put]
 refine wpS_cond (t := false) (by simp [Act.eval]) ?_
 simp only [Bool.false_eq_true, if_false]
 refine wpS_of_wp (wp_skip ?_)
 cases c₀
 simp_all [bodyPostS, results, Tryd.results41]
theorem caught_cells {w : World} {a b c : Nat} (p : Int) {v0 v1 v2 : Value} {x y : Int}
  (ha : w.heap[a]? = some (.cells #[v0, v1, v2] 26 (0, 0))) (hb : w.heap[b]? = some (.cells #[.int .i64 x] 3 (0, 0))) (hc : w.heap[c]? = some (.cells #[.int .i64 y] 29 (0, 0)))
  (hab : a ≠ b) (hac : a ≠ c) (hbc : b ≠ c) :
  (caught w a b c p).cell? ⟨a, 0, none⟩ = some (.slice none 0 0) ∧ (caught w a b c p).cell? ⟨a, 1, none⟩ = some (.slice none 0 0) ∧ (caught w a b c p).cell? ⟨a, 2, none⟩ = some (.slice none 0 0)
   ∧ (caught w a b c p).cell? ⟨b, 0, none⟩ = some (.int .i64 p) ∧ (caught w a b c p).cell? ⟨c, 0, none⟩ = some (.int .i64 261) := by
 have a0 : w.cell? ⟨a, 0, none⟩ = some v0 := (blk_cell ha 0).trans rfl
 have a1 : w.cell? ⟨a, 1, none⟩ = some v1 := (blk_cell ha 1).trans rfl
 have a2 : w.cell? ⟨a, 2, none⟩ = some v2 := (blk_cell ha 2).trans rfl
 have b0 : w.cell? ⟨b, 0, none⟩ = some (.int .i64 x) := (blk_cell hb 0).trans rfl
 have c0 : w.cell? ⟨c, 0, none⟩ = some (.int .i64 y) := (blk_cell hc 0).trans rfl
 have hba := hab.symm
 have hca := hac.symm
 have hcb := hbc.symm
 unfold caught
 refine ⟨?_, ?_, ?_, ?_, ?_⟩ <;> simp [go_sem, a0, a1, a2, b0, c0, hab, hba, hac, hca, hbc, hcb]
theorem caught_below {w0 w : World} {a b c : Nat} (p : Int) (ha : w0.heap.size ≤ a) (hb : w0.heap.size ≤ b) (hc : w0.heap.size ≤ c) (h : Below w0.heap.size w0 w) : Below w0.heap.size w0 (caught w a b c p) := by
 unfold caught
 repeat (first | exact h | refine below_set ?_ ha | refine below_set ?_ hb | refine below_set ?_ hc)
theorem leaves_tmps {fn : Func} {t1 t2 : Array Value} {R : Ending → World → Prop} (e : results fn t1 = results fn t2) : ∀ (ds : List Deferred) (u : FrameMode) (w : World), Leaves Tryd.prog fn t1 R ds u w → Leaves Tryd.prog fn t2 R ds u w
 | [], .returning, w, h => by
  unfold Leaves at h ⊢
  rw [← e]
  exact h
 | [], .panicking chain, w, h => by
  unfold Leaves at h ⊢
  exact h
 | [], .run, w, h => by
  unfold Leaves at h
  exact h.elim
 | d :: ds, u, w, h => by
  unfold Leaves at h ⊢
  obtain ⟨h1, fv, cap, f, args, h2, h3, h4⟩ := h
  refine ⟨h1, fv, cap, f, args, h2, h3, h4.mono ?_⟩
  intro e' u' w' hx
  cases e' with
  | returned v => exact leaves_tmps e ds _ _ hx
  | panicked c => exact leaves_tmps e ds _ _ hx
  | outgrown => exact hx
theorem res22 (t : Array Value) (i : Nat) (v : Value) (h2 : i ≠ 2) (h3 : i ≠ 3) (h4 : i ≠ 4) : results Tryd.f22 (t.setIfInBounds i v) = results Tryd.f22 t := by
 simp [results, Tryd.results22, Array.getElem?_setIfInBounds, h2, h3, h4]
theorem quiet22 {R : Ending → World → Prop} {i : Nat} {v : Value} {c : List PanicEntry} {a : Act} {w : World} (h2 : i ≠ 2) (h3 : i ≠ 3) (h4 : i ≠ 4) (h : bodyPostD Tryd.prog Tryd.f22 R (.panic c) (a.put (some i) v) w) : bodyPostD Tryd.prog Tryd.f22 R (.panic c) a w :=
 leaves_tmps (res22 a.tmps i v h2 h3 h4) _ _ _ h
theorem blk_two {w : World} {a b t t' : Nat} {x y : Array Value} (h : w.heap[a]? = some (.cells x t (0, 0))) (h' : w.heap[b]? = some (.cells y t' (0, 0))) (hn : t ≠ t') : a ≠ b := fun e => by
 subst e
 rw [h] at h'
 injection h' with h'
 injection h' with _ h2 _
 exact hn h2
set_option maxHeartbeats 8000000 in
set_option maxRecDepth 100000 in
theorem xDecode.calls (A : Option Addr) (c : Nat) (l : List Int) (r1 : List S41) (r2 : List Int) (r3 : List ByteArray) (r4 r5 : Int) (w : World) (hr0 : Kd.C (Kd.int .u8) w A l.length l) (hc0 : l.length ≤ c) (h : xDecode.f l = some (r1, r2, r3, r4, r5)) :
  Calls Tryd.prog 22 #[.slice A l.length c] w fun e w' => ∃ v0_ v1_ v2_ : Value, e = .returned (.tuple #[.agg #[v0_, v1_, v2_], .int .i64 r4, .int .i64 r5]) ∧ Kd.R k41 41 w' w.heap.size (fun _ => True) v0_ r1 ∧ Kd.R (Kd.int .u64) 66 w' w.heap.size (fun _ => True) v1_ r2 ∧ Kd.R Kd.string 9 w' w.heap.size (fun _ => True) v2_ r3 ∧ Below w.heap.size w w' := by
 have hu26 := Tryd.underlying26
 have hmf : ∀ (fn : Fn) (first cap : Array Value) (w : World), (Instr.makeFunc fn first cap).run Tryd.prog w = .ok (.func fn first cap) w := fun _ _ _ _ => rfl
 obtain ⟨k, hk⟩ := xDecode.k_of h
 clear h
 unfold decK at hk
 obtain ⟨⟨s1, s2, s3, m, p, q⟩, hrd, hk⟩ := Option.bind_eq_some_iff.mp hk
 simp only at hk
 have hfar : ∀ ad, A = some ad → 0 < l.length → ad.block < w.heap.size := by
  intro ad he hl
  obtain ⟨ad1, e1, hx⟩ := Kd.at_int hr0 0 (by omega) (by omega)
  subst he
  cases e1
  have := World.block_lt_of_cell? _ _ hx
  first | rwa [add_block] at this | exact this
 have HR := Aside0.mk hr0
 have HF := Aside0.mk hfar
 have HC := Aside0.mk hc0
 have HK := Aside0.mk hk
 have HRD := Aside0.mk hrd
 clear hr0 hfar hc0 hk hrd
 go_enter_defers Tryd.func22, Tryd.ntmps22
 go_wp2_with (first | ((with_reducible refine gate_dst (N := 2) rfl ?_); refine box_event ?hg (N := 2) ?hd (cs := #[.slice none 0 0, .slice none 0 0, .slice none 0 0]) (t := 26) ?hr ?_; (case hd => rfl); (case hg => rfl); (case hr => first | (go_simp; done) | (go_simp; rfl)); intro ga hga wa ba hba; have GEA := Aside0.mk (show w.heap.size ≤ ga from by rw [hga]; exact Nat.le_refl _); have BA := Aside0.mk ba; have HB := Aside0.mk hba; clear hga ba hba) | ((with_reducible refine gate_dst (N := 3) rfl ?_); refine box_event ?hg (N := 3) ?hd (cs := #[.int .i64 0]) (t := 3) ?hr ?_; (case hd => rfl); (case hg => rfl); (case hr => first | (go_simp; done) | (go_simp; rfl)); intro gb hgb wb bb hbb; have GEB := Aside0.mk (show w.heap.size ≤ gb from by rw [hgb]; exact HB.out.size); have BB := Aside0.mk bb; have BA' := Aside0.mk (blk_below BA.out hbb); have HB' := Aside0.mk (below_step HB.out hbb); clear BA HB; have BA := BA'; have HB := HB'; clear BA' HB' hgb bb hbb) | ((with_reducible refine gate_dst (N := 4) rfl ?_); refine box_event ?hg (N := 4) ?hd (cs := #[.int .i64 0]) (t := 29) ?hr ?_; (case hd => rfl); (case hg => rfl); (case hr => first | (go_simp; done) | (go_simp; rfl)); intro gc hgc wc bc hbc; have GEC := Aside0.mk (show w.heap.size ≤ gc from by rw [hgc]; exact HB.out.size); have BC := Aside0.mk bc; have BA' := Aside0.mk (blk_below BA.out hbc); have BB' := Aside0.mk (blk_below BB.out hbc); have HB' := Aside0.mk (below_step HB.out hbc); clear BA BB HB; have BA := BA'; have BB := BB'; have HB := HB'; clear BA' BB' HB' hgc bc hbc) | ((with_reducible refine gate_dst (N := 9) rfl ?_); refine box_event ?hg (N := 9) ?hd (cs := #[.slice A l.length c, .int .i64 0]) (t := 95) ?hr ?_; (case hd => rfl); (case hg => rfl); (case hr => first | (go_simp; done) | (go_simp; rfl)); intro g hg wd bd hbd; have HBC := HB; have GD := Aside0.mk hg; have BD := Aside0.mk bd; have BA' := Aside0.mk (blk_below BA.out hbd); have BB' := Aside0.mk (blk_below BB.out hbd); have BC' := Aside0.mk (blk_below BC.out hbd); have HB' := Aside0.mk (below_step HB.out hbd); clear BA BB BC HB; have BA := BA'; have BB := BB'; have BC := BC'; have HB := HB'; clear BA' BB' BC' HB' hg bd hbd))
 have hI : IsS95 A c w wd g l 0 := ⟨A, c, BD.out, (by rw [GD.out]; exact HBC.out.size), HR.out, rfl, rfl⟩
 have hf1 : ∀ ad, A = some ad → 0 < l.length → ad.block ≠ g := fun ad he hl => Nat.ne_of_lt (Nat.lt_of_lt_of_le (HF.out ad he hl) (by rw [GD.out]; exact HBC.out.size))
 refine (r_code.calls k g l 0 A c s1 s2 s3 m p q w wd hI HB.out (Kd.C_below HR.out HB.out) HC.out hf1 HRD.out).mono ?_
 rintro e w2 ⟨v0, v1, v2, ho, R0, R1, R2, hI2, hB2, hK2⟩
 have nga := blk_two BA.out BD.out (by decide)
 have ngb := blk_two BB.out BD.out (by decide)
 have ngc := blk_two BC.out BD.out (by decide)
 have nab := blk_two BA.out BB.out (by decide)
 have nac := blk_two BA.out BC.out (by decide)
 have nbc := blk_two BB.out BC.out (by decide)
 have BA2 := Aside0.mk (KeepBut.blk hK2 BA.out nga (by simp))
 have BB2 := Aside0.mk (KeepBut.blk hK2 BB.out ngb (by simp))
 have BC2 := Aside0.mk (KeepBut.blk hK2 BC.out ngc (by simp))
 have HB2 := Aside0.mk hB2
 have S0 := Aside0.mk (Kd.R_lower R0 HB.out.size)
 have S1 := Aside0.mk (Kd.R_lower R1 HB.out.size)
 have S2 := Aside0.mk (Kd.R_lower R2 HB.out.size)
 clear BA BB BC BD hI hI2 hK2 hB2 R0 R1 R2 hf1 HF HRD HB HBC GD
 rcases ho with ⟨hm, rfl⟩ | ⟨hm, rfl⟩
 rotate_left
 ·subst hm
  have hk := HK.out
  rw [if_pos rfl] at hk
  simp only [Option.some.injEq, Prod.mk.injEq] at hk
  obtain ⟨rfl, rfl, rfl, rfl, rfl⟩ := hk
  go_wp2
  refine leaves_cons (f := 41) (args := #[.pointer (some ⟨ga, 0, none⟩), .pointer (some ⟨gb, 0, none⟩), .pointer (some ⟨gc, 0, none⟩)]) (by simp) (by simp [go_sem]) ?_
  refine (catch_panicking ga gb gc p [] w2 _ _ _ _ _ BA2.out BB2.out BC2.out nab nac nbc).mono ?_
  rintro e u' w'' ⟨rfl, rfl, rfl⟩
  obtain ⟨d0, d1, d2, d3, d4⟩ := caught_cells p BA2.out BB2.out BC2.out nab nac nbc
  have hb := caught_below p GEA.out GEB.out GEC.out HB2.out
  generalize caught w2 ga gb gc p = W at d0 d1 d2 d3 d4 hb ⊢
  simp [Leaves, settle, results, Tryd.results22, go_sem, d0, d1, d2, d3, d4, hu26]
  exact ⟨_, _, _, ⟨rfl, rfl, rfl⟩, Kd.R_nil _ _ _ _ _, Kd.R_nil _ _ _ _ _, Kd.R_nil _ _ _ _ _, hb⟩
 ·subst hm
  have a0 : w2.cell? ⟨ga, 0, none⟩ = some (.slice none 0 0) := (blk_cell BA2.out 0).trans rfl
  have a1 : w2.cell? ⟨ga, 1, none⟩ = some (.slice none 0 0) := (blk_cell BA2.out 1).trans rfl
  have a2 : w2.cell? ⟨ga, 2, none⟩ = some (.slice none 0 0) := (blk_cell BA2.out 2).trans rfl
  have b0 : w2.cell? ⟨gb, 0, none⟩ = some (.int .i64 0) := (blk_cell BB2.out 0).trans rfl
  have c0 : w2.cell? ⟨gc, 0, none⟩ = some (.int .i64 0) := (blk_cell BC2.out 0).trans rfl
  have fa0 := blk_frozen BA2.out 0
  have fa1 := blk_frozen BA2.out 1
  have fa2 := blk_frozen BA2.out 2
  have fb0 := blk_frozen BB2.out 0
  have fc0 := blk_frozen BC2.out 0
  have nba := nab.symm
  have nca := nac.symm
  have ncb := nbc.symm
  obtain ⟨Ao0, co0, eo0⟩ := Kd.R_slice S0.out
  subst eo0
  obtain ⟨Ao1, co1, eo1⟩ := Kd.R_slice S1.out
  subst eo1
  obtain ⟨Ao2, co2, eo2⟩ := Kd.R_slice S2.out
  subst eo2
  have hk := HK.out
  rw [if_neg (by decide)] at hk
  obtain ⟨⟨t0, t1, t2⟩, hck, hk⟩ := Option.bind_eq_some_iff.mp hk
  simp only at hk
  have BA3 : ((((w2.setCell ⟨ga, 0, none⟩ (.slice Ao0 s1.length co0)).setCell ⟨ga, 1, none⟩ (.slice Ao1 s2.length co1)).setCell ⟨ga, 2, none⟩ (.slice Ao2 s3.length co2)).heap)[ga]? = some (.cells #[.slice Ao0 s1.length co0, .slice Ao1 s2.length co1, .slice Ao2 s3.length co2] 26 (0, 0)) := by
   have := blk_put (blk_put (blk_put BA2.out 0 (.slice Ao0 s1.length co0) rfl) 1 (.slice Ao1 s2.length co1) rfl) 2 (.slice Ao2 s3.length co2) rfl
   exact this
  have BB3 := blk_far (blk_far (blk_far BB2.out nba (p := ⟨ga, 0, none⟩) (.slice Ao0 s1.length co0)) nba (p := ⟨ga, 1, none⟩) (.slice Ao1 s2.length co1)) nba (p := ⟨ga, 2, none⟩) (.slice Ao2 s3.length co2)
  have BC3 := blk_far (blk_far (blk_far BC2.out nca (p := ⟨ga, 0, none⟩) (.slice Ao0 s1.length co0)) nca (p := ⟨ga, 1, none⟩) (.slice Ao1 s2.length co1)) nca (p := ⟨ga, 2, none⟩) (.slice Ao2 s3.length co2)
  have T0 := Kd.R_far (p := ⟨ga, 2, none⟩) (Kd.R_far (p := ⟨ga, 1, none⟩) (Kd.R_far (p := ⟨ga, 0, none⟩) (Kd.R_types S0.out BA2.out (by decide)) (fun _ hk => hk.2) (.slice Ao0 s1.length co0)) (fun _ hk => hk.2) (.slice Ao1 s2.length co1)) (fun _ hk => hk.2) (.slice Ao2 s3.length co2)
  have T1 := Kd.R_far (p := ⟨ga, 2, none⟩) (Kd.R_far (p := ⟨ga, 1, none⟩) (Kd.R_far (p := ⟨ga, 0, none⟩) (Kd.R_types S1.out BA2.out (by decide)) (fun _ hk => hk.2) (.slice Ao0 s1.length co0)) (fun _ hk => hk.2) (.slice Ao1 s2.length co1)) (fun _ hk => hk.2) (.slice Ao2 s3.length co2)
  have T2 := Kd.R_far (p := ⟨ga, 2, none⟩) (Kd.R_far (p := ⟨ga, 1, none⟩) (Kd.R_far (p := ⟨ga, 0, none⟩) (Kd.R_types S2.out BA2.out (by decide)) (fun _ hk => hk.2) (.slice Ao0 s1.length co0)) (fun _ hk => hk.2) (.slice Ao1 s2.length co1)) (fun _ hk => hk.2) (.slice Ao2 s3.length co2)
  have HB3 : Below w.heap.size w (((w2.setCell ⟨ga, 0, none⟩ (.slice Ao0 s1.length co0)).setCell ⟨ga, 1, none⟩ (.slice Ao1 s2.length co1)).setCell ⟨ga, 2, none⟩ (.slice Ao2 s3.length co2)) := below_set (below_set (below_set HB2.out GEA.out) GEA.out) GEA.out
  have BAx := Aside0.mk BA3
  by_cases e0 : t2 = 0
  ·have e1 : (t2 == 0) = true := beq_iff_eq.mpr e0
   have e2 : (t2 != 0) = false := bne_eq_false_iff_eq.mpr e0
   rw [if_pos e0] at hk
   simp only [Option.some.injEq, Prod.mk.injEq] at hk
   obtain ⟨rfl, rfl, rfl, rfl, rfl⟩ := hk
   (go_wp2_with (first | ((with_reducible refine gate_callee (f := 13) rfl ?_); refine goesL_ (some 14) rfl rfl Tryd.func13 (by kernel_rfl) rfl #[.agg #[.slice Ao0 s1.length co0, .slice Ao1 s2.length co1, .slice Ao2 s3.length co2]] rfl (by (try simp only [List.map_toArray, List.map_cons, List.map_nil]); first | done | rfl) ?_; (with_reducible refine (c_Check.calls k _ _ s1 _ _ s2 _ _ s3 t0 t1 t2 _ ?side1 ?side2 ?side3 ?side4 ?side5 ?side6 hck).mono ?_); (case side1 => exact (Kd.R_reads' T0).2.2); (case side2 => exact (Kd.R_reads' T0).2.1); (case side3 => exact (Kd.R_reads' T1).2.2); (case side4 => exact (Kd.R_reads' T1).2.1); (case side5 => exact (Kd.R_reads' T2).2.2); (case side6 => exact (Kd.R_reads' T2).2.1); rintro e w4 ⟨rfl, hb4⟩; refine ⟨_, rfl, ?_⟩; have BA4 := blk_below BA3 hb4; have BB4 := blk_below BB3 hb4; have BC4 := blk_below BC3 hb4; have U0 := Kd.R_below T0 hb4; have U1 := Kd.R_below T1 hb4; have U2 := Kd.R_below T2 hb4; have HB4 := below_step HB3 hb4; have p0 : w4.cell? ⟨ga, 0, none⟩ = some (.slice Ao0 s1.length co0) := (blk_cell BA4 0).trans rfl; have p1 : w4.cell? ⟨ga, 1, none⟩ = some (.slice Ao1 s2.length co1) := (blk_cell BA4 1).trans rfl; have p2 : w4.cell? ⟨ga, 2, none⟩ = some (.slice Ao2 s3.length co2) := (blk_cell BA4 2).trans rfl; have p3 : w4.cell? ⟨gb, 0, none⟩ = some (.int .i64 0) := (blk_cell BB4 0).trans rfl; have p4 : w4.cell? ⟨gc, 0, none⟩ = some (.int .i64 0) := (blk_cell BC4 0).trans rfl; have fp0 := blk_frozen BA4 0; have fp1 := blk_frozen BA4 1; have fp2 := blk_frozen BA4 2; have fp3 := blk_frozen BB4 0; have fp4 := blk_frozen BC4 0)))
   (repeat (go_quiet (fail); try go_wp2))
   refine leaves_cons (f := 41) (args := #[.pointer (some ⟨ga, 0, none⟩), .pointer (some ⟨gb, 0, none⟩), .pointer (some ⟨gc, 0, none⟩)]) (by simp) (by simp [go_sem]) ?_
   refine (catch_idle ga gb gc _).mono ?_
   rintro e u' w'' ⟨rfl, rfl, rfl⟩
   simp (maxDischargeDepth := 9) [Leaves, settle, results, Tryd.results22, go_sem, p0, p1, p2, p3, p4, nab, nba, nac, nca, nbc, ncb, hu26]
   have Q0 := Kd.R_types (Kd.R_types (Kd.R_types U0 BA4 (by decide)) BB4 (by decide)) BC4 (by decide)
   have Q1 := Kd.R_types (Kd.R_types (Kd.R_types U1 BA4 (by decide)) BB4 (by decide)) BC4 (by decide)
   have Q2 := Kd.R_types (Kd.R_types (Kd.R_types U2 BA4 (by decide)) BB4 (by decide)) BC4 (by decide)
   exact ⟨_, _, _, ⟨rfl, rfl, rfl⟩, Kd.R_mono (Kd.R_far (p := ⟨gc, 0, none⟩) (Kd.R_far (p := ⟨gb, 0, none⟩) (Kd.R_far (p := ⟨ga, 2, none⟩) (Kd.R_far (p := ⟨ga, 1, none⟩) (Kd.R_far (p := ⟨ga, 0, none⟩) (Kd.R_far (p := ⟨gc, 0, none⟩) (Kd.R_far (p := ⟨gb, 0, none⟩) (Q0) (fun _ hk => hk.1.2) (.int .i64 t1)) (fun _ hk => hk.2) (.int .i64 0)) (fun _ hk => hk.1.1.2) (.slice Ao0 s1.length co0)) (fun _ hk => hk.1.1.2) (.slice Ao1 s2.length co1)) (fun _ hk => hk.1.1.2) (.slice Ao2 s3.length co2)) (fun _ hk => hk.1.2) (.int .i64 0)) (fun _ hk => hk.2) (.int .i64 0)) (fun _ _ => trivial), Kd.R_mono (Kd.R_far (p := ⟨gc, 0, none⟩) (Kd.R_far (p := ⟨gb, 0, none⟩) (Kd.R_far (p := ⟨ga, 2, none⟩) (Kd.R_far (p := ⟨ga, 1, none⟩) (Kd.R_far (p := ⟨ga, 0, none⟩) (Kd.R_far (p := ⟨gc, 0, none⟩) (Kd.R_far (p := ⟨gb, 0, none⟩) (Q1) (fun _ hk => hk.1.2) (.int .i64 t1)) (fun _ hk => hk.2) (.int .i64 0)) (fun _ hk => hk.1.1.2) (.slice Ao0 s1.length co0)) (fun _ hk => hk.1.1.2) (.slice Ao1 s2.length co1)) (fun _ hk => hk.1.1.2) (.slice Ao2 s3.length co2)) (fun _ hk => hk.1.2) (.int .i64 0)) (fun _ hk => hk.2) (.int .i64 0)) (fun _ _ => trivial), Kd.R_mono (Kd.R_far (p := ⟨gc, 0, none⟩) (Kd.R_far (p := ⟨gb, 0, none⟩) (Kd.R_far (p := ⟨ga, 2, none⟩) (Kd.R_far (p := ⟨ga, 1, none⟩) (Kd.R_far (p := ⟨ga, 0, none⟩) (Kd.R_far (p := ⟨gc, 0, none⟩) (Kd.R_far (p := ⟨gb, 0, none⟩) (Q2) (fun _ hk => hk.1.2) (.int .i64 t1)) (fun _ hk => hk.2) (.int .i64 0)) (fun _ hk => hk.1.1.2) (.slice Ao0 s1.length co0)) (fun _ hk => hk.1.1.2) (.slice Ao1 s2.length co1)) (fun _ hk => hk.1.1.2) (.slice Ao2 s3.length co2)) (fun _ hk => hk.1.2) (.int .i64 0)) (fun _ hk => hk.2) (.int .i64 0)) (fun _ _ => trivial), below_set (below_set (below_set (below_set (below_set (below_set (below_set HB4 GEB.out) GEC.out) GEA.out) GEA.out) GEA.out) GEB.out) GEC.out⟩
  ·have e1 : (t2 == 0) = false := beq_eq_false_iff_ne.mpr e0
   have e2 : (t2 != 0) = true := bne_iff_ne.mpr e0
   rw [if_neg e0] at hk
   simp only [Option.some.injEq, Prod.mk.injEq] at hk
   obtain ⟨rfl, rfl, rfl, rfl, rfl⟩ := hk
   (go_wp2_with (first | ((with_reducible refine gate_callee (f := 13) rfl ?_); refine goesL_ (some 14) rfl rfl Tryd.func13 (by kernel_rfl) rfl #[.agg #[.slice Ao0 s1.length co0, .slice Ao1 s2.length co1, .slice Ao2 s3.length co2]] rfl (by (try simp only [List.map_toArray, List.map_cons, List.map_nil]); first | done | rfl) ?_; (with_reducible refine (c_Check.calls k _ _ s1 _ _ s2 _ _ s3 t0 t1 t2 _ ?side1 ?side2 ?side3 ?side4 ?side5 ?side6 hck).mono ?_); (case side1 => exact (Kd.R_reads' T0).2.2); (case side2 => exact (Kd.R_reads' T0).2.1); (case side3 => exact (Kd.R_reads' T1).2.2); (case side4 => exact (Kd.R_reads' T1).2.1); (case side5 => exact (Kd.R_reads' T2).2.2); (case side6 => exact (Kd.R_reads' T2).2.1); rintro e w4 ⟨rfl, hb4⟩; refine ⟨_, rfl, ?_⟩; have BA4 := blk_below BA3 hb4; have BB4 := blk_below BB3 hb4; have BC4 := blk_below BC3 hb4; have U0 := Kd.R_below T0 hb4; have U1 := Kd.R_below T1 hb4; have U2 := Kd.R_below T2 hb4; have HB4 := below_step HB3 hb4; have p0 : w4.cell? ⟨ga, 0, none⟩ = some (.slice Ao0 s1.length co0) := (blk_cell BA4 0).trans rfl; have p1 : w4.cell? ⟨ga, 1, none⟩ = some (.slice Ao1 s2.length co1) := (blk_cell BA4 1).trans rfl; have p2 : w4.cell? ⟨ga, 2, none⟩ = some (.slice Ao2 s3.length co2) := (blk_cell BA4 2).trans rfl; have p3 : w4.cell? ⟨gb, 0, none⟩ = some (.int .i64 0) := (blk_cell BB4 0).trans rfl; have p4 : w4.cell? ⟨gc, 0, none⟩ = some (.int .i64 0) := (blk_cell BC4 0).trans rfl; have fp0 := blk_frozen BA4 0; have fp1 := blk_frozen BA4 1; have fp2 := blk_frozen BA4 2; have fp3 := blk_frozen BB4 0; have fp4 := blk_frozen BC4 0)))
   (repeat (go_quiet (fail); try go_wp2))
   refine start_ (n := 6) (S := fun w' => w'.cell? ⟨gb, 0, none⟩ = some (.int .i64 t1) ∧ w'.cell? ⟨gc, 0, none⟩ = some (.int .i64 t2)) (ds := []) #[false, false, false, false, false, false] (by kernel_rfl) rfl rfl ⟨(by simp [go_sem, p3, p4, nbc, ncb]), (by simp [go_sem, p3, p4, nbc, ncb])⟩ (fun hHeld => ?_)
   refine pure_ (i := 0) (N := some 20) (v := ?_) (a' := ?_) #[true, false, false, false, false, false] rfl rfl (by kernel_rfl) (fun _ _ _ h => quiet22 (by decide) (by decide) (by decide) h) (Or.inl ⟨by rfl, ?_⟩) ?_ ?_
   rotate_left
   ·intro w'
    go_simp
    with_reducible rfl
   rotate_left
   ·simp only [Act.put, List.setIfInBounds_toArray, List.set_cons_zero, List.set_cons_succ, i64_w, i32_w]
    rfl
   refine take_ (i := 1) (N := some 21) (v := ?_) (a' := ?_) #[true, true, false, false, false, false] rfl rfl (by kernel_rfl) (fun _ _ _ h => quiet22 (by decide) (by decide) (by decide) h) (Or.inl ⟨by rfl, ?_⟩) hHeld ?_ ?_
   rotate_left
   ·rintro w' ⟨s0, s1⟩
    go_simp
    with_reducible rfl
   rotate_left
   ·simp only [Act.put, List.setIfInBounds_toArray, List.set_cons_zero, List.set_cons_succ, i64_w, i32_w]
    rfl
   refine take_ (i := 2) (N := some 22) (v := ?_) (a' := ?_) #[true, true, true, false, false, false] rfl rfl (by kernel_rfl) (fun _ _ _ h => quiet22 (by decide) (by decide) (by decide) h) (Or.inl ⟨by rfl, ?_⟩) hHeld ?_ ?_
   rotate_left
   ·rintro w' ⟨s0, s1⟩
    go_simp
    with_reducible rfl
   rotate_left
   ·simp only [Act.put, List.setIfInBounds_toArray, List.set_cons_zero, List.set_cons_succ, i64_w, i32_w]
    rfl
   refine one_ (i := 3) (N := none) #[true, true, true, true, false, false] rfl rfl (by kernel_rfl) (by decide) (fun K hK => ?_)
   refine skip_ (w1 := ?_) (by rfl) rfl ?_ ?_
   rotate_left
   ·go_simp
    rfl
   refine hK.out _ _ ⟨(by simp (maxDischargeDepth := 9) [go_sem, p0, p1, p2, p3, p4, nab, nba, nac, nca, nbc, ncb]), (by simp (maxDischargeDepth := 9) [go_sem, p0, p1, p2, p3, p4, nab, nba, nac, nca, nbc, ncb])⟩ (fun hHeld => ?_)
   clear hK K
   refine one_ (i := 4) (N := none) #[true, true, true, true, true, false] rfl rfl (by kernel_rfl) (by decide) (fun K hK => ?_)
   refine skip_ (w1 := ?_) (by rfl) rfl ?_ ?_
   rotate_left
   ·go_simp
    rfl
   refine hK.out _ _ ⟨(by simp (maxDischargeDepth := 9) [go_sem, p0, p1, p2, p3, p4, nab, nba, nac, nca, nbc, ncb]), (by simp (maxDischargeDepth := 9) [go_sem, p0, p1, p2, p3, p4, nab, nba, nac, nca, nbc, ncb])⟩ (fun hHeld => ?_)
   clear hK K
   refine one_ (i := 5) (N := none) #[true, true, true, true, true, true] rfl rfl (by kernel_rfl) (by decide) (fun K hK => ?_)
   refine skip_ (w1 := ?_) (by rfl) rfl ?_ ?_
   rotate_left
   ·go_simp
    rfl
   refine hK.out _ _ ⟨(by simp (maxDischargeDepth := 9) [go_sem, p0, p1, p2, p3, p4, nab, nba, nac, nca, nbc, ncb]), (by simp (maxDischargeDepth := 9) [go_sem, p0, p1, p2, p3, p4, nab, nba, nac, nca, nbc, ncb])⟩ (fun hHeld => ?_)
   clear hK K
   refine done_ (by kernel_rfl) ?_
   go_wp2
   refine leaves_cons (f := 41) (args := #[.pointer (some ⟨ga, 0, none⟩), .pointer (some ⟨gb, 0, none⟩), .pointer (some ⟨gc, 0, none⟩)]) (by simp) (by simp [go_sem]) ?_
   refine (catch_idle ga gb gc _).mono ?_
   rintro e u' w'' ⟨rfl, rfl, rfl⟩
   simp (maxDischargeDepth := 9) [Leaves, settle, results, Tryd.results22, go_sem, p0, p1, p2, p3, p4, nab, nba, nac, nca, nbc, ncb, hu26]
   exact ⟨_, _, _, ⟨rfl, rfl, rfl⟩, Kd.R_nil _ _ _ _ _, Kd.R_nil _ _ _ _ _, Kd.R_nil _ _ _ _ _, (by with_reducible repeat (first | exact HB4 | refine below_set ?_ GEA.out | refine below_set ?_ GEB.out | refine below_set ?_ GEC.out | apply pw_below_drewN | apply below_drew1))⟩
end Go.Proofs.YtdkejcadoepnnaaDoor.X
end
