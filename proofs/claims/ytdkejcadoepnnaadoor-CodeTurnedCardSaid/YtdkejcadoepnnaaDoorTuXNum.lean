/-
  The contract of number (a number's digits in base 128 behind a row of the caller's own). Conditions: the row and the digits together are at most 2^47.
-/
import Derived.Test.YtdkejcadoepnnaaDoorTuECnx0
import Derived.Lib.SlBytesConst
set_option linter.unusedVariables false
set_option linter.unusedSimpArgs false
namespace Go.Proofs.YtdkejcadoepnnaaDoor.X
open Go.RowKit Go.Proofs.YtdkejcadoepnnaaDoorW.PrintWords Go.Proofs.YtdkejcadoepnnaaDoorW.PrintLast Go.Proofs.YtdkejcadoepnnaaDoorW.PrintMore Go.Proofs.YtdkejcadoepnnaaDoor.ECn
attribute [local go_sem] max2_int min2_int max_two min_two max_three min_three max_four min_four
/-- What a call does that writes behind a row v of its caller's: nothing else that was there changes; the new row is the old one's block, or a new one. -/
def GrowTo (w : World) (v : Value) (w' : World) (v' : Value) : Prop := w.grownBy w' v.ownBlock ∧ (v'.ownBlock = v.ownBlock ∨ ∃ b, v'.ownBlock = some b ∧ w.heap.size ≤ b)
theorem GrowTo.refl (w : World) (v : Value) : GrowTo w v w v := ⟨⟨rfl, rfl, rfl, Nat.le_refl _, fun _ _ _ => rfl⟩, .inl rfl⟩
theorem GrowTo.step {w w1 w2 : World} {v v1 v2 : Value} (h : GrowTo w v w1 v1) (hg : w1.grownBy w2 v1.ownBlock) (hat : v2.ownBlock = v1.ownBlock ∨ ∃ b, v2.ownBlock = some b ∧ w1.heap.size ≤ b) : GrowTo w v w2 v2 := by
  obtain ⟨h1, h2⟩ := h
  refine ⟨⟨hg.os.trans h1.os, hg.tape.trans h1.tape, hg.output.trans h1.output, Nat.le_trans h1.size hg.size, fun k hk hne => ?_⟩, ?_⟩
  · have h3 : some k ≠ v1.ownBlock := by
      rcases h2 with h2 | ⟨b, h2, hb⟩
      · rw [h2]; exact hne
      · rw [h2]
        intro e
        injection e with e
        omega
    exact (hg.block k (Nat.lt_of_lt_of_le hk h1.size) h3).trans (h1.block k hk hne)
  · rcases hat with e | ⟨b, e, hb⟩
    · rw [e]; exact h2
    · exact .inr ⟨b, e, Nat.le_trans h1.size hb⟩
def RM (w : World) (base : Nat) (v : Value) (xs : List Int) : Prop :=
  ∃ g, v = .slice (some ⟨g, 0, none⟩) xs.length xs.length ∧ base ≤ g ∧ w.heap[g]? = some (.cells (nums .u8 xs).toArray 5 (xs.length, xs.length + 1))
def RX (w : World) (base : Nat) (v : Value) (xs : List Int) : Prop := Kd.R (Kd.int .u8) 5 w base (fun _ => True) v xs ∨ RM w base v xs
theorem RM.below {w w1 : World} {base : Nat} {v : Value} {xs : List Int} (h : RM w base v xs) (hb : Below w.heap.size w w1) : RM w1 base v xs := by
  obtain ⟨g, rfl, hb0, hg⟩ := h
  refine ⟨g, rfl, hb0, ?_⟩
  rw [hb.block g (Array.getElem?_eq_some_iff.1 hg).1]
  exact hg
theorem RX.alloc {w : World} {base : Nat} {v : Value} {xs : List Int} (o : Obj) (h : RX w base v xs) : RX (w.alloc o) base v xs := h.imp (fun h => Kd.R_alloc h o) (fun h => h.below (below_alloc (Below.refl _ _) o))
theorem RX.drew {w : World} {base : Nat} {v : Value} {xs : List Int} (h : RX w base v xs) : RX w.drew base v xs := h.imp (fun h => Kd.R_drew h) (fun h => h.below (below_drew (Below.refl _ _)))
theorem RX.drewN {w : World} {base : Nat} {v : Value} {xs : List Int} (m : Nat) (h : RX w base v xs) : RX (w.drewN m) base v xs := h.imp (fun h => Kd.R_drewN h m) (fun h => h.below (pw_below_drewN (Below.refl _ _) m))
section
variable {P : Program} {ops : Array Oper} {rest : List Oper} {o : Oper} {a : Act} {Q : Exit → Act → World → Prop}
theorem RM.append {w0 W : World} (base : Nat) (hgd : o.guard = none) (s x : Operand) (t : TypeId)
    (ho : o.op = .call { callee := .builtin .append, args := #[s, x], argTypes := #[t, t] })
    (ht : P.underlying t = some (.slice 5)) (hinfo : (P.info? 5).map (fun i => (i.zero, i.size, i.bytes)) = some (some (.int .u8 0), 1, 1))
    (v : Value) (xs : List Int) (p : Int) (hs : a.eval s = v) (hx : a.eval x = .slice (some ⟨W.heap.size, 0, none⟩) 1 1)
    (HO : RM W base v xs) (HB : Below base w0 W) (hbase : base ≤ W.heap.size) (hl : xs.length + 1 ≤ 140737488355328)
    (h : ∀ v1 w1, Kd.R (Kd.int .u8) 5 w1 base (fun _ => True) v1 (xs ++ [p]) → Below base w0 w1 → W.grownBy w1 v.ownBlock → (v1.ownBlock = v.ownBlock ∨ ∃ b, v1.ownBlock = some b ∧ W.heap.size ≤ b) → wpList P ops Q rest (a.put o.dst v1) w1) :
    wpList P ops Q (o :: rest) a (W.alloc (.cells #[.int .u8 p] 5)) := by
  obtain ⟨i, hi, hzz⟩ := Option.map_eq_some_iff.1 hinfo
  simp only [Prod.mk.injEq] at hzz
  obtain ⟨hz0, hz1, hz2⟩ := hzz
  obtain ⟨g, rfl, hbg, hg⟩ := HO
  have hglt := blk_lt hg
  have hlo : (nums .u8 xs).length = xs.length * i.size := by rw [nums_length, hz1, Nat.mul_one]
  have holds : ∀ j u, (nums .u8 xs)[j]? = some u → (W.alloc (.cells #[.int .u8 p] 5)).cell? ((⟨g, 0, none⟩ : Addr).add j) = some u := by
    simpa using World.news_of_block (cs := (nums .u8 xs).toArray) (t := 5) (fr := (xs.length, xs.length + 1)) ((heap_alloc_old W (.cells #[.int .u8 p] 5) hglt).trans hg)
  have hnews : ∀ j u, [Value.int .u8 p][j]? = some u → (W.alloc (.cells #[.int .u8 p] 5)).cell? ((⟨W.heap.size, 0, none⟩ : Addr).add j) = some u := by
    simpa using World.news_of_block (cs := #[Value.int .u8 p]) (t := 5) (fr := (0, 0)) (heap_alloc_new W (.cells #[.int .u8 p] 5))
  have hr := run_append_grow (P := P) (W.alloc (.cells #[.int .u8 p] 5)) t o.type 5 i (.int .u8 0) ht hi hz0 ⟨g, 0, none⟩ xs.length xs.length (nums .u8 xs) hlo holds ⟨W.heap.size, 0, none⟩ 1 1 [.int .u8 p] (by rw [hz1]; rfl) hnews (by omega) (by omega) (growslice_fits (by omega) (by rw [hz2, Nat.mul_one]; exact hl))
  refine wpList_plain hgd fun K hK => ?_
  unfold Oper.wp execOp
  simp only [ho, resolve, invoke, builtin, Sem.run_bind, Sem.run_pure, Result.andThen_ok, List.map_toArray, List.map_cons, List.map_nil, hs, hx, hr]
  have hge := grownCap_ge (W.alloc (.cells #[.int .u8 p] 5)) (xs.length + 1) xs.length 5
  have hcm := grownCap_le_maxLen (W.alloc (.cells #[.int .u8 p] 5)) (xs.length + 1) xs.length 5 (by simp only [maxLen]; omega)
  refine hK _ _ (h _ _ (Kd.R_of_own ?_ (fun _ _ => trivial)) ?_ ?_ (.inr ⟨_, rfl, by simp⟩))
  · rw [List.length_append, List.length_singleton]
    refine ⟨by simp [encs], .inr ⟨_, _, _, rfl, Nat.le_trans hbase (by simp), heap_alloc_new (W.alloc (.cells #[.int .u8 p] 5)).drew _, hge, hcm, ?_, ?_⟩⟩
    · simp only [Array.size_append, List.size_toArray, size_zeroCells, nums_length, List.length_singleton]
      show xs.length + 1 + (_ - (xs.length + 1)) * 1 = _ * 1
      omega
    · simp only [Array.toList_append, List.append_assoc]
      rw [← List.append_assoc]
      have e : (nums .u8 xs ++ [Value.int .u8 p]).length = (xs.length + 1) * 1 := by simp [nums_length]
      rw [← e, List.take_left]
      simp [nums, encs]
  · exact (below_drew (HB.alloc hbase _)).alloc (Nat.le_trans hbase (by simp)) _
  · exact ⟨rfl, rfl, rfl, by simp; omega, fun k hk _ => (heap_alloc_old (W.alloc (.cells #[.int .u8 p] 5)).drew _ (by simp; omega)).trans (heap_alloc_old W _ hk)⟩
theorem RX.append {w0 W : World} (base : Nat) (hgd : o.guard = none) (s x : Operand) (t : TypeId)
    (ho : o.op = .call { callee := .builtin .append, args := #[s, x], argTypes := #[t, t] })
    (ht : P.underlying t = some (.slice 5)) (hinfo : (P.info? 5).map (fun i => (i.zero, i.size, i.bytes)) = some (some (.int .u8 0), 1, 1))
    (v : Value) (xs : List Int) (p : Int) (hs : a.eval s = v) (hx : a.eval x = .slice (some ⟨W.heap.size, 0, none⟩) 1 1)
    (HO : RX W base v xs) (HB : Below base w0 W) (hbase : base ≤ W.heap.size) (hl : xs.length + 1 ≤ 140737488355328)
    (h : ∀ v1 w1, Kd.R (Kd.int .u8) 5 w1 base (fun _ => True) v1 (xs ++ [p]) → Below base w0 w1 → W.grownBy w1 v.ownBlock → (v1.ownBlock = v.ownBlock ∨ ∃ b, v1.ownBlock = some b ∧ W.heap.size ≤ b) → wpList P ops Q rest (a.put o.dst v1) w1) :
    wpList P ops Q (o :: rest) a (W.alloc (.cells #[.int .u8 p] 5)) := by
  rcases HO with HO | HO
  · exact Kd.R_append (Kd.int .u8) (w0 := w0) base hgd s x t 5 (.int .u8 0) 1 ho ht hinfo rfl (by decide) (by omega) v xs p [.int .u8 p] (fun _ => True) (fun _ => False) hs hx rfl (fun _ hk => hk.elim) (fun _ _ => trivial) HO HB hbase (by omega) h
  · exact RM.append base hgd s x t ho ht hinfo v xs p hs hx HO HB hbase hl h
end
/-- '[]byte("..")' of a constant: its row, and the mark behind it (two operations at once). -/
theorem mark_event {o1 o2 : Oper} {a : Act} {w0 W : World} {T : Tmp} {ops : Array Oper} {rest : List Oper} {Q : Exit → Act → World → Prop} (base : Nat) (g1 : o1.guard = none) (d1 : o1.dst = some T) (g2 : o2.guard = none) (h2 : o2.op = .convert 34 34 (.tmp T)) (xs : List Int)
    (hrun : (execOp a.eval o1).run Tryd.prog W = .ok (.value (.slice (some ⟨W.heap.size, 0, none⟩) xs.length xs.length)) (W.alloc (.cells (nums .u8 xs).toArray 5)))
    (hx : ∀ v, (a.put (some T) v).eval (.tmp T) = v) (HB : Below base w0 W) (hbase : base ≤ W.heap.size)
    (h : ∀ v1 w1, RX w1 base v1 xs → Below base w0 w1 → W.grownBy w1 none → (∃ b, v1.ownBlock = some b ∧ W.heap.size ≤ b) → wpList Tryd.prog ops Q rest ((a.put (some T) v1).put o2.dst v1) w1) : wpList Tryd.prog ops Q (o1 :: o2 :: rest) a W := by
  refine Kd.event_run g1 hrun ?_
  rw [d1]
  have hr := Lib.run_convert_bytes_const (P := Tryd.prog) W 34 5 (nums .u8 xs).toArray xs.length xs.length Tryd.underlying34 Tryd.underlying5
  have hrun2 : (execOp (a.put (some T) (.slice (some ⟨W.heap.size, 0, none⟩) xs.length xs.length)).eval o2).run Tryd.prog (W.alloc (.cells (nums .u8 xs).toArray 5)) = .ok (.value (.slice (some ⟨W.heap.size, 0, none⟩) xs.length xs.length)) (W.alloc (.cells (nums .u8 xs).toArray 5 ((nums .u8 xs).toArray.size, (nums .u8 xs).toArray.size + 1))) := by
    simp [execOp, h2, hx, hr]
  refine Kd.event_run g2 hrun2 (h _ _ (.inr ⟨W.heap.size, rfl, hbase, ?_⟩) (HB.alloc hbase _) (World.grownBy_alloc W _ none) ⟨W.heap.size, by simp [Value.ownBlock], Nat.le_refl _⟩)
  rw [heap_alloc_new]
  simp [nums_length]
theorem RX.lower {w : World} {base base' : Nat} {v : Value} {xs : List Int} (h : RX w base v xs) (hb : base' ≤ base) : RX w base' v xs := by
  rcases h with h | ⟨g, e, hg, r⟩
  · exact .inl (Kd.R_lower h hb)
  · exact .inr ⟨g, e, Nat.le_trans hb hg, r⟩
theorem RX.ne {w : World} {base g : Nat} {v : Value} {xs : List Int} {cs : Array Value} {t : TypeId} (h : RX w base v xs) (hg : w.heap[g]? = some (.cells cs t (0, 0))) (ht : t ≠ 5) : some g ≠ v.ownBlock := by
  rcases h with h | ⟨g', rfl, _, h⟩
  · exact Kd.R_ne h hg (fun e => ht e.symm)
  · intro e
    have : g = g' := by simpa [Value.ownBlock] using e
    subst this
    rw [hg] at h
    simp at h
def xNumber.l0 : Nat → Int → List Int → Option (List Int)
  | 0, _, _ => none
  | k + 1, x1, x21 => if x1 ≥ 128 then (if x21.length < 140737488355328 then (xNumber.l0 k (wrap64 (Int.tdiv x1 128)) (x21 ++ [Go.bits .or .u8 ((Int.tmod x1 128) % 256) 128])) else (none)) else (if x21.length < 140737488355328 then (some (x21 ++ [(x1) % 256])) else (none))
set_option maxHeartbeats 8000000 in
set_option maxRecDepth 100000 in
theorem xNumber.walk (k : Nat) (w0 : World) (v : Value) (xs : List Int) (a1 : Int) (r : List Int) (w : World) (HO : Aside0 (RX w w0.heap.size v xs)) (HB : Aside0 (Below w0.heap.size w0 w)) (h : xNumber.l0 k a1 xs = some r) :
    Calls Tryd.prog 29 #[v, .int .i64 a1] w fun e w' => ∃ v0_ : Value, e = .returned (v0_) ∧ Kd.R (Kd.int .u8) 5 w' w0.heap.size (fun _ => True) v0_ r ∧ GrowTo w v w' v0_ ∧ Below w0.heap.size w0 w' := by
  have H : (xNumber.l0 k a1 xs) = some r := h
  clear h
  have H' := Aside0.mk H
  clear H
  go_enter Tryd.func29, Tryd.ntmps29
  go_wp2
  go_loopg [0, 1] k (fun kq v21 v1 w' => ∃ (x1_1 : Int) (x21_1 : List Int), v1 = .int .i64 x1_1 ∧ Aside0 (xNumber.l0 kq x1_1 x21_1 = some r) ∧ Aside0 (kq ≤ k) ∧ Aside0 (RX w' w0.heap.size v21 x21_1) ∧ Aside0 (GrowTo w v w' v21) ∧ Aside0 (Below w0.heap.size w0 w'))
  case atStart => exact ⟨(a1), (xs), (by first | rfl | (simp; done) | (simp [*]; done)), H', ⟨Nat.le_refl _⟩, ⟨HO.out⟩, ⟨GrowTo.refl w v⟩, ⟨by repeat (first | (with_reducible first | exact HB.out | apply below_alloc | apply pw_below_drewN | apply below_drew1) | exact HB.out)⟩⟩
  case round =>
    clear H'
    try clear c2
    try clear p2
    obtain ⟨x1_1, x21_1, rfl, HA, HK1, HO_21, HGR, HB⟩ := hrel
    cases gk with
    | zero => exact absurd HA.out (by simp [xNumber.l0])
    | succ k1 =>
      have H := HA.out
      clear HA
      simp only [xNumber.l0] at H
      by_cases c3 : x1_1 ≥ 128
      · rw [if_pos c3] at H
        have c3b0 : decide (128 ≤ x1_1) = true := decide_eq_true c3
        clear c3
        by_cases c4 : x21_1.length < 140737488355328
        · rw [if_pos c4] at H
          have LMc4 := Aside0.mk c4
          clear c4
          obtain ⟨y101, hy101⟩ : ∃ y_ : List Int, y_ = (x21_1 ++ [Go.bits .or .u8 ((Int.tmod x1_1 128) % 256) 128]) := ⟨_, rfl⟩
          replace H : (xNumber.l0 k1 (wrap64 (Int.tdiv x1_1 128)) y101) = some r := by first | (rw [hy101]; with_reducible exact H) | (have H2_ := (Option.bind_some _ _).symm.trans H; rw [hy101]; with_reducible exact H2_) | (have H2_ := (Option.bind_some _ _).symm.trans H; with_reducible exact H2_) | with_reducible exact H | (rw [hy101]; exact H) | exact H
          have Ny101 := Aside0.mk hy101
          clear hy101
          have H' := Aside0.mk H
          clear H
          go_wp2_with (first | ((with_reducible refine gate_builtin (b := .append) (xs := #[.tmp 7, .tmp 12]) rfl ?_); at_builtin; refine RX.append (w0 := w0) w0.heap.size rfl (.tmp 7) (.tmp 12) 34 rfl Tryd.underlying34 info5 u0 x21_1 (Go.bits .or .u8 ((Int.tmod x1_1 128) % 256) 128) rfl rfl ?aO ?aB ?aS ?aL ?_; (case aB => exact (by repeat (first | (with_reducible first | exact HB.out | apply below_alloc | apply pw_below_drewN | apply below_drew1) | exact HB.out))); (case aO => exact (by (with_reducible repeat (first | apply RX.alloc | apply RX.drewN | apply RX.drew)); exact HO_21.out)); (case aS => exact (below_size (by repeat (first | (with_reducible first | exact HB.out | apply below_alloc | apply pw_below_drewN | apply below_drew1) | exact HB.out)))); (case aL => have := LMc4.out; omega); intro v102 w5 ho hb hg hat; rw [← Ny101.out] at ho; have nG_ := Aside0.mk (GrowTo.step HGR.out hg hat); have n0_ := Aside0.mk (hb); have n1_ := Aside0.mk (ho); clear HB; clear HO_21 HGR; have HGR := nG_; clear nG_; have HB := n0_; have HO103 := n1_; clear n0_ n1_; clear ho hb hg hat))
          go_roundg k1
          case measure => have := HK1.out; omega
          case rel => exact ⟨(wrap64 (Int.tdiv x1_1 128)), (y101), (by first | rfl | (simp; done) | (simp [*]; done)), H', ⟨by have := HK1.out; omega⟩, ⟨.inl (by (with_reducible repeat (first | apply Kd.R_alloc | apply Kd.R_drewN | apply Kd.R_drew)); exact HO103.out)⟩, ⟨HGR.out⟩, ⟨by repeat (first | (with_reducible first | exact HB.out | apply below_alloc | apply pw_below_drewN | apply below_drew1) | exact HB.out)⟩⟩
        · rw [if_neg c4] at H
          exact absurd H (by simp)
      · rw [if_neg c3] at H
        have c3b0 : decide (128 ≤ x1_1) = false := decide_eq_false c3
        clear c3
        by_cases c6 : x21_1.length < 140737488355328
        · rw [if_pos c6] at H
          have LMc6 := Aside0.mk c6
          clear c6
          obtain ⟨y104, hy104⟩ : ∃ y_ : List Int, y_ = (x21_1 ++ [(x1_1) % 256]) := ⟨_, rfl⟩
          replace H : (some y104) = some r := by first | (rw [hy104]; with_reducible exact H) | (have H2_ := (Option.bind_some _ _).symm.trans H; rw [hy104]; with_reducible exact H2_) | (have H2_ := (Option.bind_some _ _).symm.trans H; with_reducible exact H2_) | with_reducible exact H | (rw [hy104]; exact H) | exact H
          have Ny104 := Aside0.mk hy104
          clear hy104
          obtain rfl := Option.some.inj H
          go_wp2_with (first | ((with_reducible refine gate_builtin (b := .append) (xs := #[.tmp 16, .tmp 19]) rfl ?_); at_builtin; refine RX.append (w0 := w0) w0.heap.size rfl (.tmp 16) (.tmp 19) 34 rfl Tryd.underlying34 info5 u0 x21_1 ((x1_1) % 256) rfl rfl ?aO ?aB ?aS ?aL ?_; (case aB => exact (by repeat (first | (with_reducible first | exact HB.out | apply below_alloc | apply pw_below_drewN | apply below_drew1) | exact HB.out))); (case aO => exact (by (with_reducible repeat (first | apply RX.alloc | apply RX.drewN | apply RX.drew)); exact HO_21.out)); (case aS => exact (below_size (by repeat (first | (with_reducible first | exact HB.out | apply below_alloc | apply pw_below_drewN | apply below_drew1) | exact HB.out)))); (case aL => have := LMc6.out; omega); intro v105 w7 ho hb hg hat; rw [← Ny104.out] at ho; have nG_ := Aside0.mk (GrowTo.step HGR.out hg hat); have n0_ := Aside0.mk (hb); have n1_ := Aside0.mk (ho); clear HB; clear HO_21 HGR; have HGR := nG_; clear nG_; have HB := n0_; have HO106 := n1_; clear n0_ n1_; clear ho hb hg hat))
          go_ret
          exact ⟨_, by first | rfl | (simp [errW_none, errW_some] <;> rfl) | (simp [*, errW_none, errW_some] <;> rfl), by (with_reducible repeat (first | apply Kd.R_alloc | apply Kd.R_drewN | apply Kd.R_drew)); exact HO106.out, HGR.out, by repeat (first | (with_reducible first | exact HB.out | apply below_alloc | apply pw_below_drewN | apply below_drew1) | exact HB.out)⟩
        · rw [if_neg c6] at H
          exact absurd H (by simp)
def dgL (x : Int) : List Int := if h : x ≥ 128 then (x % 128 + 128) :: dgL (x / 128) else [x % 256]
termination_by x.toNat
decreasing_by omega
theorem dgL_big {x : Int} (h : x ≥ 128) : dgL x = (x % 128 + 128) :: dgL (x / 128) := by rw [dgL, dif_pos h]
theorem dgL_small {x : Int} (h : ¬ x ≥ 128) : dgL x = [x % 256] := by rw [dgL, dif_neg h]
theorem dgL_pos (x : Int) : 1 ≤ (dgL x).length := by
  by_cases h : x ≥ 128
  · rw [dgL_big h, List.length_cons]; omega
  · rw [dgL_small h]; simp
theorem or128 : ∀ n : Fin 128, Go.bits .or .u8 ((n.val : Nat) : Int) 128 = ((n.val : Nat) : Int) + 128 := by decide
theorem or_dig {x : Int} (h : 0 ≤ x) : Go.bits .or .u8 ((Int.tmod x 128) % 256) 128 = x % 128 + 128 := by
  have e : Int.tmod x 128 = x % 128 := Int.tmod_eq_emod_of_nonneg h
  have e2 : (x % 128) % 256 = x % 128 := by omega
  rw [e, e2]
  have := or128 ⟨(x % 128).toNat, by omega⟩
  have e3 : (((x % 128).toNat : Nat) : Int) = x % 128 := by omega
  simp only [e3] at this
  exact this
theorem div_dig {x : Int} (h : 0 ≤ x) (h1 : x ≤ 9223372036854775807) : wrap64 (Int.tdiv x 128) = x / 128 := by
  have e : Int.tdiv x 128 = x / 128 := Int.tdiv_eq_ediv_of_nonneg h
  rw [e]
  unfold wrap64
  omega
theorem num_l0 : ∀ (n : Nat) (x : Int), x.toNat ≤ n → x ≤ 9223372036854775807 → ∀ xs : List Int, xs.length + (dgL x).length ≤ 140737488355328 → ∃ m, xNumber.l0 m x xs = some (xs ++ dgL x)
  | n, x, hn, hx, xs, hl => by
    by_cases h : x ≥ 128
    · have hp := dgL_pos (x / 128)
      rw [dgL_big h, List.length_cons] at hl
      match n, hn with
      | 0, hn => omega
      | n + 1, hn =>
        obtain ⟨m, hm⟩ := num_l0 n (x / 128) (by omega) (by omega) (xs ++ [x % 128 + 128]) (by rw [List.length_append, List.length_singleton]; omega)
        refine ⟨m + 1, ?_⟩
        rw [xNumber.l0, if_pos h, if_pos (by omega), or_dig (by omega), div_dig (by omega) hx, hm, dgL_big h]
        simp
    · rw [dgL_small h, List.length_singleton] at hl
      refine ⟨1, ?_⟩
      rw [xNumber.l0, if_neg h, if_pos (by omega), dgL_small h]
theorem dgL_range : ∀ (n : Nat) (x : Int), x.toNat ≤ n → ∀ d ∈ dgL x, 0 ≤ d ∧ d < 256
  | n, x, hn, d, hd => by
    by_cases h : x ≥ 128
    · rw [dgL_big h] at hd
      match n, hn with
      | 0, hn => omega
      | n + 1, hn =>
        rcases List.mem_cons.1 hd with rfl | hd
        · omega
        · exact dgL_range n (x / 128) (by omega) d hd
    · rw [dgL_small h, List.mem_singleton] at hd
      subst hd
      omega
theorem bytes_nums : ∀ l : List Int, (∀ d ∈ l, 0 ≤ d ∧ d < 256) → bytesOf (strOfNums l) = l
  | l, h => by
    unfold bytesOf strOfNums
    simp only [List.map_map]
    conv => rhs; rw [← List.map_id l]
    apply List.map_congr_left
    intro d hd
    obtain ⟨h0, h1⟩ := h d hd
    simp
    omega
def xDigits.f (x : Int) : Option ByteArray := if x ≤ 9223372036854775807 then some (strOfNums (dgL x)) else none
theorem xNumber.calls (w0 : World) (v : Value) (xs : List Int) (x : Int) (t : ByteArray) (w : World) (aO : RX w w0.heap.size v xs) (aB : Below w0.heap.size w0 w) (aL : xs.length + t.size ≤ 140737488355328) (h : xDigits.f x = some t) :
    Calls Tryd.prog 29 #[v, .int .i64 x] w fun e w' => ∃ v1 : Value, e = .returned v1 ∧ Kd.R (Kd.int .u8) 5 w' w0.heap.size (fun _ => True) v1 (xs ++ bytesOf t) ∧ Below w0.heap.size w0 w' ∧ w.grownBy w' v.ownBlock := by
  unfold xDigits.f at h
  split at h
  · rename_i hx
    obtain rfl := Option.some.inj h
    have hb := bytes_nums (dgL x) (dgL_range _ x (Nat.le_refl _))
    have hs : (strOfNums (dgL x)).size = (dgL x).length := by
      have := congrArg List.length hb
      rw [bytesOf_length] at this
      exact this
    obtain ⟨m, hm⟩ := num_l0 _ x (Nat.le_refl _) hx xs (by omega)
    refine (xNumber.walk m w0 v xs x _ w ⟨aO⟩ ⟨aB⟩ hm).mono fun e w' ⟨v1, he, hr, hg, hb2⟩ => ⟨v1, he, ?_, hb2, hg.1⟩
    rw [hb]
    exact hr
  · cases h
end Go.Proofs.YtdkejcadoepnnaaDoor.X
