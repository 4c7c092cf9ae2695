/-
  A list out of a list of lists is grown by append while the list of lists still shows it: what stays. Conditions: rows of one's own, no two of which lead to one block.
-/
import Derived.Test.YtdeannaaafffbaaDoorKeECdx0
set_option linter.unusedSimpArgs false
set_option linter.unusedVariables false
set_option linter.unusedSimpArgs false
namespace Go.Proofs.YtdeannaaafffbaaDoor.ECd
theorem info24 : (Tryd.prog.info? 24).map (fun i => (i.zero, i.size, i.bytes)) = some (some (.slice none 0 0), 1, 24) := by kernel_rfl
end Go.Proofs.YtdeannaaafffbaaDoor.ECd
namespace Go.Proofs.YtdeannaaafffbaaDoor.X
open Go.RowKit Go.Proofs.YtdeannaaafffbaaDoorW.PrintWords Go.Proofs.YtdeannaaafffbaaDoorW.PrintLast Go.Proofs.YtdeannaaafffbaaDoorW.PrintMore Go.Proofs.YtdeannaaafffbaaDoor.ECd
/-- append: rows of the same type that are no longer than what was owned stay as they were (also where they lie in the row that grows). -/
theorem run_append_keep {P : Program} (w : World) (base : Nat) (t ty e : TypeId) (i : TypeInfo) (z : Value) (size bytes : Nat) (ht : P.underlying t = some (.slice e)) (hi : P.info? e = some i) (hz : i.zero = some z)
    (hsize : i.size = size) (hby : i.bytes = bytes) (hzs : z.cells.size = size) (hsz : 0 < size)
    (v : Value) (n : Nat) (xs : List Value) (hown : w.ownsRow base e size v n xs)
    (a : Addr) (m c : Nat) (news : List Value) (hl : news.length = m * size) (hnews : ∀ j u, news[j]? = some u → w.cell? (a.add j) = some u) (h1 : ∀ u ∈ news, u.oneCell' = true)
    (h63 : n + m ≤ maxLen) (hbytes : (n + m) * bytes ≤ 140737488355328) (hbase : base ≤ w.heap.size) :
    ∃ v' w', (Builtin.append_ #[t, t] ty #[v, .slice (some a) m c]).run P w = .ok v' w' ∧ w'.ownsRow base e size v' (n + m) (xs ++ news) ∧ w.grownBy w' v.ownBlock ∧
      (v'.ownBlock = v.ownBlock ∨ v'.ownBlock = some w.heap.size) ∧ ∀ b u m' ys, w.ownsRow b e size u m' ys → m' ≤ n → w'.ownsRow b e size u m' ys := by
  obtain ⟨v', w', hr, h2, h3, h4, h5⟩ := run_append_own_at (P := P) w base t ty e i z size bytes ht hi hz hsize hby hzs hsz v n xs hown a m c news hl hnews h1 h63 hbytes hbase
  refine ⟨v', w', hr, h2, h3, h5, ?_⟩
  intro b u m' ys hu hm'
  by_cases hne : u.ownBlock = none ∨ u.ownBlock ≠ v.ownBlock
  · exact hu.kept h3 hne
  obtain ⟨hn1, hn2⟩ := not_or.1 hne
  have hn3 : u.ownBlock = v.ownBlock := Classical.not_not.1 hn2
  subst hsize hby
  rcases hown.2 with ⟨rfl, rfl⟩ | ⟨g, cap, cur, rfl, hbg, hg, hnc, hcm, hcs, htake⟩
  · exact absurd (by simpa [Value.ownBlock] using hn3) hn1
  · by_cases hroom : n + m ≤ cap
    · have hfit : n * i.size + news.length ≤ cur.size := by rw [hl, hcs, ← Nat.add_mul]; exact Nat.mul_le_mul_right _ hroom
      have hr2 := run_append_room (P := P) w t ty e i ht hi g n cap cur hg a m c news hl hnews h1 hroom hfit
      rw [hr] at hr2
      injection hr2 with e1 e2
      subst e1 e2
      rcases hu.2 with ⟨rfl, _⟩ | ⟨g', cap', cur', rfl, hbg', hg', hnc', hcm', hcs', htake'⟩
      · exact absurd rfl hn1
      · have hgg : g' = g := by simpa [Value.ownBlock] using hn3
        subst hgg
        have hcc : cur' = cur := by
          rw [hg] at hg'
          injection hg' with hg'
          injection hg' with hg' _ _
          exact hg'.symm
        subst hcc
        have hmn : m' * i.size ≤ n * i.size := Nat.mul_le_mul_right _ hm'
        refine ⟨hu.1, .inr ⟨g', cap', _, rfl, hbg', setRow_heap w g' cur' _ e _ hg, hnc', hcm', ?_, ?_⟩⟩
        · rw [← hcs']
          simp only [List.size_toArray, List.length_append, List.length_take, List.length_drop, Array.length_toList]
          omega
        · rw [← htake', List.toList_toArray, List.append_assoc, List.take_append_of_le_length (by rw [List.length_take, Array.length_toList]; omega), List.take_take, Nat.min_eq_left hmn]
    · have holds : ∀ j u, xs[j]? = some u → w.cell? ((⟨g, 0, none⟩ : Addr).add j) = some u := hown.cells (g := g) rfl
      have hsm : n + m ≤ 9223372036854775807 := by simp only [maxLen] at h63; omega
      have hr2 := run_append_grow (P := P) w t ty e i z ht hi hz ⟨g, 0, none⟩ n cap xs hown.1 holds a m c news hl hnews (by omega) (by omega) (growslice_fits (by omega) hbytes)
      rw [hr] at hr2
      injection hr2 with e1 e2
      subst e1 e2
      exact own_move hu (fun k hk => heap_alloc_old w.drew _ (own_lt hu k hk))
section
variable {P : Program} {ops : Array Oper} {rest : List Oper} {o : Oper} {a : Act} {Q : Exit → Act → World → Prop}
/-- append(v, x), x of several cells; behind 'at_builtin'; with what stays. -/
theorem print_append_keep {w0 W : World} (base : Nat) (hgd : o.guard = none) (s x : Operand) (t e : TypeId) (z : Value) (size bytes : Nat)
    (ho : o.op = .call { callee := .builtin .append, args := #[s, x], argTypes := #[t, t] })
    (ht : P.underlying t = some (.slice e)) (hinfo : (P.info? e).map (fun i => (i.zero, i.size, i.bytes)) = some (some z, size, bytes)) (hz : z.cells.size = size) (hs0 : 0 < size) (hb0 : 0 < bytes)
    (v : Value) (n : Nat) (xs ys : List Value) (hs : a.eval s = v) (hx : a.eval x = .slice (some ⟨W.heap.size, 0, none⟩) 1 1) (hys : ys.length = size) (h1 : ∀ u ∈ ys, u.oneCell' = true)
    (HO : W.ownsRow base e size v n xs) (HB : Below base w0 W) (hbase : base ≤ W.heap.size) (hl : (n + 1) * bytes ≤ 140737488355328)
    (h : ∀ v1 w1, w1.ownsRow base e size v1 (n + 1) (xs ++ ys) → Below base w0 w1 → W.grownBy w1 v.ownBlock → (v1.ownBlock = v.ownBlock ∨ ∃ b, v1.ownBlock = some b ∧ W.heap.size ≤ b) →
      (∀ b u m' zs, W.ownsRow b e size u m' zs → m' ≤ n → w1.ownsRow b e size u m' zs) → wpList P ops Q rest (a.put o.dst v1) w1) :
    wpList P ops Q (o :: rest) a (W.alloc (.cells ys.toArray e)) := by
  obtain ⟨i0, hi, hzz⟩ := Option.map_eq_some_iff.1 hinfo
  simp only [Prod.mk.injEq] at hzz
  obtain ⟨hz0, hz1, hz2⟩ := hzz
  have hlen : n + 1 ≤ 140737488355328 := Nat.le_trans (Nat.le_mul_of_pos_right _ hb0) hl
  refine wpList_plain hgd fun K hK => ?_
  obtain ⟨v', w', hr, h2, h3, h5, h6⟩ := run_append_keep (P := P) (W.alloc (.cells ys.toArray e)) base t o.type e i0 z size bytes ht hi hz0 hz1 hz2 hz hs0 v n xs (HO.alloc _) ⟨W.heap.size, 0, none⟩ 1 1 ys (by rw [hys]; simp)
    (by simpa using World.news_of_block (cs := ys.toArray) (t := e) (fr := (0, 0)) (heap_alloc_new W (.cells ys.toArray e))) h1 (by simp only [maxLen]; omega) hl (by simp; omega)
  unfold Oper.wp execOp
  simp only [ho, resolve, invoke, builtin, Sem.run_bind, Sem.run_pure, Result.andThen_ok, List.map_toArray, List.map_cons, List.map_nil, hs, hx, hr]
  refine hK _ _ (h v' w' h2 ((HB.alloc hbase _).grown h3 (by simp; omega) (own_base HO)) (World.grownBy.trans (World.grownBy_alloc W _ _) h3) ?_ (fun b u m' zs hu hm => h6 b u m' zs (hu.alloc _) hm))
  rcases h5 with hat | hat
  · exact .inl hat
  · exact .inr ⟨_, hat, by simp⟩
end
abbrev SL : Kd (List ByteArray) := Kd.slice 9 Kd.string
/-- A list of lists (bv) and what was grown out of its first lists (gv): f tells each list's blocks. -/
def AL (w : World) (B : Nat) (bv gv : Value) (L G : List (List ByteArray)) : Prop :=
  ∃ f : Nat → Nat, (Kd.tag f SL).R 24 w B (fun k => some k ≠ gv.ownBlock) bv L.zipIdx ∧ (Kd.tag f SL).R 24 w B (fun k => some k ≠ bv.ownBlock) gv G.zipIdx
/-- The same while the next list (lv) grows. -/
def AM (w : World) (B : Nat) (bv gv : Value) (L G : List (List ByteArray)) (lv : Value) (l : List ByteArray) : Prop :=
  ∃ f : Nat → Nat, (Kd.tag f SL).R 24 w B (fun k => some k ≠ gv.ownBlock) bv L.zipIdx ∧ (Kd.tag f SL).R 24 w B (fun k => some k ≠ bv.ownBlock) gv G.zipIdx ∧
    Kd.string.R 9 w B (fun k => f k = G.length) lv l ∧ ∀ xs, L[G.length]? = some xs → xs.length ≤ l.length
theorem AL_start {w : World} {B : Nat} {bv : Value} {L : List (List ByteArray)} (h : Kd.S SL 24 w B (fun _ => True) bv L) : AL w B bv (.slice none 0 0) L [] := by
  obtain ⟨f, hf⟩ := h
  exact ⟨f, Kd.R_mono hf (fun k _ => by simp [Value.ownBlock]), Kd.R_nil _ _ _ _ _⟩
theorem AL_below {w w1 : World} {B : Nat} {bv gv : Value} {L G : List (List ByteArray)} (h : AL w B bv gv L G) (hb : Below w.heap.size w w1) : AL w1 B bv gv L G := by
  obtain ⟨f, h1, h2⟩ := h
  exact ⟨f, Kd.R_below h1 hb, Kd.R_below h2 hb⟩
theorem AM_below {w w1 : World} {B : Nat} {bv gv lv : Value} {L G : List (List ByteArray)} {l : List ByteArray} (h : AM w B bv gv L G lv l) (hb : Below w.heap.size w w1) : AM w1 B bv gv L G lv l := by
  obtain ⟨f, h1, h2, h3, h4⟩ := h
  exact ⟨f, Kd.R_below h1 hb, Kd.R_below h2 hb, Kd.R_below h3 hb, h4⟩
theorem AL_alloc {w : World} {B : Nat} {bv gv : Value} {L G : List (List ByteArray)} (h : AL w B bv gv L G) (o : Obj) : AL (w.alloc o) B bv gv L G := AL_below h (below_alloc (Below.refl _ _) o)
theorem AL_drew {w : World} {B : Nat} {bv gv : Value} {L G : List (List ByteArray)} (h : AL w B bv gv L G) : AL w.drew B bv gv L G := AL_below h (below_drew (Below.refl _ _))
theorem AL_drewN {w : World} {B : Nat} {bv gv : Value} {L G : List (List ByteArray)} (h : AL w B bv gv L G) (m : Nat) : AL (w.drewN m) B bv gv L G := AL_below h (pw_below_drewN (Below.refl _ _) m)
theorem AM_alloc {w : World} {B : Nat} {bv gv lv : Value} {L G : List (List ByteArray)} {l : List ByteArray} (h : AM w B bv gv L G lv l) (o : Obj) : AM (w.alloc o) B bv gv L G lv l := AM_below h (below_alloc (Below.refl _ _) o)
theorem AM_drew {w : World} {B : Nat} {bv gv lv : Value} {L G : List (List ByteArray)} {l : List ByteArray} (h : AM w B bv gv L G lv l) : AM w.drew B bv gv L G lv l := AM_below h (below_drew (Below.refl _ _))
theorem AM_drewN {w : World} {B : Nat} {bv gv lv : Value} {L G : List (List ByteArray)} {l : List ByteArray} (h : AM w B bv gv L G lv l) (m : Nat) : AM (w.drewN m) B bv gv L G lv l := AM_below h (pw_below_drewN (Below.refl _ _) m)
theorem AM_slice {w : World} {B : Nat} {bv gv lv : Value} {L G : List (List ByteArray)} {l : List ByteArray} (h : AM w B bv gv L G lv l) : ∃ A c, lv = .slice A l.length c := by
  obtain ⟨f, h1, h2, h3, h4⟩ := h
  exact Kd.R_slice h3
theorem AL_S {w : World} {B : Nat} {bv gv : Value} {L G : List (List ByteArray)} (h : AL w B bv gv L G) : Kd.S SL 24 w B (fun k => some k ≠ gv.ownBlock) bv L ∧ Kd.S SL 24 w B (fun k => some k ≠ bv.ownBlock) gv G := by
  obtain ⟨f, h1, h2⟩ := h
  exact ⟨⟨f, h1⟩, ⟨f, h2⟩⟩
theorem zip_getD {L : List (List ByteArray)} {i : Nat} (h : i < L.length) : L.zipIdx.getD i ([], 0) = (L.getD i [], i) := by
  rw [List.getD_eq_getElem?_getD, List.getElem?_zipIdx, List.getElem?_eq_getElem h, List.getD_eq_getElem?_getD, List.getElem?_eq_getElem h]
  simp
/-- The next list is taken out of the list of lists. -/
theorem AL_get {w : World} {B : Nat} {ad : Addr} {n c : Nat} {gv : Value} {L G : List (List ByteArray)} (h : AL w B (.slice (some ad) n c) gv L G) (i : Int) (h0 : 0 ≤ i) (h1 : i < (L.length : Int)) (hi : i = (G.length : Int)) :
    ∃ A c', w.cell? (ad.add i.toNat) = some (.slice A (rd_L1 L i).length c') ∧ AM w B (.slice (some ad) n c) gv L G (.slice A (rd_L1 L i).length c') (rd_L1 L i) := by
  obtain ⟨f, hf, hg⟩ := h
  have hn : n = L.zipIdx.length := (Kd.R_reads' hf).1
  rw [List.length_zipIdx] at hn
  obtain ⟨ce, hce, hM, hcc⟩ := Kd.R_getA hf ([], 0) i h0 (by omega)
  have hit : i.toNat = G.length := by omega
  rw [zip_getD (by omega)] at hM
  obtain ⟨v, rfl, hv⟩ : ∃ v, ce = [v] ∧ Kd.string.R 9 w B (fun k => (((some k ≠ gv.ownBlock) ∧ some k ≠ (Value.slice (some ad) n c).ownBlock) ∧ f k = i.toNat)) v (rd_L1 L i) := hM
  obtain ⟨A, c', rfl⟩ := Kd.R_slice hv
  have hcell := hcc 0 _ rfl
  rw [Nat.add_zero, show (Kd.tag f SL).sz = 1 from rfl, Nat.mul_one] at hcell
  refine ⟨A, c', hcell, f, hf, hg, Kd.R_mono hv (fun k hk => by rw [hk.2, hit]), fun xs hxs => ?_⟩
  have : rd_L1 L i = xs := by
    unfold rd_L1
    rw [hit, List.getD_eq_getElem?_getD, hxs]
    rfl
  rw [this]
  exact Nat.le_refl _
/-- A list of lists over the growing of one of its lists. -/
theorem tag_keep {W w1 : World} {B i : Nat} {f : Nat → Nat} {ok : Nat → Prop} {bv lv : Value} {n : Nat} {L : List (List ByteArray)} (h : (Kd.tag f SL).R 24 W B ok bv L.zipIdx) (hg : W.grownBy w1 lv.ownBlock)
    (hlv : ∀ k, lv.ownBlock = some k → f k = i ∧ ∃ cells, W.heap[k]? = some (.cells cells 9 (0, 0))) (hn : ∀ xs, L[i]? = some xs → xs.length ≤ n)
    (keep : ∀ b u m' zs, W.ownsRow b 9 1 u m' zs → m' ≤ n → w1.ownsRow b 9 1 u m' zs) : (Kd.tag f SL).R 24 w1 B ok bv L.zipIdx := by
  obtain ⟨h0, inner, ho, hr⟩ := h
  have hne : bv.ownBlock = none ∨ bv.ownBlock ≠ lv.ownBlock := by
    cases hb : bv.ownBlock with
    | none => exact .inl rfl
    | some k =>
      refine .inr fun e => ?_
      obtain ⟨_, c1, hc1⟩ := hlv k e.symm
      obtain ⟨c2, hc2⟩ := own_typed ho k hb
      rw [hc1] at hc2
      injection hc2 with hc2
      injection hc2 with _ hc2 _
      exact absurd hc2 (by decide)
  refine ⟨h0, inner, ho.kept hg hne, hr.1, fun j p hj => ?_⟩
  have hp := hr.2 j p hj
  by_cases hi : p.2 = i
  · obtain ⟨v, hv, q0, inner', ho', hr'⟩ := hp
    refine ⟨v, hv, q0, inner', keep _ _ _ _ ho' (hn _ ?_), hr'⟩
    rw [List.getElem?_zipIdx, Nat.zero_add] at hj
    obtain ⟨x, hx, rfl⟩ := Option.map_eq_some_iff.1 hj
    have hji : j = i := hi
    rw [← hji]
    exact hx
  · have hp' : (Kd.tag f SL).M W B (fun k => (ok k ∧ some k ≠ bv.ownBlock) ∧ f k = p.2) p ((inner.drop (j * SL.sz)).take SL.sz) := (Kd.tag f SL).M_mono (fun k hk => hk) (SL.M_mono (fun k hk => ⟨hk, hk.2⟩) hp)
    refine (Kd.tag f SL).M_mono (fun k hk => hk.1) (Kd.M_step hp' (fun k hk hlt => hg.block k hlt (fun e => hi ?_)))
    rw [← hk.2]
    exact (hlv k e.symm).1
section
variable {ops : Array Oper} {rest : List Oper} {o : Oper} {a : Act} {Q : Exit → Act → World → Prop}
/-- append(l, one text). -/
theorem AM_append {w0 W : World} {B : Nat} {bv gv lv : Value} {L G : List (List ByteArray)} {l : List ByteArray} (hgd : o.guard = none) (s x : Operand)
    (ho : o.op = .call { callee := .builtin .append, args := #[s, x], argTypes := #[24, 24] }) (y : ByteArray)
    (hs : a.eval s = lv) (hx : a.eval x = .slice (some ⟨W.heap.size, 0, none⟩) 1 1)
    (HO : AM W B bv gv L G lv l) (HB : Below B w0 W) (hbase : B ≤ W.heap.size) (hl : (l.length + 1) * 16 ≤ 140737488355328)
    (h : ∀ v1 w1, AM w1 B bv gv L G v1 (l ++ [y]) → Below B w0 w1 → wpList Tryd.prog ops Q rest (a.put o.dst v1) w1) :
    wpList Tryd.prog ops Q (o :: rest) a (W.alloc (.cells [Value.string y].toArray 9)) := by
  obtain ⟨f, h1, h2, h3, h4⟩ := HO
  let f' : Nat → Nat := fun k => if W.heap.size ≤ k then G.length else f k
  have hf' : ∀ k, k < W.heap.size → f' k = f k := fun k hk => if_neg (by omega)
  have g1 : (Kd.tag f' SL).R 24 W B (fun k => some k ≠ gv.ownBlock) bv L.zipIdx := Kd.R_tag h1 (fun k _ hk => hf' k hk)
  have g2 : (Kd.tag f' SL).R 24 W B (fun k => some k ≠ bv.ownBlock) gv G.zipIdx := Kd.R_tag h2 (fun k _ hk => hf' k hk)
  have g3 : Kd.string.R 9 W B (fun k => f' k = G.length) lv l := Kd.R_mono (Kd.R_bound h3) (fun k hk => (hf' k hk.2.2.1).trans hk.1)
  have hlv : ∀ k, lv.ownBlock = some k → f' k = G.length ∧ ∃ cells, W.heap[k]? = some (.cells cells 9 (0, 0)) := fun k hk => ⟨g3.1 k hk, Kd.R_typed g3 k hk⟩
  obtain ⟨q0, inner, hown, hr⟩ := g3
  refine print_append_keep B hgd s x 24 9 (.string ⟨#[]⟩) 1 16 ho Tryd.underlying24 info9 rfl (by decide) (by decide) lv l.length inner [Value.string y] hs hx rfl (by intro u hu; rw [List.mem_singleton.1 hu]; rfl) hown HB hbase hl ?_
  intro v1 w1 hown1 hb1 hg hat keep
  refine h v1 w1 ⟨f', tag_keep g1 hg hlv h4 keep, tag_keep g2 hg hlv (fun xs hxs => ?_) keep, ?_, fun xs hxs => ?_⟩ hb1
  · have := (List.getElem?_eq_some_iff.1 hxs).1
    omega
  · refine Kd.R_mono (ok := fun k => f' k = G.length) (Kd.R_appended (d := Kd.string) (cs := [Value.string y]) (p := y) (okp := fun _ => False) q0 hr rfl (fun _ hk => hk.elim) (fun k hk => if_pos hk) hown1 hg hat) (fun _ hk => hk)
  · have := h4 xs hxs
    rw [List.length_append, List.length_singleton]
    omega
/-- append(grown, l). -/
theorem AM_done {w0 W : World} {B : Nat} {bv gv lv : Value} {L G : List (List ByteArray)} {l : List ByteArray} (hgd : o.guard = none) (s x : Operand)
    (ho : o.op = .call { callee := .builtin .append, args := #[s, x], argTypes := #[31, 31] })
    (hs : a.eval s = gv) (hx : a.eval x = .slice (some ⟨W.heap.size, 0, none⟩) 1 1)
    (HO : AM W B bv gv L G lv l) (HB : Below B w0 W) (hbase : B ≤ W.heap.size) (hl : (G.length + 1) * 24 ≤ 140737488355328)
    (h : ∀ v1 w1, AL w1 B bv v1 L (G ++ [l]) → Below B w0 w1 → wpList Tryd.prog ops Q rest (a.put o.dst v1) w1) :
    wpList Tryd.prog ops Q (o :: rest) a (W.alloc (.cells [lv].toArray 24)) := by
  obtain ⟨f, h1, h2, h3, h4⟩ := HO
  have hb1 := Kd.R_typed h1
  have hb2 := Kd.R_typed h2
  refine Kd.R_append (Kd.tag f SL) (w0 := w0) B hgd s x 31 24 (.slice none 0 0) 24 ho Tryd.underlying31 info24 rfl (show 0 < 1 by decide) (by decide) gv G.zipIdx (l, G.length) [lv] (fun k => some k ≠ bv.ownBlock) (fun k => some k = lv.ownBlock) hs hx ?_ ?_ ?_ h2 HB hbase (by rw [List.length_zipIdx]; exact hl) ?_
  · refine ⟨lv, rfl, Kd.R_mono (Kd.R_tight2 rfl h3) (fun k hk => hk)⟩
  · intro k hk
    have ht := Kd.R_typed h3 k hk.symm
    obtain ⟨c1, hc1⟩ := ht
    refine ⟨fun e => ?_, fun e => ?_⟩
    · obtain ⟨c2, hc2⟩ := hb1 k e.symm
      rw [hc1] at hc2
      injection hc2 with hc2
      injection hc2 with _ hc2 _
      exact absurd hc2 (by decide)
    · obtain ⟨c2, hc2⟩ := hb2 k e.symm
      rw [hc1] at hc2
      injection hc2 with hc2
      injection hc2 with _ hc2 _
      exact absurd hc2 (by decide)
  · intro k hk e
    have := Kd.R_lt h1 k e.symm
    omega
  · intro v1 w1 hr hb hg hat
    rw [← Kd.zip_snoc] at hr
    refine h v1 w1 ⟨f, ?_, hr⟩ hb
    exact Kd.R_mono (Kd.R_after (ok := fun _ => True) (Kd.R_mono h1 (fun k hk => ⟨trivial, hk⟩)) hg hat) (fun k hk => hk.2)
end
end Go.Proofs.YtdeannaaafffbaaDoor.X
